/-
  The parser's state, and the walks of its small methods.
  The walks of the parser's tests and small steps.
  The plain model of the parser: its rules go forward, and enough fuel is enough. No program in sight.
  The walk of ratio.Parse.
  The walks of the parser's numbers.
  The walks of the parser's quotients, values, names.
-/
import Derived.Test.YtkjoohnndobjeaaGreatDoorQA
import Derived.Test.YtkjoohnndobjeaaGreatDoorQC
import Derived.Test.YtkjoohnndobjeaaGreatDoorQH
import Derived.Test.YtkjoohnndobjeaaGreatDoorQG
set_option linter.unusedVariables false
set_option maxHeartbeats 4000000
set_option maxRecDepth 100000
namespace Go.Proofs.YtkjoohnndobjeaaGreatDoor
open Go.RowKit Go.Fl Go.Fl.Lx Go.Fl.Nm Go.Fl.Fm Go.Fl.Rt Go.Fl.Pa
open List (setIfInBounds_toArray set_cons_zero set_cons_succ getElem_toArray getElem_cons_zero getElem_cons_succ)
/-- The tokens as they lie. -/
structure TsAt (w : World) (A : Option Addr) (len cap : Nat) (ts : List Tok) : Prop where
  hl : ts.length = len
  hc : len ≤ cap
  hm : cap ≤ maxLen
  hs : len ≤ 100000
  hr : Rd w 4 A len (toksCells ts)
  ht : ∀ t ∈ ts, t.text.length ≤ 100 ∧ t.kind ≤ 3 ∧ t.line ≤ 100000 ∧ t.col ≤ 100000
theorem TsAt.belowW {w w' : World} {A : Option Addr} {len cap : Nat} {ts : List Tok} (h : TsAt w A len cap ts) (hb : Below w.heap.size w w') : TsAt w' A len cap ts := ⟨h.hl, h.hc, h.hm, h.hs, h.hr.below hb, h.ht⟩
theorem TsAt.b9 {w w' : World} {A : Option Addr} {len cap : Nat} {ts : List Tok} (h : TsAt w A len cap ts) (hb : Go.RowKit.Hid (Go.RowKit.Below w.heap.size w w')) : Go.RowKit.Hid (TsAt w' A len cap ts) := hI (TsAt.belowW h hb.out)
@[reducible] def tokV (t : Tok) : Value := .agg #[.int .i64 t.kind, .string ⟨t.text.toArray⟩, .int .i64 t.line, .int .i64 t.col]
/-- The parser in block g: its tokens, the next one's number, the nesting. -/
def Ps (g : Nat) (A : Option Addr) (len cap k m : Nat) (w : World) : Prop := Blk w g 140 #[.slice A len cap, .int .i64 (k : Nat), .int .i64 (m : Nat)]
theorem Ps.belowW {g : Nat} {A : Option Addr} {len cap k m : Nat} {w w' : World} (h : Ps g A len cap k m w) (hb : Below w.heap.size w w') : Ps g A len cap k m w' := Blk.belowW h hb
theorem Ps.b9 {g : Nat} {A : Option Addr} {len cap k m : Nat} {w w' : World} (h : Ps g A len cap k m w) (hb : Go.RowKit.Hid (Go.RowKit.Below w.heap.size w w')) : Go.RowKit.Hid (Ps g A len cap k m w') := hI (Ps.belowW h hb.out)
theorem tk_at {ts : List Tok} {k : Nat} (h : k < ts.length) : ts[k]? = some (tk ts k) := by
 unfold tk
 rw [List.getD_eq_getElem?_getD, List.getElem?_eq_getElem h]
 rfl
theorem tk_end {ts : List Tok} {k : Nat} (h : ts.length ≤ k) : tk ts k = ⟨0, [], 0, 0⟩ := by
 unfold tk
 rw [List.getD_eq_getElem?_getD, List.getElem?_eq_none h]
 rfl
theorem TsAt.tk {w : World} {A : Option Addr} {len cap : Nat} {ts : List Tok} (h : TsAt w A len cap ts) (k : Nat) : (tk ts k).text.length ≤ 100 ∧ (tk ts k).kind ≤ 3 ∧ (tk ts k).line ≤ 100000 ∧ (tk ts k).col ≤ 100000 := by
 by_cases hk : k < ts.length
 ·
  exact h.ht _ (List.mem_of_getElem? (tk_at hk))
 rw [tk_end (by omega)]
 exact ⟨Nat.zero_le _, Nat.zero_le _, Nat.zero_le _, Nat.zero_le _⟩
theorem TsAt.at_ {w : World} {A : Option Addr} {len cap : Nat} {ts : List Tok} (h : TsAt w A len cap ts) (k : Nat) (hk : k < len) :
 ∃ b o, A = some ⟨b, o, none⟩ ∧ Ct w b (o + k * 4) (tokCells (Pa.tk ts k)) := by
 obtain ⟨b, o, hA, hb, hcell⟩ := h.hr.at_ (by omega)
 have ht := tk_at (ts := ts) (k := k) (by rw [h.hl]; exact hk)
 refine ⟨b, o, hA, hb, fun j u hu => ?_⟩
 have hj : j < 4 := (List.getElem?_eq_some_iff.1 hu).1
 have := hcell _ _ ((toks_at ts k _ ht j hj).trans hu)
 rwa [← Nat.add_assoc] at this
/-- How a rule ends in an error. -/
@[reducible] def pan (ln co er : Int) : Ending := .panicked [{ v := .iface 137 (.agg #[.int .i64 ln, .int .i64 co, .int .i64 er]), recovered := false }]
theorem tokF0 (t : Tok) (w : World) : (Instr.field 58 (tokV t) 0).run Tryz.prog w = .ok (.int .i64 t.kind) w := by kernel_rfl
theorem tokF1 (t : Tok) (w : World) : (Instr.field 58 (tokV t) 1).run Tryz.prog w = .ok (.string ⟨t.text.toArray⟩) w := by kernel_rfl
theorem tokF2 (t : Tok) (w : World) : (Instr.field 58 (tokV t) 2).run Tryz.prog w = .ok (.agg #[.int .i64 t.line, .int .i64 t.col]) w := by kernel_rfl
theorem beq_txt (l : List UInt8) (s : ByteArray) : ((⟨l.toArray⟩ : ByteArray) == s) = (l == s.data.toList) := by
 cases s with
 | mk d =>
  show ((l.toArray : Array UInt8) == d) = (l == d.toList)
  cases d with
  | mk e => simp

theorem pToken (w0 w : World) (g k m : Nat) (A : Option Addr) (len cap : Nat) (ts : List Tok) (hT : TsAt w0 A len cap ts) (hw : Below w0.heap.size w0 w) (hg : w0.heap.size ≤ g) (hP : Ps g A len cap k m w) (hk : k ≤ 150000) (n : Nat) (hn : n ≤ 10) : Calls Tryz.prog 124 #[.pointer (some ⟨g, 0, none⟩), .int .i64 (n : Nat)] w (RetB (tokV (tk ts (k + n))) w) := by
 have X := hI hT
 have Y := hI hw
 have E := hI hP
 have av := hT.hs
 have Z := hI hT.hl
 unfold Ps at E
 clear hT hw hP
 have e1 : IntKind.i64.wrap ((k : Int) + (n : Int)) = (k : Int) + (n : Int) := by rw [IntKind.wrap_i64]; omega
 have e2 : ((k : Int) + (n : Int)).toNat = k + n := by omega
 have aa := E.out.lt
 by_cases hlt : k + n < len
 ·
  obtain ⟨b, o, hA, L⟩ := (X.out.belowW Y.out).at_ (k + n) hlt; subst hA; have I := hI L; obtain ⟨T, M⟩ := eX (tk ts (k + n)); rw [← M] at I ⊢; clear L M; have ac := I.out.lt; have ay : 0 ≤ (k : Int) + (n : Int) ∧ (k : Int) + (n : Int) < (len : Int) := (by omega); have d1 : decide ((len : Int) ≤ (k : Int) + (n : Int)) = false := decide_eq_false (by omega); have d2 : decide (len ≤ k + n) = false := decide_eq_false (by omega)
  go_enter Tryz.func124, Tryz.ntmps124
  go_upto_region 1 with (fail)
  obtain ⟨i, j⟩ := eX (w.alloc (Obj.cells #[.int .i64 0, .string ⟨#[]⟩, .int .i64 0, .int .i64 0] 58)); have q := hI (show Lo w i by rw [j]; exact below_box _ _); have J := hI (show Blk i w.heap.size 58 #[.int .i64 0, .string ⟨#[]⟩, .int .i64 0, .int .i64 0] by rw [j]; exact Blk.new _ _ _); rw [← j]; clear j; have a := hI (below_dr i); have p := J.out.b9 a; have d := hI ((E.out.belowW q.out).belowW a.out); have s := q.out.b9 a; have N := hI ((I.out.belowW q.out).belowW a.out)
  refine wp_region_held_drew (S := fun w' => w'.cell? ⟨g, 0, none⟩ = some (.slice (some ⟨b, o, none⟩) len cap) ∧ w'.cell? ⟨g, 1, none⟩ = some (.int .i64 (k : Nat)) ∧ w'.cell? ⟨g, 2, none⟩ = some (.int .i64 (m : Nat))) (by kernel_rfl) ?_ (fun hHeld => ?_)
  case refine_1 => exact ⟨d.out.cell 0, d.out.cell 1, d.out.cell 2⟩
  obtain ⟨F, l⟩ := eX (i.drew); rw [← l] at a p d s N hHeld ⊢; clear l
  refine tkY 0 rfl (v := ?_) (.inl ⟨by rfl, ?_⟩) ?_
  case refine_2 => intro w9 hSw; (try dsimp only at hSw); go_simp; (try with_reducible rfl)
  try simp only [Act.put, setIfInBounds_toArray, set_cons_zero, set_cons_succ, getElem_toArray, getElem_cons_zero]
  refine tkY 1 rfl (v := ?_) (.inl ⟨by rfl, ?_⟩) ?_
  case refine_2 => intro w9 hSw; (try dsimp only at hSw); go_simp; (try with_reducible rfl)
  try simp only [Act.put, setIfInBounds_toArray, set_cons_zero, set_cons_succ, getElem_toArray, getElem_cons_zero, getElem_cons_succ]
  refine tkY 2 rfl (v := ?_) (.inl ⟨by rfl, ?_⟩) ?_
  case refine_2 => intro w9 hSw; (try dsimp only at hSw); go_simp; (try with_reducible rfl)
  try simp only [Act.put, setIfInBounds_toArray, set_cons_zero, set_cons_succ, getElem_toArray, getElem_cons_zero, getElem_cons_succ]
  refine tkY 3 rfl (v := ?_) (.inl ⟨by rfl, ?_⟩) ?_
  case refine_2 => intro w9 hSw; (try dsimp only at hSw); go_simp; (try with_reducible rfl)
  try simp only [Act.put, setIfInBounds_toArray, set_cons_zero, set_cons_succ, getElem_toArray, getElem_cons_zero, getElem_cons_succ]
  refine tkY 4 rfl (v := ?_) (.inl ⟨by rfl, ?_⟩) ?_
  case refine_2 => intro w9 hSw; (try dsimp only at hSw); go_simp; (try with_reducible rfl)
  try simp only [Act.put, setIfInBounds_toArray, set_cons_zero, set_cons_succ, getElem_toArray, getElem_cons_zero, getElem_cons_succ]
  refine tkY 5 rfl (v := ?_) (.inl ⟨by rfl, ?_⟩) ?_
  case refine_2 => intro w9 hSw; (try dsimp only at hSw); go_simp; (try with_reducible rfl)
  try simp only [Act.put, setIfInBounds_toArray, set_cons_zero, set_cons_succ, getElem_toArray, getElem_cons_zero, getElem_cons_succ]
  refine tkY 6 rfl (v := ?_) (.inl ⟨by rfl, ?_⟩) ?_
  case refine_2 => intro w9 hSw; (try dsimp only at hSw); go_simp; (try with_reducible rfl)
  try simp only [Act.put, setIfInBounds_toArray, set_cons_zero, set_cons_succ, getElem_toArray, getElem_cons_zero, getElem_cons_succ]
  refine tkY 7 rfl (v := ?_) (.inl ⟨by rfl, ?_⟩) ?_
  case refine_2 => intro w9 hSw; (try dsimp only at hSw); go_simp; (try with_reducible rfl)
  try simp only [Act.put, setIfInBounds_toArray, set_cons_zero, set_cons_succ, getElem_toArray, getElem_cons_zero, getElem_cons_succ]
  refine tkY 8 rfl (v := ?_) (.inl ⟨by rfl, ?_⟩) ?_
  case refine_2 => intro w9 hSw; (try dsimp only at hSw); go_simp; (try with_reducible rfl)
  try simp only [Act.put, setIfInBounds_toArray, set_cons_zero, set_cons_succ, getElem_toArray, getElem_cons_zero, getElem_cons_succ]
  refine tkY 9 rfl (v := ?_) (.inl ⟨by rfl, ?_⟩) ?_
  case refine_2 => intro w9 hSw; (try dsimp only at hSw); go_simp; (try with_reducible rfl)
  try simp only [Act.put, setIfInBounds_toArray, set_cons_zero, set_cons_succ, getElem_toArray, getElem_cons_zero, getElem_cons_succ]
  refine tkY 10 rfl (v := ?_) (.inl ⟨by rfl, ?_⟩) ?_
  case refine_2 => intro w9 hSw; (try dsimp only at hSw); go_simp; (try with_reducible rfl)
  try simp only [Act.put, setIfInBounds_toArray, set_cons_zero, set_cons_succ, getElem_toArray, getElem_cons_zero, getElem_cons_succ]
  refine tkY 11 rfl (v := ?_) (.inl ⟨by rfl, ?_⟩) ?_
  case refine_2 => intro w9 hSw; (try dsimp only at hSw); go_simp; (try with_reducible rfl)
  try simp only [Act.put, setIfInBounds_toArray, set_cons_zero, set_cons_succ, getElem_toArray, getElem_cons_zero, getElem_cons_succ]
  refine wpAnyH_done (by kernel_rfl) ?_ _
  go_wp2_with fail
  have u := hI (below_dr F); have G := p.out.b9 u; have x := d.out.b9 u; have O := s.out.b9 u; have r := N.out.b9 u
  refine wp_region_held_drew (S := fun w' => w'.cell? ⟨g, 0, none⟩ = some (.slice (some ⟨b, o, none⟩) len cap) ∧ w'.cell? ⟨g, 1, none⟩ = some (.int .i64 (k : Nat)) ∧ w'.cell? ⟨g, 2, none⟩ = some (.int .i64 (m : Nat)) ∧ w'.cell? ⟨b, o + (k + n) * 4, none⟩ = some (.int .i64 T.kind) ∧ w'.cell? ⟨b, o + (k + n) * 4 + 1, none⟩ = some (.string ⟨T.text.toArray⟩) ∧ w'.cell? ⟨b, o + (k + n) * 4 + 2, none⟩ = some (.int .i64 T.line) ∧ w'.cell? ⟨b, o + (k + n) * 4 + 3, none⟩ = some (.int .i64 T.col)) (by kernel_rfl) ?_ (fun hHeld => ?_)
  case refine_1 => exact ⟨x.out.cell 0, x.out.cell 1, x.out.cell 2, r.out.c 0 _ rfl, r.out.c 1 _ rfl, r.out.c 2 _ rfl, r.out.c 3 _ rfl⟩
  obtain ⟨af, l⟩ := eX (F.drew); rw [← l] at u G x O r hHeld ⊢; clear l
  refine tkY 0 rfl (v := ?_) (.inl ⟨by rfl, ?_⟩) ?_
  case refine_2 => intro w9 hSw; (try dsimp only at hSw); go_simp; (try with_reducible rfl)
  try simp only [Act.put, setIfInBounds_toArray, set_cons_zero, set_cons_succ, getElem_toArray, getElem_cons_zero]
  refine tkY 1 rfl (v := ?_) (.inl ⟨by rfl, ?_⟩) ?_
  case refine_2 => intro w9 hSw; (try dsimp only at hSw); go_simp; (try with_reducible rfl)
  try simp only [Act.put, setIfInBounds_toArray, set_cons_zero, set_cons_succ, getElem_toArray, getElem_cons_zero, getElem_cons_succ]
  refine tkY 2 rfl (v := ?_) (.inl ⟨by rfl, ?_⟩) ?_
  case refine_2 => intro w9 hSw; (try dsimp only at hSw); go_simp; (try with_reducible rfl)
  try simp only [Act.put, setIfInBounds_toArray, set_cons_zero, set_cons_succ, getElem_toArray, getElem_cons_zero, getElem_cons_succ]
  refine tkY 3 rfl (v := ?_) (.inl ⟨by rfl, ?_⟩) ?_
  case refine_2 => intro w9 hSw; (try dsimp only at hSw); go_simp; (try with_reducible rfl)
  try simp only [Act.put, setIfInBounds_toArray, set_cons_zero, set_cons_succ, getElem_toArray, getElem_cons_zero, getElem_cons_succ]
  refine tkY 4 rfl (v := ?_) (.inl ⟨by rfl, ?_⟩) ?_
  case refine_2 => intro w9 hSw; (try dsimp only at hSw); go_simp; (try with_reducible rfl)
  try simp only [Act.put, setIfInBounds_toArray, set_cons_zero, set_cons_succ, getElem_toArray, getElem_cons_zero, getElem_cons_succ]
  refine tkY 5 rfl (v := ?_) (.inl ⟨by rfl, ?_⟩) ?_
  case refine_2 => intro w9 hSw; (try dsimp only at hSw); go_simp; (try with_reducible rfl)
  try simp only [Act.put, setIfInBounds_toArray, set_cons_zero, set_cons_succ, getElem_toArray, getElem_cons_zero, getElem_cons_succ]
  refine tkY 6 rfl (v := ?_) (.inl ⟨by rfl, ?_⟩) ?_
  case refine_2 => intro w9 hSw; (try dsimp only at hSw); go_simp; (try with_reducible rfl)
  try simp only [Act.put, setIfInBounds_toArray, set_cons_zero, set_cons_succ, getElem_toArray, getElem_cons_zero, getElem_cons_succ]
  refine tkY 7 rfl (v := ?_) (.inl ⟨by rfl, ?_⟩) ?_
  case refine_2 => intro w9 hSw; (try dsimp only at hSw); go_simp; (try with_reducible rfl)
  try simp only [Act.put, setIfInBounds_toArray, set_cons_zero, set_cons_succ, getElem_toArray, getElem_cons_zero, getElem_cons_succ]
  refine tkY 8 rfl (v := ?_) (.inl ⟨by rfl, ?_⟩) ?_
  case refine_2 => intro w9 hSw; (try dsimp only at hSw); go_simp; (try with_reducible rfl)
  try simp only [Act.put, setIfInBounds_toArray, set_cons_zero, set_cons_succ, getElem_toArray, getElem_cons_zero, getElem_cons_succ]
  refine tkY 9 rfl (v := ?_) (.inl ⟨by rfl, ?_⟩) ?_
  case refine_2 => intro w9 hSw; (try dsimp only at hSw); go_simp; (try with_reducible rfl)
  try simp only [Act.put, setIfInBounds_toArray, set_cons_zero, set_cons_succ, getElem_toArray, getElem_cons_zero, getElem_cons_succ]
  refine tkY 10 rfl (v := ?_) (.inl ⟨by rfl, ?_⟩) ?_
  case refine_2 => intro w9 hSw; (try dsimp only at hSw); go_simp; (try with_reducible rfl)
  try simp only [Act.put, setIfInBounds_toArray, set_cons_zero, set_cons_succ, getElem_toArray, getElem_cons_zero, getElem_cons_succ]
  refine tkY 11 rfl (v := ?_) (.inl ⟨by rfl, ?_⟩) ?_
  case refine_2 => intro w9 hSw; (try dsimp only at hSw); go_simp; (try with_reducible rfl)
  try simp only [Act.put, setIfInBounds_toArray, set_cons_zero, set_cons_succ, getElem_toArray, getElem_cons_zero, getElem_cons_succ]
  refine wpAnyH_ready (rs := [12]) (by kernel_rfl) (by simp) ?_
  refine AllReadyH.cons rfl (fun K hK => ?_) AllReadyH.nil
  obtain ⟨ag, ah, ai, aj, ak, al, am, an⟩ := G.out.all4
  go_simp
  rw [pst4 G.out]; clear ag ah ai aj ak al am an; have P := hI (O.out.put (g := w.heap.size) (Nat.le_refl _) 58 #[.int .i64 T.kind, .string ⟨T.text.toArray⟩, .int .i64 T.line, .int .i64 T.col]); have H := hI (x.out.far (t' := 58) (show g ≠ w.heap.size from Nat.ne_of_lt aa) #[.int .i64 T.kind, .string ⟨T.text.toArray⟩, .int .i64 T.line, .int .i64 T.col]); have y := hI (r.out.far (show b ≠ w.heap.size from Nat.ne_of_lt ac) 58 #[.int .i64 T.kind, .string ⟨T.text.toArray⟩, .int .i64 T.line, .int .i64 T.col]); have Q := hI (G.out.put #[.int .i64 T.kind, .string ⟨T.text.toArray⟩, .int .i64 T.line, .int .i64 T.col]); obtain ⟨az, R⟩ := eX (putB af (w.heap.size) 58 #[.int .i64 T.kind, .string ⟨T.text.toArray⟩, .int .i64 T.line, .int .i64 T.col]); rw [← R] at P H y Q ⊢; clear R hHeld
  refine hK.out _ _ ?_ (fun hHeld => ?_)
  case refine_1 => exact ⟨H.out.cell 0, H.out.cell 1, H.out.cell 2, y.out.c 0 _ rfl, y.out.c 1 _ rfl, y.out.c 2 _ rfl, y.out.c 3 _ rfl⟩
  clear hK K
  try simp only [setIfInBounds_toArray, set_cons_zero, set_cons_succ]
  refine wpAnyH_done (by kernel_rfl) ?_ _
  go_wp2_with fail
  obtain ⟨z, B, C, D⟩ := Q.out.all4'
  refine bodyPost_ret (v := tokV T) (by simp [results, Tryz.results124, go_sem, z, B, C, D]) rfl ?_
  exact ⟨rfl, P⟩
 have ao := hI (show tk ts (k + n) = ⟨0, [], 0, 0⟩ from tk_end (by rw [Z.out]; omega))
 have d1 : decide ((len : Int) ≤ (k : Int) + (n : Int)) = true := decide_eq_true (by omega)
 have d2 : decide (len ≤ k + n) = true := decide_eq_true (by omega)
 go_enter Tryz.func124, Tryz.ntmps124
 go_upto_region 1 with (fail)
 obtain ⟨i, j⟩ := eX (w.alloc (Obj.cells #[.int .i64 0, .string ⟨#[]⟩, .int .i64 0, .int .i64 0] 58))
 have q := hI (show Lo w i by rw [j]; exact below_box _ _)
 have J := hI (show Blk i w.heap.size 58 #[.int .i64 0, .string ⟨#[]⟩, .int .i64 0, .int .i64 0] by rw [j]; exact Blk.new _ _ _)
 rw [← j]
 clear j
 have a := hI (below_dr i)
 have p := J.out.b9 a
 have d := hI ((E.out.belowW q.out).belowW a.out)
 have s := q.out.b9 a
 refine wp_region_held_drew (S := fun w' => w'.cell? ⟨g, 0, none⟩ = some (.slice A len cap) ∧ w'.cell? ⟨g, 1, none⟩ = some (.int .i64 (k : Nat)) ∧ w'.cell? ⟨g, 2, none⟩ = some (.int .i64 (m : Nat))) (by kernel_rfl) ?_ (fun hHeld => ?_)
 case refine_1 => exact ⟨d.out.cell 0, d.out.cell 1, d.out.cell 2⟩
 obtain ⟨F, l⟩ := eX (i.drew)
 rw [← l] at a p d s hHeld ⊢
 clear l
 refine tkY 0 rfl (v := ?_) (.inl ⟨by rfl, ?_⟩) ?_
 case refine_2 => intro w9 hSw; (try dsimp only at hSw); go_simp; (try with_reducible rfl)
 try simp only [Act.put, setIfInBounds_toArray, set_cons_zero, set_cons_succ, getElem_toArray, getElem_cons_zero]
 refine tkY 1 rfl (v := ?_) (.inl ⟨by rfl, ?_⟩) ?_
 case refine_2 => intro w9 hSw; (try dsimp only at hSw); go_simp; (try with_reducible rfl)
 try simp only [Act.put, setIfInBounds_toArray, set_cons_zero, set_cons_succ, getElem_toArray, getElem_cons_zero, getElem_cons_succ]
 refine tkY 2 rfl (v := ?_) (.inl ⟨by rfl, ?_⟩) ?_
 case refine_2 => intro w9 hSw; (try dsimp only at hSw); go_simp; (try with_reducible rfl)
 try simp only [Act.put, setIfInBounds_toArray, set_cons_zero, set_cons_succ, getElem_toArray, getElem_cons_zero, getElem_cons_succ]
 refine tkY 3 rfl (v := ?_) (.inl ⟨by rfl, ?_⟩) ?_
 case refine_2 => intro w9 hSw; (try dsimp only at hSw); go_simp; (try with_reducible rfl)
 try simp only [Act.put, setIfInBounds_toArray, set_cons_zero, set_cons_succ, getElem_toArray, getElem_cons_zero, getElem_cons_succ]
 refine tkY 4 rfl (v := ?_) (.inl ⟨by rfl, ?_⟩) ?_
 case refine_2 => intro w9 hSw; (try dsimp only at hSw); go_simp; (try with_reducible rfl)
 try simp only [Act.put, setIfInBounds_toArray, set_cons_zero, set_cons_succ, getElem_toArray, getElem_cons_zero, getElem_cons_succ]
 refine tkY 5 rfl (v := ?_) (.inl ⟨by rfl, ?_⟩) ?_
 case refine_2 => intro w9 hSw; (try dsimp only at hSw); go_simp; (try with_reducible rfl)
 try simp only [Act.put, setIfInBounds_toArray, set_cons_zero, set_cons_succ, getElem_toArray, getElem_cons_zero, getElem_cons_succ]
 refine tkY 6 rfl (v := ?_) (.inl ⟨by rfl, ?_⟩) ?_
 case refine_2 => intro w9 hSw; (try dsimp only at hSw); go_simp; (try with_reducible rfl)
 try simp only [Act.put, setIfInBounds_toArray, set_cons_zero, set_cons_succ, getElem_toArray, getElem_cons_zero, getElem_cons_succ]
 refine tkY 7 rfl (v := ?_) (.inl ⟨by rfl, ?_⟩) ?_
 case refine_2 => intro w9 hSw; (try dsimp only at hSw); go_simp; (try with_reducible rfl)
 try simp only [Act.put, setIfInBounds_toArray, set_cons_zero, set_cons_succ, getElem_toArray, getElem_cons_zero, getElem_cons_succ]
 refine tkY 8 rfl (v := ?_) (.inl ⟨by rfl, ?_⟩) ?_
 case refine_2 => intro w9 hSw; (try dsimp only at hSw); go_simp; (try with_reducible rfl)
 try simp only [Act.put, setIfInBounds_toArray, set_cons_zero, set_cons_succ, getElem_toArray, getElem_cons_zero, getElem_cons_succ]
 refine tkY 9 rfl (v := ?_) (.inl ⟨by rfl, ?_⟩) ?_
 case refine_2 => intro w9 hSw; (try dsimp only at hSw); go_simp; (try with_reducible rfl)
 try simp only [Act.put, setIfInBounds_toArray, set_cons_zero, set_cons_succ, getElem_toArray, getElem_cons_zero, getElem_cons_succ]
 refine tkY 10 rfl (v := ?_) (.inl ⟨by rfl, ?_⟩) ?_
 case refine_2 => intro w9 hSw; (try dsimp only at hSw); go_simp; (try with_reducible rfl)
 try simp only [Act.put, setIfInBounds_toArray, set_cons_zero, set_cons_succ, getElem_toArray, getElem_cons_zero, getElem_cons_succ]
 refine tkY 11 rfl (v := ?_) (.inl ⟨by rfl, ?_⟩) ?_
 case refine_2 => intro w9 hSw; (try dsimp only at hSw); go_simp; (try with_reducible rfl)
 try simp only [Act.put, setIfInBounds_toArray, set_cons_zero, set_cons_succ, getElem_toArray, getElem_cons_zero, getElem_cons_succ]
 refine wpAnyH_done (by kernel_rfl) ?_ _
 obtain ⟨z, f0, B, f1, C, f2, D, f3⟩ := p.out.all4
 go_wp2_with fail
 rw [pst4 p.out]
 have U := hI (p.out.put #[.int .i64 0, .string ⟨#[]⟩, .int .i64 0, .int .i64 0])
 have V := hI (s.out.put (g := w.heap.size) (Nat.le_refl _) 58 #[.int .i64 0, .string ⟨#[]⟩, .int .i64 0, .int .i64 0])
 obtain ⟨wz, W⟩ := eX (putB F w.heap.size 58 #[.int .i64 0, .string ⟨#[]⟩, .int .i64 0, .int .i64 0])
 rw [← W] at U V ⊢
 clear W z f0 B f1 C f2 D f3
 obtain ⟨z, B, C, D⟩ := U.out.all4'
 rw [ao.out]
 refine bodyPost_ret (v := .agg #[.int .i64 0, .string ⟨#[]⟩, .int .i64 0, .int .i64 0]) (by simp [results, Tryz.results124, go_sem, z, B, C, D]) rfl ?_
 exact ⟨rfl, V⟩

theorem pFail (w0 w : World) (g k m : Nat) (A : Option Addr) (len cap : Nat) (ts : List Tok) (hT : TsAt w0 A len cap ts) (hw : Below w0.heap.size w0 w) (hg : w0.heap.size ≤ g) (hP : Ps g A len cap k m w) (hk : k ≤ 150000) (er : Int) : Calls Tryz.prog 123 #[.pointer (some ⟨g, 0, none⟩), .int .i64 er] w fun e w' => e = pan (tk ts k).line (tk ts k).col er ∧ Hid (Below w.heap.size w w') := by
 have KT := hI (pToken w0 w g k m A len cap ts hT hw hg hP hk 0 (by omega))
 rw [Nat.add_zero] at KT
 obtain ⟨T, hTT⟩ := eX (tk ts k)
 rw [← hTT] at KT ⊢
 clear hT hw hP hTT
 go_enter Tryz.func123, Tryz.ntmps123
 go_wp2_with fail
 refine KT.out.mono ?_
 rintro e w2 ⟨rfl, HB⟩
 have hF := tokF2 T
 go_wp2_with fail
 exact ⟨rfl, rfl, HB⟩

/-- How a rule ends where the next token does not fit. -/
def panU (ts : List Tok) (k : Nat) : Ending := if ts.length ≤ k then pan 0 0 4 else pan (tk ts k).line (tk ts k).col 3
theorem pUnexp (w0 w : World) (g k m : Nat) (A : Option Addr) (len cap : Nat) (ts : List Tok) (hT : TsAt w0 A len cap ts) (hw : Below w0.heap.size w0 w) (hg : w0.heap.size ≤ g) (hP : Ps g A len cap k m w) (hk : k ≤ 150000) : Calls Tryz.prog 91 #[.pointer (some ⟨g, 0, none⟩)] w fun e w' => e = panU ts k ∧ Hid (Below w.heap.size w w') := by
 have l := hI hw
 have i := hI hP
 have u := hT.hs
 have n := hI hT.hl
 have o := hI (show Lo w w from Below.refl _ _)
 have p := hI (fun (w1 : World) (hb : Below w.heap.size w w1) => pFail w0 w1 g k m A len cap ts hT (l.out.trans (hb.mono l.out.size)) hg (i.out.belowW hb) hk 3)
 unfold Ps at i
 clear hT hw hP
 by_cases hlt : k < len
 ·
  have j := hI (show panU ts k = pan (tk ts k).line (tk ts k).col 3 by unfold panU; rw [if_neg (by rw [n.out]; omega)]); have q : decide ((len : Int) ≤ (k : Int)) = false := decide_eq_false (by omega); have r : decide (len ≤ k) = false := decide_eq_false (by omega)
  go_enter Tryz.func91, Tryz.ntmps91
  go_wp2_with fail
  have b := hI (below_dr w); have a := i.out.b9 b; have c := o.out.b9 b
  refine wp_region_held_drew (S := fun w' => w'.cell? ⟨g, 0, none⟩ = some (.slice A len cap) ∧ w'.cell? ⟨g, 1, none⟩ = some (.int .i64 (k : Nat)) ∧ w'.cell? ⟨g, 2, none⟩ = some (.int .i64 (m : Nat))) (by kernel_rfl) ?_ (fun hHeld => ?_)
  case refine_1 => exact ⟨a.out.cell 0, a.out.cell 1, a.out.cell 2⟩
  obtain ⟨s, d⟩ := eX (w.drew); rw [← d] at b a c hHeld ⊢; clear d
  refine tkY 0 rfl (v := ?_) (.inl ⟨by rfl, ?_⟩) ?_
  case refine_2 => intro w9 hSw; (try dsimp only at hSw); go_simp; (try with_reducible rfl)
  try simp only [Act.put, setIfInBounds_toArray, set_cons_zero, set_cons_succ, getElem_toArray, getElem_cons_zero]
  refine tkY 1 rfl (v := ?_) (.inl ⟨by rfl, ?_⟩) ?_
  case refine_2 => intro w9 hSw; (try dsimp only at hSw); go_simp; (try with_reducible rfl)
  try simp only [Act.put, setIfInBounds_toArray, set_cons_zero, set_cons_succ, getElem_toArray, getElem_cons_zero, getElem_cons_succ]
  refine tkY 2 rfl (v := ?_) (.inl ⟨by rfl, ?_⟩) ?_
  case refine_2 => intro w9 hSw; (try dsimp only at hSw); go_simp; (try with_reducible rfl)
  try simp only [Act.put, setIfInBounds_toArray, set_cons_zero, set_cons_succ, getElem_toArray, getElem_cons_zero, getElem_cons_succ]
  refine tkY 3 rfl (v := ?_) (.inl ⟨by rfl, ?_⟩) ?_
  case refine_2 => intro w9 hSw; (try dsimp only at hSw); go_simp; (try with_reducible rfl)
  try simp only [Act.put, setIfInBounds_toArray, set_cons_zero, set_cons_succ, getElem_toArray, getElem_cons_zero, getElem_cons_succ]
  refine tkY 4 rfl (v := ?_) (.inl ⟨by rfl, ?_⟩) ?_
  case refine_2 => intro w9 hSw; (try dsimp only at hSw); go_simp; (try with_reducible rfl)
  try simp only [Act.put, setIfInBounds_toArray, set_cons_zero, set_cons_succ, getElem_toArray, getElem_cons_zero, getElem_cons_succ]
  refine tkY 5 rfl (v := ?_) (.inl ⟨by rfl, ?_⟩) ?_
  case refine_2 => intro w9 hSw; (try dsimp only at hSw); go_simp; (try with_reducible rfl)
  try simp only [Act.put, setIfInBounds_toArray, set_cons_zero, set_cons_succ, getElem_toArray, getElem_cons_zero, getElem_cons_succ]
  refine tkY 6 rfl (v := ?_) (.inl ⟨by rfl, ?_⟩) ?_
  case refine_2 => intro w9 hSw; (try dsimp only at hSw); go_simp; (try with_reducible rfl)
  try simp only [Act.put, setIfInBounds_toArray, set_cons_zero, set_cons_succ, getElem_toArray, getElem_cons_zero, getElem_cons_succ]
  refine tkY 7 rfl (v := ?_) (.inl ⟨by rfl, ?_⟩) ?_
  case refine_2 => intro w9 hSw; (try dsimp only at hSw); go_simp; (try with_reducible rfl)
  try simp only [Act.put, setIfInBounds_toArray, set_cons_zero, set_cons_succ, getElem_toArray, getElem_cons_zero, getElem_cons_succ]
  refine tkY 8 rfl (v := ?_) (.inl ⟨by rfl, ?_⟩) ?_
  case refine_2 => intro w9 hSw; (try dsimp only at hSw); go_simp; (try with_reducible rfl)
  try simp only [Act.put, setIfInBounds_toArray, set_cons_zero, set_cons_succ, getElem_toArray, getElem_cons_zero, getElem_cons_succ]
  refine tkY 9 rfl (v := ?_) (.inl ⟨by rfl, ?_⟩) ?_
  case refine_2 => intro w9 hSw; (try dsimp only at hSw); go_simp; (try with_reducible rfl)
  try simp only [Act.put, setIfInBounds_toArray, set_cons_zero, set_cons_succ, getElem_toArray, getElem_cons_zero, getElem_cons_succ]
  refine wpAnyH_done (by kernel_rfl) ?_ _
  go_wp2_with fail
  refine (p.out _ c.out).mono ?_
  rintro e w3 ⟨rfl, t⟩
  go_wp2_with fail
  rw [j.out]
  exact ⟨rfl, rfl, c.out.b9 t⟩
 have j := hI (show panU ts k = pan 0 0 4 by unfold panU; rw [if_pos (by rw [n.out]; omega)])
 have q : decide ((len : Int) ≤ (k : Int)) = true := decide_eq_true (by omega)
 have r : decide (len ≤ k) = true := decide_eq_true (by omega)
 go_enter Tryz.func91, Tryz.ntmps91
 go_wp2_with fail
 have b := hI (below_dr w)
 have a := i.out.b9 b
 have c := o.out.b9 b
 refine wp_region_held_drew (S := fun w' => w'.cell? ⟨g, 0, none⟩ = some (.slice A len cap) ∧ w'.cell? ⟨g, 1, none⟩ = some (.int .i64 (k : Nat)) ∧ w'.cell? ⟨g, 2, none⟩ = some (.int .i64 (m : Nat))) (by kernel_rfl) ?_ (fun hHeld => ?_)
 case refine_1 => exact ⟨a.out.cell 0, a.out.cell 1, a.out.cell 2⟩
 obtain ⟨s, d⟩ := eX (w.drew)
 rw [← d] at b a c hHeld ⊢
 clear d
 refine tkY 0 rfl (v := ?_) (.inl ⟨by rfl, ?_⟩) ?_
 case refine_2 => intro w9 hSw; (try dsimp only at hSw); go_simp; (try with_reducible rfl)
 try simp only [Act.put, setIfInBounds_toArray, set_cons_zero, set_cons_succ, getElem_toArray, getElem_cons_zero]
 refine tkY 1 rfl (v := ?_) (.inl ⟨by rfl, ?_⟩) ?_
 case refine_2 => intro w9 hSw; (try dsimp only at hSw); go_simp; (try with_reducible rfl)
 try simp only [Act.put, setIfInBounds_toArray, set_cons_zero, set_cons_succ, getElem_toArray, getElem_cons_zero, getElem_cons_succ]
 refine tkY 2 rfl (v := ?_) (.inl ⟨by rfl, ?_⟩) ?_
 case refine_2 => intro w9 hSw; (try dsimp only at hSw); go_simp; (try with_reducible rfl)
 try simp only [Act.put, setIfInBounds_toArray, set_cons_zero, set_cons_succ, getElem_toArray, getElem_cons_zero, getElem_cons_succ]
 refine tkY 3 rfl (v := ?_) (.inl ⟨by rfl, ?_⟩) ?_
 case refine_2 => intro w9 hSw; (try dsimp only at hSw); go_simp; (try with_reducible rfl)
 try simp only [Act.put, setIfInBounds_toArray, set_cons_zero, set_cons_succ, getElem_toArray, getElem_cons_zero, getElem_cons_succ]
 refine tkY 4 rfl (v := ?_) (.inl ⟨by rfl, ?_⟩) ?_
 case refine_2 => intro w9 hSw; (try dsimp only at hSw); go_simp; (try with_reducible rfl)
 try simp only [Act.put, setIfInBounds_toArray, set_cons_zero, set_cons_succ, getElem_toArray, getElem_cons_zero, getElem_cons_succ]
 refine tkY 5 rfl (v := ?_) (.inl ⟨by rfl, ?_⟩) ?_
 case refine_2 => intro w9 hSw; (try dsimp only at hSw); go_simp; (try with_reducible rfl)
 try simp only [Act.put, setIfInBounds_toArray, set_cons_zero, set_cons_succ, getElem_toArray, getElem_cons_zero, getElem_cons_succ]
 refine tkY 6 rfl (v := ?_) (.inl ⟨by rfl, ?_⟩) ?_
 case refine_2 => intro w9 hSw; (try dsimp only at hSw); go_simp; (try with_reducible rfl)
 try simp only [Act.put, setIfInBounds_toArray, set_cons_zero, set_cons_succ, getElem_toArray, getElem_cons_zero, getElem_cons_succ]
 refine tkY 7 rfl (v := ?_) (.inl ⟨by rfl, ?_⟩) ?_
 case refine_2 => intro w9 hSw; (try dsimp only at hSw); go_simp; (try with_reducible rfl)
 try simp only [Act.put, setIfInBounds_toArray, set_cons_zero, set_cons_succ, getElem_toArray, getElem_cons_zero, getElem_cons_succ]
 refine tkY 8 rfl (v := ?_) (.inl ⟨by rfl, ?_⟩) ?_
 case refine_2 => intro w9 hSw; (try dsimp only at hSw); go_simp; (try with_reducible rfl)
 try simp only [Act.put, setIfInBounds_toArray, set_cons_zero, set_cons_succ, getElem_toArray, getElem_cons_zero, getElem_cons_succ]
 refine tkY 9 rfl (v := ?_) (.inl ⟨by rfl, ?_⟩) ?_
 case refine_2 => intro w9 hSw; (try dsimp only at hSw); go_simp; (try with_reducible rfl)
 try simp only [Act.put, setIfInBounds_toArray, set_cons_zero, set_cons_succ, getElem_toArray, getElem_cons_zero, getElem_cons_succ]
 refine wpAnyH_done (by kernel_rfl) ?_ _
 go_wp2_with fail
 rw [j.out]
 exact ⟨rfl, rfl, c⟩
end Go.Proofs.YtkjoohnndobjeaaGreatDoor
namespace Go.Proofs.YtkjoohnndobjeaaGreatDoor
open Go.RowKit Go.Fl Go.Fl.Lx Go.Fl.Nm Go.Fl.Fm Go.Fl.Rt Go.Fl.Pa
/-- The parser as it stands: its tokens lie below, the next token's number, the nesting. -/
structure Env (w0 : World) (g : Nat) (A : Option Addr) (len cap : Nat) (ts : List Tok) (k m : Nat) (w : World) : Prop where
  t : TsAt w0 A len cap ts
  b : Below w0.heap.size w0 w
  lo : w0.heap.size ≤ g
  p : Ps g A len cap k m w
  kk : k ≤ 150000
section
variable {w0 w : World} {g : Nat} {A : Option Addr} {len cap : Nat} {ts : List Tok} {k m : Nat}
theorem Env.belowW (h : Env w0 g A len cap ts k m w) {w' : World} (hb : Below w.heap.size w w') : Env w0 g A len cap ts k m w' := ⟨h.t, h.b.trans (hb.mono h.b.size), h.lo, h.p.belowW hb, h.kk⟩
theorem Env.b9 (h : Env w0 g A len cap ts k m w) {w' : World} (hb : Go.RowKit.Hid (Go.RowKit.Below w.heap.size w w')) : Go.RowKit.Hid (Env w0 g A len cap ts k m w') := hI (Env.belowW h hb.out)
theorem Env.gl (h : Env w0 g A len cap ts k m w) : g < w.heap.size := Blk.lt h.p
theorem Env.put (h : Env w0 g A len cap ts k m w) (k' m' : Nat) (hk : k' ≤ 150000) : Env w0 g A len cap ts k' m' (putB w g 140 #[.slice A len cap, .int .i64 (k' : Nat), .int .i64 (m' : Nat)]) :=
 ⟨h.t, h.b.trans (putB_below w g _ _ h.lo), h.lo, Blk.put h.p _, hk⟩
theorem Env.moved (h : Env w0 g A len cap ts k m w) {w' : World} (hg : w.grownBy w' (some g)) {k' m' : Nat} (hp : Ps g A len cap k' m' w') (hk : k' ≤ 150000) : Env w0 g A len cap ts k' m' w' :=
 ⟨h.t, ⟨hg.os.trans h.b.os, hg.tape.trans h.b.tape, hg.output.trans h.b.output, Nat.le_trans h.b.size hg.size, fun j hj => (hg.block j (Nat.lt_of_lt_of_le hj h.b.size) (fun e => by have := h.lo; injection e with e; omega)).trans (h.b.block j hj)⟩, h.lo, hp, hk⟩
theorem Env.tok (h : Env w0 g A len cap ts k m w) (n : Nat) (hn : n ≤ 10) : Calls Tryz.prog 124 #[.pointer (some ⟨g, 0, none⟩), .int .i64 (n : Nat)] w (RetB (tokV (tk ts (k + n))) w) := pToken w0 w g k m A len cap ts h.t h.b h.lo h.p h.kk n hn
theorem Env.unx (h : Env w0 g A len cap ts k m w) : Calls Tryz.prog 91 #[.pointer (some ⟨g, 0, none⟩)] w fun e w' => e = panU ts k ∧ Hid (Below w.heap.size w w') := pUnexp w0 w g k m A len cap ts h.t h.b h.lo h.p h.kk
theorem Env.fail (h : Env w0 g A len cap ts k m w) (er : Int) : Calls Tryz.prog 123 #[.pointer (some ⟨g, 0, none⟩), .int .i64 er] w fun e w' => e = pan (tk ts k).line (tk ts k).col er ∧ Hid (Below w.heap.size w w') := pFail w0 w g k m A len cap ts h.t h.b h.lo h.p h.kk er
theorem grown_of {w w' : World} (r : Option Nat) (h : Below w.heap.size w w') : w.grownBy w' r := ⟨h.os, h.tape, h.output, h.size, fun k hk _ => h.block k hk⟩
theorem grown_tr {a b c : World} {r : Option Nat} (h : a.grownBy b r) (h2 : b.grownBy c r) : a.grownBy c r :=
 ⟨h2.os.trans h.os, h2.tape.trans h.tape, h2.output.trans h.output, Nat.le_trans h.size h2.size, fun k hk hr => (h2.block k (Nat.lt_of_lt_of_le hk h.size) hr).trans (h.block k hk hr)⟩
end

theorem pIs {w0 w : World} {g : Nat} {A : Option Addr} {len cap : Nat} {ts : List Tok} {k m : Nat} (h : Env w0 g A len cap ts k m w) (n : Nat) (hn : n ≤ 10) (s : ByteArray) : Calls Tryz.prog 138 #[.pointer (some ⟨g, 0, none⟩), .int .i64 (n : Nat), .string s] w (RetB (.bool (isS (kwP s.data.toList) ts (k + n) s.data.toList)) w) := by
 have o := hI (h.tok n hn)
 obtain ⟨T, j⟩ := eX (tk ts (k + n))
 obtain ⟨b, i⟩ : ∃ b, (T.text == s.data.toList) = b := ⟨_, rfl⟩
 obtain ⟨c, hc⟩ : ∃ b, ((T.kind : Int) == 3) = b := ⟨_, rfl⟩
 obtain ⟨d, t⟩ : ∃ b, ((T.kind : Int) == 1) = b := ⟨_, rfl⟩
 obtain ⟨e, l⟩ : ∃ b, kwP s.data.toList = b := ⟨_, rfl⟩
 have p : (T.kind == 3) = c := by rw [← hc, Bool.eq_iff_iff, beq_iff_eq, beq_iff_eq]; omega
 have q : (T.kind == 1) = d := by rw [← t, Bool.eq_iff_iff, beq_iff_eq, beq_iff_eq]; omega
 have r := hI (show isS (kwP s.data.toList) ts (k + n) s.data.toList = (b && (c || (d && e))) by unfold isS; rw [← j, i, p, q, l])
 rw [r.out]
 rw [← j] at o
 have u := hI l
 have v : ((⟨T.text.toArray⟩ : ByteArray) == s) = b := by rw [beq_txt, i]
 have x : (T.text == s.toList) = b := by rw [ByteArray.toList_eq, i]
 clear h j i l p q r
 go_enter Tryz.func138, Tryz.ntmps138
 go_wp2_with fail
 refine o.out.mono ?_
 rintro e w2 ⟨rfl, a⟩
 cases b with
 | false =>
  go_wp2_with fail
  go_ret
  exact ⟨rfl, hI (a.out.trans ((below_box _ _).mono a.out.size))⟩
 | true =>
  cases c with
  | true =>
   go_wp2_with fail
   go_ret
   exact ⟨rfl, hI (a.out.trans ((below_box _ _).mono a.out.size))⟩
  | false =>
   cases d with
   | false =>
    go_wp2_with fail
    go_ret
    exact ⟨rfl, hI (a.out.trans ((below_box _ _).mono a.out.size))⟩
   | true =>
    go_wp2_with fail
    refine (keyword_any s _).mono ?_
    rw [u.out]; rintro e w3 ⟨rfl, rfl⟩
    go_wp2_with fail
    go_ret
    exact ⟨rfl, hI (a.out.trans ((below_box _ _).mono a.out.size))⟩

theorem pSign {w0 w : World} {g : Nat} {A : Option Addr} {len cap : Nat} {ts : List Tok} {k m : Nat} (h : Env w0 g A len cap ts k m w) : Calls Tryz.prog 155 #[.pointer (some ⟨g, 0, none⟩)] w (RetB (.int .i64 (signP ts k : Nat)) w) := by
 have KI := hI (pIs h 0 (by omega) ⟨#[45]⟩)
 rw [Nat.add_zero, show kwP (⟨#[45]⟩ : ByteArray).data.toList = false by decide, show (⟨#[45]⟩ : ByteArray).data.toList = [45] from rfl] at KI
 obtain ⟨b, hb⟩ : ∃ b, isS false ts k [45] = b := ⟨_, rfl⟩
 have HE := hI (show signP ts k = if b = true then 1 else 0 by unfold signP; rw [hb])
 rw [hb] at KI
 clear h hb
 cases b with
 | false =>
  go_enter Tryz.func155, Tryz.ntmps155
  go_wp2_with fail
  refine KI.out.mono ?_
  rintro e w2 ⟨rfl, HB⟩
  go_wp2_with fail
  go_ret
  rw [HE.out]
  exact ⟨rfl, HB⟩
 | true =>
  go_enter Tryz.func155, Tryz.ntmps155
  go_wp2_with fail
  refine KI.out.mono ?_
  rintro e w2 ⟨rfl, HB⟩
  go_wp2_with fail
  go_ret
  rw [HE.out]
  exact ⟨rfl, HB⟩

theorem pInteger {w0 w : World} {g : Nat} {A : Option Addr} {len cap : Nat} {ts : List Tok} {k m : Nat} (h : Env w0 g A len cap ts k m w) (n : Nat) (hn : n ≤ 10) : Calls Tryz.prog 159 #[.pointer (some ⟨g, 0, none⟩), .int .i64 (n : Nat)] w (RetB (.bool (integerP ts (k + n))) w) := by
 have KT := hI (h.tok n hn)
 obtain ⟨T, hTT⟩ := eX (tk ts (k + n))
 obtain ⟨c, hc⟩ : ∃ b, ((T.kind : Int) == 2) = b := ⟨_, rfl⟩
 obtain ⟨d, hd⟩ : ∃ b, T.text.contains 46 = b := ⟨_, rfl⟩
 have hc' : (T.kind == 2) = c := by rw [← hc, Bool.eq_iff_iff, beq_iff_eq, beq_iff_eq]; omega
 have HE := hI (show integerP ts (k + n) = (c && !d) by unfold integerP; rw [← hTT, hc', hd])
 rw [HE.out]
 rw [← hTT] at KT
 have HD := hI (show decide (0 ≤ Lib.indexByte (⟨T.text.toArray⟩ : ByteArray).data.toList 46) = d by rw [← hd]; exact (Lib.contains_iff_indexByte _ 46).symm)
 clear h hTT hc' hd HE
 go_enter Tryz.func159, Tryz.ntmps159
 go_wp2_with fail
 refine KT.out.mono ?_
 rintro e w2 ⟨rfl, HB⟩
 cases c with
 | false =>
  go_wp2_with fail
  go_ret
  exact ⟨rfl, hI (HB.out.trans ((below_box _ _).mono HB.out.size))⟩
 | true =>
  go_wp2_with fail
  refine (Tryz.strings_Contains_one ⟨T.text.toArray⟩ 46 _).mono ?_
  rw [HD.out]
  rintro e w3 ⟨rfl, rfl⟩
  go_wp2_with fail
  go_ret
  exact ⟨rfl, hI (HB.out.trans ((below_box _ _).mono HB.out.size))⟩

/-- What accept answers. -/
def AccP (w0 : World) (g : Nat) (A : Option Addr) (len cap : Nat) (ts : List Tok) (k m : Nat) (b : Bool) (w : World) (e : Ending) (w' : World) : Prop :=
  e = .returned (.bool b) ∧ Hid (w.grownBy w' (some g)) ∧ Hid (Env w0 g A len cap ts (if b = true then k + 1 else k) m w')
theorem pAccept {w0 w : World} {g : Nat} {A : Option Addr} {len cap : Nat} {ts : List Tok} {k m : Nat} (h : Env w0 g A len cap ts k m w) (hk : k ≤ 140000) (s : ByteArray) : Calls Tryz.prog 108 #[.pointer (some ⟨g, 0, none⟩), .string s] w (AccP w0 g A len cap ts k m (isS (kwP s.data.toList) ts k s.data.toList) w) := by
 have c := hI (pIs h 0 (by omega) s)
 rw [Nat.add_zero] at c
 have i := hI h
 obtain ⟨b, j⟩ : ∃ b, isS (kwP s.data.toList) ts k s.data.toList = b := ⟨_, rfl⟩
 rw [j] at c ⊢
 clear h j
 cases b with
 | false =>
  go_enter Tryz.func108, Tryz.ntmps108
  go_wp2_with fail
  refine c.out.mono ?_
  rintro e w2 ⟨rfl, a⟩
  go_wp2_with fail
  go_ret
  exact ⟨rfl, hI (grown_of _ a.out), i.out.b9 a⟩
 | true =>
  have o : IntKind.i64.wrap ((k : Int) + 1) = (k : Int) + 1 := by rw [IntKind.wrap_i64]; omega
  go_enter Tryz.func108, Tryz.ntmps108
  go_wp2_with fail
  refine c.out.mono ?_
  rintro e w2 ⟨rfl, a⟩; have l := i.out.b9 a; have d := hI (show Blk w2 g 140 #[.slice A len cap, .int .i64 (k : Nat), .int .i64 (m : Nat)] from l.out.p); have q : w2.cell? ⟨g, 1, none⟩ = some (.int .i64 (k : Nat)) := d.out.cell 1; have r : w2.frozen? ⟨g, 1, none⟩ = false := d.out.frozen 1
  go_wp2_with fail
  rw [d.out.setCell_eq]; have n := hI (l.out.put (k + 1) m (by omega))
  go_ret
  exact ⟨rfl, hI (grown_tr (grown_of _ a.out) (putB_grown w2 g _ _)), n⟩

theorem pWantY {w0 w : World} {g : Nat} {A : Option Addr} {len cap : Nat} {ts : List Tok} {k m : Nat} (h : Env w0 g A len cap ts k m w) (hk : k ≤ 140000) (s : ByteArray) (hs : isS (kwP s.data.toList) ts k s.data.toList = true) : Calls Tryz.prog 110 #[.pointer (some ⟨g, 0, none⟩), .string s] w fun e w' => e = .returned (.tuple #[]) ∧ Hid (w.grownBy w' (some g)) ∧ Hid (Env w0 g A len cap ts (k + 1) m w') := by
 have KA := hI (pAccept h hk s)
 rw [hs] at KA
 clear h hs
 go_enter Tryz.func110, Tryz.ntmps110
 go_wp2_with fail
 refine KA.out.mono ?_
 rintro e w2 ⟨rfl, HG, HV⟩
 go_wp2_with fail
 refine bodyPost_end (v := .tuple #[]) (by simp [results, Tryz.results110, go_sem]) rfl ?_
 exact ⟨rfl, HG, HV⟩
theorem pWantN {w0 w : World} {g : Nat} {A : Option Addr} {len cap : Nat} {ts : List Tok} {k m : Nat} (h : Env w0 g A len cap ts k m w) (hk : k ≤ 140000) (s : ByteArray) (hs : isS (kwP s.data.toList) ts k s.data.toList = false) : Calls Tryz.prog 110 #[.pointer (some ⟨g, 0, none⟩), .string s] w fun e w' => e = panU ts k ∧ Hid (w.grownBy w' (some g)) := by
 have KA := hI (pAccept h hk s)
 rw [hs] at KA
 clear h hs
 go_enter Tryz.func110, Tryz.ntmps110
 go_wp2_with fail
 refine KA.out.mono ?_
 rintro e w2 ⟨rfl, HG, HV⟩
 go_wp2_with fail
 refine HV.out.unx.mono ?_
 rintro e w3 ⟨he, HB⟩
 obtain ⟨c, hc⟩ : ∃ c, panU ts k = .panicked c := by unfold panU; split <;> exact ⟨_, rfl⟩
 have HC := hI hc
 simp only [Bool.false_eq_true, if_false] at he
 rw [hc] at he
 subst he
 clear hc
 go_wp2_with fail
 rw [HC.out]
 exact ⟨rfl, rfl, hI (grown_tr HG.out (grown_of _ HB.out))⟩
end Go.Proofs.YtkjoohnndobjeaaGreatDoor
namespace Go.Fl.Pa
open Go.Fl.Lx Go.Fl.Fm Go.Fl.Rt
theorem tk_lt {ts : List Tok} {k : Nat} (h : (tk ts k).kind ≠ 0) : k < ts.length := by
 apply Decidable.byContradiction
 intro hk
 apply h
 unfold tk
 rw [List.getD_eq_getElem?_getD, List.getElem?_eq_none (by omega)]
 rfl
theorem isS_kind {b : Bool} {ts : List Tok} {k : Nat} {s : List UInt8} (h : isS b ts k s = true) : (tk ts k).text = s ∧ ((tk ts k).kind = 3 ∨ (tk ts k).kind = 1) := by
 unfold isS at h
 simp only [Bool.and_eq_true, Bool.or_eq_true, beq_iff_eq] at h
 exact ⟨h.1, h.2.elim .inl (fun x => .inr x.1)⟩
theorem isS_lt {b : Bool} {ts : List Tok} {k : Nat} {s : List UInt8} (h : isS b ts k s = true) : k < ts.length := by
 apply tk_lt
 have := (isS_kind h).2
 omega
theorem signP_le (ts : List Tok) (k : Nat) : signP ts k ≤ 1 := by unfold signP; split <;> omega
theorem unex_ok {α : Type} {ts : List Tok} {k k1 : Nat} {a : α} (h : unex ts k = .ok a k1) : False := by
 unfold unex failP at h
 split at h <;> cases h
theorem fail_ok {α : Type} {ts : List Tok} {k e k1 : Nat} {a : α} (h : failP ts k e = .ok a k1) : False := by
 unfold failP at h
 cases h
theorem unex_out {α : Type} {ts : List Tok} {k : Nat} (h : (unex ts k : PR α) = .out) : False := by
 unfold unex failP at h
 split at h <;> cases h
theorem fail_out {α : Type} {ts : List Tok} {k e : Nat} (h : (failP ts k e : PR α) = .out) : False := by
 unfold failP at h
 cases h
theorem numP_ok {ts : List Tok} {k k1 : Nat} {r : Int × Int} (h : numP ts k = .ok r k1) : k < k1 ∧ k1 ≤ ts.length := by
 unfold numP at h
 split at h
 ·
  exact (unex_ok h).elim
 rename_i h2
 split at h
 ·
  exact (fail_ok h).elim
 injection h with h3 h4
 have := tk_lt (ts := ts) (k := k + signP ts k) (by omega)
 omega
theorem numP_out {ts : List Tok} {k : Nat} (h : numP ts k = .out) : False := by
 unfold numP at h
 split at h
 ·
  exact unex_out h
 split at h
 ·
  exact fail_out h
 cases h
theorem read1_nil : (read1 []).2.2 = 3 := by decide +kernel
theorem tk_nil {ts : List Tok} {k : Nat} (h : ts.length ≤ k) : (tk ts k).text = [] := by
 unfold tk
 rw [List.getD_eq_getElem?_getD, List.getElem?_eq_none h]
 rfl
theorem quotP_ok {ts : List Tok} {k k1 : Nat} {r : Int × Int} (h : quotP ts k = .ok r k1) : k < k1 ∧ k1 ≤ ts.length := by
 unfold quotP at h
 cases hn : numP ts k with
 | ok a k2 =>
  rw [hn] at h
  have h1 := numP_ok hn
  simp only [PR.bind] at h
  split at h
  ·
   exact (unex_ok h).elim
  split at h
  ·
   exact (fail_ok h).elim
  rename_i h3
  split at h
  ·
   exact (fail_ok h).elim
  injection h with h4 h5
  have : k2 + 1 < ts.length := by
   apply Decidable.byContradiction
   intro h6
   rw [tk_nil (by omega), read1_nil] at h3
   exact h3 (by decide)
  omega
 | bad l c e => rw [hn] at h; cases h
 | out => rw [hn] at h; cases h
theorem quotP_out {ts : List Tok} {k : Nat} (h : quotP ts k = .out) : False := by
 unfold quotP at h
 cases hn : numP ts k with
 | ok a k2 =>
  rw [hn] at h
  simp only [PR.bind] at h
  split at h
  ·
   exact unex_out h
  split at h
  ·
   exact fail_out h
  split at h
  ·
   exact fail_out h
  cases h
 | bad l c e => rw [hn] at h; cases h
 | out => exact numP_out hn
theorem map_ok {α β : Type} {f : α → β} {r : PR α} {b : β} {k : Nat} (h : r.map f = .ok b k) : ∃ a, r = .ok a k := by
 cases r with
 | ok a k1 => injection h with h1 h2; exact ⟨a, by rw [h2]⟩
 | bad l c e => cases h
 | out => cases h
theorem map_out {α β : Type} {f : α → β} {r : PR α} (h : r.map f = .out) : r = .out := by
 cases r with
 | ok a k1 => cases h
 | bad l c e => cases h
 | out => rfl
section
variable {nm : List UInt8 → Bool} {ts : List Tok}
/-- The rules go forward, and stay within the tokens. -/
theorem forward : ∀ f : Nat,
 (∀ k n e k1, sumP nm ts f k n = .ok e k1 → k < k1 ∧ k1 ≤ ts.length) ∧ (∀ e0 k n e k1, k ≤ ts.length → chS nm ts f e0 k n = .ok e k1 → k ≤ k1 ∧ k1 ≤ ts.length) ∧
 (∀ k n e k1, termP nm ts f k n = .ok e k1 → k < k1 ∧ k1 ≤ ts.length) ∧ (∀ e0 k n e k1, k ≤ ts.length → chT nm ts f e0 k n = .ok e k1 → k ≤ k1 ∧ k1 ≤ ts.length) ∧
 (∀ k n e k1, firstP nm ts f k n = .ok e k1 → k < k1 ∧ k1 ≤ ts.length) ∧ (∀ k n e k1, factorP nm ts f k n = .ok e k1 → k < k1 ∧ k1 ≤ ts.length) ∧
 (∀ k n e k1, atomP nm ts f k n = .ok e k1 → k < k1 ∧ k1 ≤ ts.length) ∧ (∀ k n e k1, encP nm ts f k n = .ok e k1 → k < k1 ∧ k1 ≤ ts.length) := by
 intro f
 induction f with
 | zero =>
  refine ⟨?_, ?_, ?_, ?_, ?_, ?_, ?_, ?_⟩ <;> intros <;> rename_i h <;> first | (unfold sumP at h; cases h) | (unfold chS at h; cases h) | (unfold termP at h; cases h) | (unfold chT at h; cases h) | (unfold firstP at h; cases h) | (unfold factorP at h; cases h) | (unfold atomP at h; cases h) | (unfold encP at h; cases h)
 | succ f ih =>
  obtain ⟨o, i, j, l, p, g, q, m⟩ := ih
  refine ⟨?_, ?_, ?_, ?_, ?_, ?_, ?_, ?_⟩
  ·
   intro k n e k1 h
   unfold sumP at h
   split at h
   ·
    rename_i e1 k2 h2
    have b := j _ _ _ _ h2; have c := i _ _ _ _ _ b.2 h
    omega
   rename_i h2
   exact (h2 _ _ h).elim
  ·
   intro e0 k n e k1 hk h
   unfold chS at h
   split at h
   ·
    split at h
    ·
     rename_i e1 k2 h2
     have b := j _ _ _ _ h2; have c := i _ _ _ _ _ b.2 h
     omega
    rename_i h2
    exact (h2 _ _ h).elim
   injection h with h1 h2
   omega
  ·
   intro k n e k1 h
   unfold termP at h
   split at h
   ·
    rename_i e1 k2 h2
    have b := p _ _ _ _ h2; have c := l _ _ _ _ _ b.2 h
    omega
   rename_i h2
   exact (h2 _ _ h).elim
  ·
   intro e0 k n e k1 hk h
   unfold chT at h
   split at h
   ·
    split at h
    ·
     rename_i e1 k2 h2
     have b := g _ _ _ _ h2; have c := l _ _ _ _ _ b.2 h
     omega
    rename_i h2
    exact (h2 _ _ h).elim
   injection h with h1 h2
   omega
  ·
   intro k n e k1 h
   unfold firstP at h
   split at h
   ·
    obtain ⟨a, d⟩ := map_ok h
    exact quotP_ok d
   exact g _ _ _ _ h
  ·
   intro k n e k1 h
   unfold factorP at h
   split at h
   ·
    obtain ⟨a, d⟩ := map_ok h
    exact numP_ok d
   split at h
   ·
    split at h
    ·
     exact (fail_ok h).elim
    split at h
    ·
     rename_i e1 k2 h2
     have b := g _ _ _ _ h2; injection h with c h5
     omega
    rename_i h2
    exact (h2 _ _ h).elim
   split at h
   ·
    rename_i e1 k2 h2
    have b := q _ _ _ _ h2
    split at h
    ·
     rename_i h6
     have r := isS_lt h6
     split at h
     ·
      exact (unex_ok h).elim
     rename_i h8
     split at h
     ·
      exact (fail_ok h).elim
     injection h with c h5
     have : k2 + 1 < ts.length := by
      apply tk_lt
      intro h9
      apply h8
      unfold integerP
      rw [h9]
      rfl
     omega
    injection h with c h5
    omega
   rename_i h2
   exact (h2 _ _ h).elim
  ·
   intro k n e k1 h
   unfold atomP at h
   split at h
   ·
    obtain ⟨a, d⟩ := map_ok h
    exact numP_ok d
   split at h
   ·
    rename_i h2
    injection h with c h5
    have := tk_lt (ts := ts) (k := k) (by omega)
    omega
   split at h
   ·
    split at h
    ·
     rename_i e1 k2 h2
     have b := m _ _ _ _ h2; injection h with c h5
     omega
    rename_i h2
    exact (h2 _ _ h).elim
   exact m _ _ _ _ h
  intro k n e k1 h
  unfold encP at h
  split at h
  ·
   split at h
   ·
    exact (fail_ok h).elim
   split at h
   ·
    rename_i e1 k2 h2
    have b := o _ _ _ _ h2
    split at h
    ·
     rename_i h6
     have r := isS_lt h6; injection h with c h5
     omega
    exact (unex_ok h).elim
   rename_i h2
   exact (h2 _ _ h).elim
  exact (unex_ok h).elim
/-- Enough fuel is enough. -/
theorem enough : ∀ f : Nat,
 (∀ k n, 8 * (ts.length - k) + 8 ≤ f → sumP nm ts f k n ≠ .out) ∧ (∀ e0 k n, k ≤ ts.length → 8 * (ts.length - k) + 2 ≤ f → chS nm ts f e0 k n ≠ .out) ∧
 (∀ k n, 8 * (ts.length - k) + 7 ≤ f → termP nm ts f k n ≠ .out) ∧ (∀ e0 k n, k ≤ ts.length → 8 * (ts.length - k) + 2 ≤ f → chT nm ts f e0 k n ≠ .out) ∧
 (∀ k n, 8 * (ts.length - k) + 6 ≤ f → firstP nm ts f k n ≠ .out) ∧ (∀ k n, 8 * (ts.length - k) + 5 ≤ f → factorP nm ts f k n ≠ .out) ∧
 (∀ k n, 8 * (ts.length - k) + 4 ≤ f → atomP nm ts f k n ≠ .out) ∧ (∀ k n, 8 * (ts.length - k) + 3 ≤ f → encP nm ts f k n ≠ .out) := by
 intro f
 induction f with
 | zero => refine ⟨?_, ?_, ?_, ?_, ?_, ?_, ?_, ?_⟩ <;> intros <;> omega
 | succ f ih =>
  obtain ⟨m, d, g, i, o, c, p, j⟩ := ih; obtain ⟨s, t, l, u, q, r, v, x⟩ := forward (nm := nm) (ts := ts) f
  refine ⟨?_, ?_, ?_, ?_, ?_, ?_, ?_, ?_⟩
  ·
   intro k n hf h
   unfold sumP at h
   split at h
   ·
    rename_i e1 k2 h2
    have a := l _ _ _ _ h2
    exact d _ _ _ a.2 (by omega) h
   exact g _ _ (by omega) h
  ·
   intro e0 k n hk hf h
   unfold chS at h
   split at h
   ·
    rename_i hc
    have b := tk_lt (ts := ts) (k := k) (by omega)
    split at h
    ·
     rename_i e1 k2 h2
     have a := l _ _ _ _ h2
     exact d _ _ _ a.2 (by omega) h
    exact g _ _ (by omega) h
   cases h
  ·
   intro k n hf h
   unfold termP at h
   split at h
   ·
    rename_i e1 k2 h2
    have a := q _ _ _ _ h2
    exact i _ _ _ a.2 (by omega) h
   exact o _ _ (by omega) h
  ·
   intro e0 k n hk hf h
   unfold chT at h
   split at h
   ·
    rename_i hc
    have b := tk_lt (ts := ts) (k := k) (by omega)
    split at h
    ·
     rename_i e1 k2 h2
     have a := r _ _ _ _ h2
     exact i _ _ _ a.2 (by omega) h
    exact c _ _ (by omega) h
   cases h
  ·
   intro k n hf h
   unfold firstP at h
   split at h
   ·
    exact quotP_out (map_out h)
   exact c _ _ (by omega) h
  ·
   intro k n hf h
   unfold factorP at h
   split at h
   ·
    exact numP_out (map_out h)
   split at h
   ·
    rename_i hs
    have b : k < ts.length := by
     unfold signP at hs
     split at hs
     ·
      rename_i h6
      exact isS_lt h6
     cases hs
    split at h
    ·
     exact fail_out h
    split at h
    ·
     cases h
    exact c _ _ (by omega) h
   split at h
   ·
    split at h
    ·
     split at h
     ·
      exact unex_out h
     split at h
     ·
      exact fail_out h
     cases h
    cases h
   exact p _ _ (by omega) h
  ·
   intro k n hf h
   unfold atomP at h
   split at h
   ·
    exact numP_out (map_out h)
   split at h
   ·
    cases h
   split at h
   ·
    rename_i h2
    have b := tk_lt (ts := ts) (k := k) (by omega)
    split at h
    ·
     cases h
    exact j _ _ (by omega) h
   exact j _ _ (by omega) h
  intro k n hf h
  unfold encP at h
  split at h
  ·
   rename_i h6
   have b := isS_lt h6
   split at h
   ·
    exact fail_out h
   split at h
   ·
    split at h
    ·
     cases h
    exact unex_out h
   exact m _ _ (by omega) h
  exact unex_out h
end
end Go.Fl.Pa
namespace Go.Proofs.YtkjoohnndobjeaaGreatDoor
open Go.RowKit Go.Fl Go.Fl.Nm Go.Fl.Dy Go.Fl.Rt
theorem iter_below (w : World) (s : ByteArray) (p : Nat) : Below w.heap.size w (w.iter s p) := below_a1 _ _
theorem takeWhile_append_dropWhile_tail (b : List UInt8) (c : UInt8) (h : c ∈ b) : b = b.takeWhile (· != c) ++ c :: (b.dropWhile (· != c)).tail := by
 induction b with
 | nil => cases h
 | cons x b ih =>
  by_cases hx : x = c
  ·
   subst hx; simp
  have hx2 : (x != c) = true := by simpa using hx
  rcases List.mem_cons.1 h with h | h
  ·
   exact absurd h.symm hx
  rw [List.takeWhile_cons_of_pos (by simpa using hx2), List.dropWhile_cons_of_pos (by simpa using hx2), List.cons_append, ← ih h]
theorem tw_not_mem (b : List UInt8) (c : UInt8) : c ∉ b.takeWhile (· != c) := by
 induction b with
 | nil => simp
 | cons x b ih =>
  by_cases hx : x = c
  ·
   subst hx; simp
  rw [List.takeWhile_cons_of_pos (by simpa using hx)]
  intro h
  rcases List.mem_cons.1 h with h | h
  ·
   exact hx h.symm
  exact ih h
theorem data_append (a b : ByteArray) : (a ++ b).data.toList = a.data.toList ++ b.data.toList := by simp
theorem pow10_le {k : Nat} (h : k ≤ 18) : 10 ^ k ≤ 1000000000000000000 := by
 have e : (10 : Nat) ^ 18 = 1000000000000000000 := by decide
 rw [← e]; exact Nat.pow_le_pow_right (by omega) h

theorem parse_point (s : ByteArray) (w : World) (hT : RX w) (hs : s.size ≤ 1000) (ng : Bool) (rest : List UInt8) (hn : (s.data.toList.head? == some 45) = ng) (hr : (if ng then s.data.toList.tail else s.data.toList) = rest) (a b : List UInt8) (hab : rest = a ++ 46 :: b) (h46 : (46 : UInt8) ∉ a) :
 Calls Tryz.prog 166 #[.string s] w (RtE (read1 s.data.toList) w) := by
 have W := prefix_head s.data.toList
 have X := hI W
 have J : rest.length ≤ 1000 := by
  have : s.data.toList.length ≤ 1000 := by rw [length_data]; exact hs
  rw [← hr]; split
  ·
   simp at this ⊢; omega
  exact this
 have r := hI (read1_point hn hr hab h46)
 have Y := hI hn
 have HR := hI hr
 have L := hI hab
 have an := hI h46
 clear hT hn hr hab h46 W
 go_enter Tryz.func166, Tryz.ntmps166
 go_wp2_with fail
 obtain ⟨Z, j, ao, ap⟩ := aX w 26 #[.int .i64 0, .int .i64 0]
 rw [← j]
 clear j
 refine (Tryz.strings_CutPrefix s ⟨#[45]⟩ Z).mono ?_
 rintro e w' ⟨rfl, j⟩
 obtain rfl := j.symm
 clear j
 obtain ⟨R, M⟩ : ∃ R : ByteArray, R = ⟨(Lib.trimPrefix s.data.toList (⟨#[45]⟩ : ByteArray).data.toList).toArray⟩ := ⟨_, rfl⟩
 have aa := hI (show R.data.toList = rest by rw [M]; show Lib.trimPrefix s.data.toList [45] = rest; rw [X.out.2, Y.out, HR.out])
 have aq := hI (show Lib.hasPrefix s.data.toList (⟨#[45]⟩ : ByteArray).data.toList = ng by show Lib.hasPrefix s.data.toList [45] = ng; rw [X.out.1, Y.out])
 rw [← M, aq.out]
 clear M
 have ay : R.size ≤ 1000 := by rw [← length_data, aa.out]; exact J
 go_wp2_with fail
 refine (cut_yes R 46 a b Z (by omega) (by rw [aa.out, L.out]) an.out).mono ?_
 rintro e w2 ⟨A, B, rfl, u, m, ab⟩
 have ac := ap.out.b9 ab
 have N := ao.out.t ab
 have hA : A.size ≤ 1000 := by rw [← length_data, u.out]; have := J; rw [L.out] at this; simp at this; omega
 have hB : B.size ≤ 1000 := by rw [← length_data, m.out]; have := J; rw [L.out] at this; simp at this; omega
 have ad := hI (show A.size = a.length by rw [← length_data, u.out])
 have E := hI (show B.size = b.length by rw [← length_data, m.out])
 go_wp2_with fail
 cases da : digs a with
 | false =>
  have d := hI da; clear da
  refine (rdigits_any A w2 (by omega)).mono ?_
  rw [u.out, d.out]; rintro e w3 ⟨rfl, x⟩; have y := ac.out.b9 x; obtain ⟨k, F, l, G⟩ := y.out.al2
  go_wp2_with fail
  refine bodyPost_ret (v := .tuple #[.agg #[.int .i64 0, .int .i64 0], .int .i64 3]) (by simp [results, Tryz.results166, go_sem, k, l]) rfl ?_
  rw [show read1 s.data.toList = (0, 0, 3) from r.out.trans (by rw [d.out]; rfl)]
  exact ⟨rfl, hI (store2_below (N.out.trans (x.out.mono N.out.size)) y.out _ _ (Nat.le_refl _))⟩
 | true =>
  have d := hI da; clear da
  refine (rdigits_any A w2 (by omega)).mono ?_
  rw [u.out, d.out]; rintro e w3 ⟨rfl, x⟩; have y := ac.out.b9 x; have O := N.out.t x
  go_wp2_with fail
  cases n : digs b with
  | false =>
   have g := hI n; clear n
   refine (rdigits_any B w3 (by omega)).mono ?_
   rw [m.out, g.out]; rintro e w4 ⟨rfl, C⟩; have o := y.out.b9 C; obtain ⟨k, F, l, G⟩ := o.out.al2
   go_wp2_with fail
   refine bodyPost_ret (v := .tuple #[.agg #[.int .i64 0, .int .i64 0], .int .i64 3]) (by simp [results, Tryz.results166, go_sem, k, l]) rfl ?_
   rw [show read1 s.data.toList = (0, 0, 3) from r.out.trans (by rw [d.out, g.out]; rfl)]
   exact ⟨rfl, hI (store2_below (O.out.trans (C.out.mono O.out.size)) o.out _ _ (Nat.le_refl _))⟩
  | true =>
   have g := hI n; clear n
   refine (rdigits_any B w3 (by omega)).mono ?_
   rw [m.out, g.out]; rintro e w4 ⟨rfl, C⟩; have o := y.out.b9 C; have ae := O.out.t C
   by_cases hbig : 18 < A.size + B.size
   ·
    have n : decide ((18 : Int) < (A.size : Int) + B.size) = true := decide_eq_true (by omega); have q := hI (show 18 < a.length + b.length by rw [← ad.out, ← E.out]; exact hbig); clear hbig; obtain ⟨k, F, l, G⟩ := o.out.al2
    go_wp2_with fail
    refine bodyPost_ret (v := .tuple #[.agg #[.int .i64 0, .int .i64 0], .int .i64 5]) (by simp [results, Tryz.results166, go_sem, k, l]) rfl ?_
    rw [show read1 s.data.toList = (0, 0, 5) from r.out.trans (by rw [d.out, g.out, if_pos q.out]; rfl)]
    exact ⟨rfl, hI (store2_below ae.out o.out _ _ (Nat.le_refl _))⟩
   have n : decide ((18 : Int) < (A.size : Int) + B.size) = false := decide_eq_false (by omega); have q := hI (show ¬ 18 < a.length + b.length by rw [← ad.out, ← E.out]; exact hbig); have P := hI (show (A ++ B).data.toList = a ++ b by rw [data_append, u.out, m.out]); have ar := hI (show digs (A ++ B).data.toList = true by rw [P.out]; exact digs_append d.out (digs_all g.out)); have au := hI (show (A ++ B).data.toList.length ≤ 18 by rw [P.out, List.length_append]; have := q.out; omega)
   have av := hI (show ∀ p (h : p < B.size), (B[p]'h).toNat < 128 from fun p h => by
    have af := digs_all g.out; rw [List.all_eq_true] at af
    have := af B[p] (by rw [← m.out]; exact List.getElem_mem (by simpa using h))
    unfold isDig at this; simp at this; omega)
   obtain ⟨V, hV⟩ : ∃ V : Nat, V = dval (a ++ b) := ⟨_, rfl⟩
   have a1 : V < 1000000000000000000 := by
    have h1 := dval_lt (a ++ b) (by rw [List.all_append, digs_all d.out, digs_all g.out]; rfl); have h2 := pow10_le (show (a ++ b).length ≤ 18 by rw [List.length_append]; have := q.out; omega)
    omega
   have Q := hI hV.symm; clear hV
   go_wp2_with fail
   refine (number_ok (A ++ B) w4 ar.out au.out).mono ?_
   rw [P.out, Q.out]; rintro e w5 ⟨rfl, ah⟩; have aw := ae.out.t ah
   go_wp2_with fail
   go_loopw [12] (fun dv wr => ∃ pos : Nat, pos ≤ B.size ∧ wr = w5.iter B pos ∧ dv = .int .i64 (10 ^ pos : Nat)) (fun _ wr => B.size - wr.iterPos w5.heap.size)
   case atStart => exact ⟨0, Nat.zero_le _, rfl, rfl⟩
   obtain ⟨pos, a4, rfl, rfl⟩ := hrel
   by_cases hlt : pos < B.size
   ·
    have ai : ∀ ty, (Instr.next (.pointer (some ⟨w5.heap.size, 0, none⟩)) true ty).run Tryz.prog (w5.iter B pos) = _ := fun ty => run_next_ascii w5 B pos ty hlt (av.out pos hlt)
    have S := pow10_le (show pos + 1 ≤ 18 by omega)
    obtain ⟨z, H⟩ : ∃ z : Nat, z = 10 ^ pos := ⟨_, rfl⟩
    rw [Nat.pow_succ, ← H] at S; rw [← H]; have HZ := hI H; clear H
    go_wp2
    go_roundw
    case rel => exact ⟨pos + 1, by omega, rfl, by rw [(show (10 ^ (pos + 1) : Nat) = 10 ^ pos * 10 from Nat.pow_succ 10 pos), ← HZ.out]; go_num⟩
    case measure => simp; omega
   obtain rfl : pos = B.size := by omega
   have ai : ∀ ty, (Instr.next (.pointer (some ⟨w5.heap.size, 0, none⟩)) true ty).run Tryz.prog (w5.iter B B.size) = _ := fun ty => run_next_end w5 B B.size ty hlt
   have S := pow10_le (show B.size ≤ 18 by omega)
   obtain ⟨i, T⟩ : ∃ z : Nat, z = 10 ^ B.size := ⟨_, rfl⟩
   rw [← T] at S ⊢; have aj := hI T; clear T
   go_upto_region 19 with (fail)
   obtain ⟨U, j⟩ := eX (w5.iter B B.size); have ak := hI (show Below w5.heap.size w5 U by rw [j]; exact iter_below _ _ _); rw [← j]; clear j ai; have al := hI ((o.out.belowW ah.out).belowW ak.out); have I := aw.out.t ak
   cases ng with
   | true =>
    go_wp2_with fail
    refine (make_q (-(V : Int)) (i : Int) U (by omega) (by omega) (by omega) (by omega)).mono ?_
    rintro e w7 ⟨rfl, D⟩; have c := al.out.b9 D; have k : (w7).cell? ⟨w.heap.size, 0, none⟩ = some (.int .i64 0) := c.out.cell 0; have F : (w7).frozen? ⟨w.heap.size, 0, none⟩ = false := c.out.frozen 0; have l : (w7).cell? ⟨w.heap.size, 1, none⟩ = some (.int .i64 0) := c.out.cell 1; have G : (w7).frozen? ⟨w.heap.size, 1, none⟩ = false := c.out.frozen 1
    go_wp2_with fail
    refine bodyPost_ret (v := .tuple #[.agg #[.int .i64 (make (-(V : Int)) (i : Int)).1, .int .i64 (make (-(V : Int)) (i : Int)).2.1], .int .i64 (make (-(V : Int)) (i : Int)).2.2]) (by simp [results, Tryz.results166, go_sem, k, l]) rfl ?_
    rw [show read1 s.data.toList = make (-(V : Int)) (i : Int) from r.out.trans (by rw [d.out, g.out, if_neg q.out, Q.out, ← E.out, aj.out]; rfl)]
    exact ⟨rfl, hI (store2_below (I.out.trans (D.out.mono I.out.size)) c.out _ _ (Nat.le_refl _))⟩
   | false =>
    go_wp2_with fail
    refine (make_q (V : Int) (i : Int) U (by omega) (by omega) (by omega) (by omega)).mono ?_
    rintro e w7 ⟨rfl, D⟩; have c := al.out.b9 D; have k : (w7).cell? ⟨w.heap.size, 0, none⟩ = some (.int .i64 0) := c.out.cell 0; have F : (w7).frozen? ⟨w.heap.size, 0, none⟩ = false := c.out.frozen 0; have l : (w7).cell? ⟨w.heap.size, 1, none⟩ = some (.int .i64 0) := c.out.cell 1; have G : (w7).frozen? ⟨w.heap.size, 1, none⟩ = false := c.out.frozen 1
    go_wp2_with fail
    refine bodyPost_ret (v := .tuple #[.agg #[.int .i64 (make (V : Int) (i : Int)).1, .int .i64 (make (V : Int) (i : Int)).2.1], .int .i64 (make (V : Int) (i : Int)).2.2]) (by simp [results, Tryz.results166, go_sem, k, l]) rfl ?_
    rw [show read1 s.data.toList = make (V : Int) (i : Int) from r.out.trans (by rw [d.out, g.out, if_neg q.out, Q.out, ← E.out, aj.out]; rfl)]
    exact ⟨rfl, hI (store2_below (I.out.trans (D.out.mono I.out.size)) c.out _ _ (Nat.le_refl _))⟩

theorem parse_slash (s : ByteArray) (w : World) (hT : RX w) (hs : s.size ≤ 1000) (ng : Bool) (rest : List UInt8) (hn : (s.data.toList.head? == some 45) = ng) (hr : (if ng then s.data.toList.tail else s.data.toList) = rest) (a b : List UInt8) (h46 : (46 : UInt8) ∉ rest) (hab : rest = a ++ 47 :: b) (h47 : (47 : UInt8) ∉ a) :
 Calls Tryz.prog 166 #[.string s] w (RtE (read1 s.data.toList) w) := by
 have HT := hI hT
 have T := prefix_head s.data.toList
 have U := hI T
 have H : rest.length ≤ 1000 := by
  have : s.data.toList.length ≤ 1000 := by rw [length_data]; exact hs
  rw [← hr]; split
  ·
   simp at this ⊢; omega
  exact this
 have u := hI (read1_slash hn hr h46 hab h47)
 have W := hI hn
 have HR := hI hr
 have I := hI hab
 have an := hI h46
 have ao := hI h47
 clear hT hn hr hab h46 h47 T
 go_enter Tryz.func166, Tryz.ntmps166
 go_wp2_with fail
 obtain ⟨J, x, X, ap⟩ := aX w 26 #[.int .i64 0, .int .i64 0]
 rw [← x]
 clear x
 refine (Tryz.strings_CutPrefix s ⟨#[45]⟩ J).mono ?_
 rintro e w' ⟨rfl, x⟩
 obtain rfl := x.symm
 clear x
 obtain ⟨R, L⟩ : ∃ R : ByteArray, R = ⟨(Lib.trimPrefix s.data.toList (⟨#[45]⟩ : ByteArray).data.toList).toArray⟩ := ⟨_, rfl⟩
 have M := hI (show R.data.toList = rest by rw [L]; show Lib.trimPrefix s.data.toList [45] = rest; rw [U.out.2, W.out, HR.out])
 have aq := hI (show Lib.hasPrefix s.data.toList (⟨#[45]⟩ : ByteArray).data.toList = ng by show Lib.hasPrefix s.data.toList [45] = ng; rw [U.out.1, W.out])
 rw [← L, aq.out]
 clear L
 have a2 : R.size ≤ 1000 := by rw [← length_data, M.out]; exact H
 go_wp2_with fail
 refine (cut_no R 46 J (by omega) (by rw [M.out]; exact an.out)).mono ?_
 rintro e w' ⟨rfl, rfl⟩
 go_wp2_with fail
 refine (cut_yes R 47 a b J (by omega) (by rw [M.out, I.out]) ao.out).mono ?_
 rintro e w2 ⟨A, B, rfl, l, m, N⟩
 have Y := ap.out.b9 N
 have O := X.out.t N
 have hA : A.size ≤ 1000 := by rw [← length_data, l.out]; have := H; rw [I.out] at this; simp at this; omega
 have hB : B.size ≤ 1000 := by rw [← length_data, m.out]; have := H; rw [I.out] at this; simp at this; omega
 have Z := hI (show A.size = a.length by rw [← length_data, l.out])
 have aa := hI (show B.size = b.length by rw [← length_data, m.out])
 go_wp2_with fail
 cases da : digs a with
 | false =>
  have c := hI da; clear da
  refine (rdigits_any A w2 (by omega)).mono ?_
  rw [l.out, c.out]; rintro e w3 ⟨rfl, n⟩; have y := Y.out.b9 n; obtain ⟨j, D, k, E⟩ := y.out.al2
  go_wp2_with fail
  refine bodyPost_ret (v := .tuple #[.agg #[.int .i64 0, .int .i64 0], .int .i64 3]) (by simp [results, Tryz.results166, go_sem, j, k]) rfl ?_
  rw [show read1 s.data.toList = (0, 0, 3) from u.out.trans (by rw [c.out]; rfl)]
  exact ⟨rfl, hI (store2_below (O.out.trans (n.out.mono O.out.size)) y.out _ _ (Nat.le_refl _))⟩
 | true =>
  have c := hI da; clear da
  refine (rdigits_any A w2 (by omega)).mono ?_
  rw [l.out, c.out]; rintro e w3 ⟨rfl, n⟩; have y := Y.out.b9 n; have P := O.out.t n
  go_wp2_with fail
  cases o : digs b with
  | false =>
   have i := hI o; clear o
   refine (rdigits_any B w3 (by omega)).mono ?_
   rw [m.out, i.out]; rintro e w4 ⟨rfl, p⟩; have q := y.out.b9 p; obtain ⟨j, D, k, E⟩ := q.out.al2
   go_wp2_with fail
   refine bodyPost_ret (v := .tuple #[.agg #[.int .i64 0, .int .i64 0], .int .i64 3]) (by simp [results, Tryz.results166, go_sem, j, k]) rfl ?_
   rw [show read1 s.data.toList = (0, 0, 3) from u.out.trans (by rw [c.out, i.out]; rfl)]
   exact ⟨rfl, hI (store2_below (P.out.trans (p.out.mono P.out.size)) q.out _ _ (Nat.le_refl _))⟩
  | true =>
   have i := hI o; clear o
   refine (rdigits_any B w3 (by omega)).mono ?_
   rw [m.out, i.out]; rintro e w4 ⟨rfl, p⟩; have q := y.out.b9 p; have ab := P.out.t p
   obtain ⟨F, ac⟩ : ∃ z : Nat, z = max A.size B.size := ⟨_, rfl⟩
   have a5 : max (A.size : Int) (B.size : Int) = (F : Int) := by omega
   by_cases hbig : 18 < F
   ·
    have o : decide ((18 : Int) < (F : Int)) = true := decide_eq_true (by omega); have r := hI (show 18 < max a.length b.length by rw [← Z.out, ← aa.out]; omega); clear hbig ac; obtain ⟨j, D, k, E⟩ := q.out.al2
    go_wp2_with fail
    refine bodyPost_ret (v := .tuple #[.agg #[.int .i64 0, .int .i64 0], .int .i64 5]) (by simp [results, Tryz.results166, go_sem, j, k]) rfl ?_
    rw [show read1 s.data.toList = (0, 0, 5) from u.out.trans (by rw [c.out, i.out, if_pos r.out]; rfl)]
    exact ⟨rfl, hI (store2_below ab.out q.out _ _ (Nat.le_refl _))⟩
   have o : decide ((18 : Int) < (F : Int)) = false := decide_eq_false (by omega); have r := hI (show ¬ 18 < max a.length b.length by rw [← Z.out, ← aa.out]; omega); have ad : A.data.toList.length ≤ 18 := (by rw [length_data]; omega); have ae : B.data.toList.length ≤ 18 := (by rw [length_data]; omega); have ar := hI ad; have au := hI ae; clear hbig ac ad ae; have av := hI (show (A ++ B).data.toList = a ++ b by rw [data_append, l.out, m.out]); have aw := hI (show digs (A ++ B).data.toList = true by rw [av.out]; exact digs_append c.out (digs_all i.out)); have ax : (A ++ B).size ≤ 100000 := (by rw [ByteArray.size_append]; omega)
   obtain ⟨V, hV⟩ : ∃ V : Nat, V = dval a := ⟨_, rfl⟩
   obtain ⟨d, hD⟩ : ∃ V : Nat, V = dval b := ⟨_, rfl⟩
   have a6 : V < 1000000000000000000 := by
    have h1 := dval_lt a (digs_all c.out); have h2 := pow10_le (show a.length ≤ 18 by have := r.out; omega)
    omega
   have a7 : d < 1000000000000000000 := by
    have h1 := dval_lt b (digs_all i.out); have h2 := pow10_le (show b.length ≤ 18 by have := r.out; omega)
    omega
   have Q := hI hV.symm; have S := hI hD.symm; clear hV hD
   go_wp2_with fail
   refine (rnumber_any (A ++ B) w4 aw.out ax ((((HT.out.belowW X.out).belowW N.out).belowW n.out).belowW p.out)).mono ?_
   rintro e w5 ⟨v0, rfl, ah⟩; have a0 := ab.out.t ah
   go_wp2_with fail
   refine (number_ok A w5 (by rw [l.out]; exact c.out) ar.out).mono ?_
   rw [l.out, Q.out]; rintro e w6 ⟨rfl, ai⟩; have a1 := a0.out.t ai
   go_wp2_with fail
   refine (number_ok B w6 (by rw [m.out]; exact i.out) au.out).mono ?_
   rw [m.out, S.out]; rintro e w7 ⟨rfl, aj⟩; have ak := hI (((q.out.belowW ah.out).belowW ai.out).belowW aj.out); have G := a1.out.t aj
   cases ng with
   | true =>
    go_wp2_with fail
    refine (make_q (-(V : Int)) (d : Int) w7 (by omega) (by omega) (by omega) (by omega)).mono ?_
    rintro e w8 ⟨rfl, C⟩; have g := ak.out.b9 C; have j : (w8).cell? ⟨w.heap.size, 0, none⟩ = some (.int .i64 0) := g.out.cell 0; have D : (w8).frozen? ⟨w.heap.size, 0, none⟩ = false := g.out.frozen 0; have k : (w8).cell? ⟨w.heap.size, 1, none⟩ = some (.int .i64 0) := g.out.cell 1; have E : (w8).frozen? ⟨w.heap.size, 1, none⟩ = false := g.out.frozen 1
    go_wp2_with fail
    refine bodyPost_ret (v := .tuple #[.agg #[.int .i64 (make (-(V : Int)) (d : Int)).1, .int .i64 (make (-(V : Int)) (d : Int)).2.1], .int .i64 (make (-(V : Int)) (d : Int)).2.2]) (by simp [results, Tryz.results166, go_sem, j, k]) rfl ?_
    rw [show read1 s.data.toList = make (-(V : Int)) (d : Int) from u.out.trans (by rw [c.out, i.out, if_neg r.out, Q.out, S.out]; rfl)]
    exact ⟨rfl, hI (store2_below (G.out.trans (C.out.mono G.out.size)) g.out _ _ (Nat.le_refl _))⟩
   | false =>
    go_wp2_with fail
    refine (make_q (V : Int) (d : Int) w7 (by omega) (by omega) (by omega) (by omega)).mono ?_
    rintro e w8 ⟨rfl, C⟩; have g := ak.out.b9 C; have j : (w8).cell? ⟨w.heap.size, 0, none⟩ = some (.int .i64 0) := g.out.cell 0; have D : (w8).frozen? ⟨w.heap.size, 0, none⟩ = false := g.out.frozen 0; have k : (w8).cell? ⟨w.heap.size, 1, none⟩ = some (.int .i64 0) := g.out.cell 1; have E : (w8).frozen? ⟨w.heap.size, 1, none⟩ = false := g.out.frozen 1
    go_wp2_with fail
    refine bodyPost_ret (v := .tuple #[.agg #[.int .i64 (make (V : Int) (d : Int)).1, .int .i64 (make (V : Int) (d : Int)).2.1], .int .i64 (make (V : Int) (d : Int)).2.2]) (by simp [results, Tryz.results166, go_sem, j, k]) rfl ?_
    rw [show read1 s.data.toList = make (V : Int) (d : Int) from u.out.trans (by rw [c.out, i.out, if_neg r.out, Q.out, S.out]; rfl)]
    exact ⟨rfl, hI (store2_below (G.out.trans (C.out.mono G.out.size)) g.out _ _ (Nat.le_refl _))⟩

theorem parse_none (s : ByteArray) (w : World) (hT : RX w) (hs : s.size ≤ 1000) (ng : Bool) (rest : List UInt8) (hn : (s.data.toList.head? == some 45) = ng) (hr : (if ng then s.data.toList.tail else s.data.toList) = rest) (h46 : (46 : UInt8) ∉ rest) (h47 : (47 : UInt8) ∉ rest) :
 Calls Tryz.prog 166 #[.string s] w (RtE (read1 s.data.toList) w) := by
 have M := prefix_head s.data.toList
 have N := hI M
 have ab : rest.length ≤ 1000 := by
  have : s.data.toList.length ≤ 1000 := by rw [length_data]; exact hs
  rw [← hr]; split
  ·
   simp at this ⊢; omega
  exact this
 have q := hI (read1_none hn hr h46 h47)
 have O := hI hn
 have HR := hI hr
 have ad := hI h46
 have ae := hI h47
 clear hT hn hr h46 h47 M
 go_enter Tryz.func166, Tryz.ntmps166
 go_wp2_with fail
 obtain ⟨m, c, y, P⟩ := aX w 26 #[.int .i64 0, .int .i64 0]
 rw [← c]
 clear c
 refine (Tryz.strings_CutPrefix s ⟨#[45]⟩ m).mono ?_
 rintro e w' ⟨rfl, c⟩
 obtain rfl := c.symm
 clear c
 obtain ⟨R, B⟩ : ∃ R : ByteArray, R = ⟨(Lib.trimPrefix s.data.toList (⟨#[45]⟩ : ByteArray).data.toList).toArray⟩ := ⟨_, rfl⟩
 have g := hI (show R.data.toList = rest by rw [B]; show Lib.trimPrefix s.data.toList [45] = rest; rw [N.out.2, O.out, HR.out])
 have af := hI (show Lib.hasPrefix s.data.toList (⟨#[45]⟩ : ByteArray).data.toList = ng by show Lib.hasPrefix s.data.toList [45] = ng; rw [N.out.1, O.out])
 rw [← B, af.out]
 clear B
 have am : R.size ≤ 1000 := by rw [← length_data, g.out]; exact ab
 go_wp2_with fail
 refine (cut_no R 46 m (by omega) (by rw [g.out]; exact ad.out)).mono ?_
 rintro e w' ⟨rfl, rfl⟩
 go_wp2_with fail
 refine (cut_no R 47 m (by omega) (by rw [g.out]; exact ae.out)).mono ?_
 rintro e w' ⟨rfl, rfl⟩
 go_wp2_with fail
 have C := hI (show R.size = rest.length by rw [← length_data, g.out])
 cases da : digs rest with
 | false =>
  have d := hI da; clear da
  refine (rdigits_any R m (by omega)).mono ?_
  rw [g.out, d.out]; rintro e w2 ⟨rfl, n⟩; have l := P.out.b9 n; obtain ⟨i, D, j, F⟩ := l.out.al2
  go_wp2_with fail
  refine bodyPost_ret (v := .tuple #[.agg #[.int .i64 0, .int .i64 0], .int .i64 3]) (by simp [results, Tryz.results166, go_sem, i, j]) rfl ?_
  rw [show read1 s.data.toList = (0, 0, 3) from q.out.trans (by rw [d.out]; rfl)]
  exact ⟨rfl, hI (store2_below (y.out.trans (n.out.mono y.out.size)) l.out _ _ (Nat.le_refl _))⟩
 | true =>
  have d := hI da; clear da
  refine (rdigits_any R m (by omega)).mono ?_
  rw [g.out, d.out]; rintro e w2 ⟨rfl, n⟩; have l := P.out.b9 n; have Q := y.out.t n
  by_cases hbig : 18 < R.size
  ·
   have db : decide ((18 : Int) < (R.size : Int)) = true := decide_eq_true (by omega); have k := hI (show 18 < rest.length by rw [← C.out]; exact hbig); clear hbig; obtain ⟨i, D, j, F⟩ := l.out.al2
   go_wp2_with fail
   refine bodyPost_ret (v := .tuple #[.agg #[.int .i64 0, .int .i64 0], .int .i64 5]) (by simp [results, Tryz.results166, go_sem, i, j]) rfl ?_
   rw [show read1 s.data.toList = (0, 0, 5) from q.out.trans (by rw [d.out, if_pos k.out]; rfl)]
   exact ⟨rfl, hI (store2_below Q.out l.out _ _ (Nat.le_refl _))⟩
  have db : decide ((18 : Int) < (R.size : Int)) = false := decide_eq_false (by omega); have k := hI (show ¬ 18 < rest.length by rw [← C.out]; exact hbig)
  obtain ⟨E, r⟩ : ∃ E : ByteArray, E = ⟨#[]⟩ := ⟨_, rfl⟩
  have S : E.size = 0 := (by rw [r]; rfl); have G := hI (show (R ++ E).data.toList = rest by rw [data_append, g.out, r]; simp); have ah := hI (show digs (R ++ E).data.toList = true by rw [G.out]; exact d.out); have ai := hI (show (R ++ E).data.toList.length ≤ 18 by rw [G.out]; have := k.out; omega)
  obtain ⟨V, T⟩ : ∃ V : Nat, V = dval rest := ⟨_, rfl⟩
  have an : V < 1000000000000000000 := by
   have h1 := dval_lt rest (digs_all d.out); have h2 := pow10_le (show rest.length ≤ 18 by have := k.out; omega)
   omega
  have H := hI T.symm; clear T hbig; rw [← r]; have U := hI S; have aq : E.size ≤ 0 := (by omega); have ar : decide ((18 : Int) < (R.size : Int) + E.size) = false := decide_eq_false (by have := k.out; have := C.out; omega); have aj := hI (show ∀ p (h : p < E.size), (E[p]'h).toNat < 128 from fun p h => absurd h (by omega)); clear r S
  go_wp2_with fail
  refine (number_ok (R ++ E) w2 ah.out ai.out).mono ?_
  rw [G.out, H.out]; rintro e w3 ⟨rfl, W⟩; have ak := Q.out.t W
  go_wp2_with fail
  go_loopw [12] (fun dv wr => ∃ pos : Nat, pos ≤ E.size ∧ wr = w3.iter E pos ∧ dv = .int .i64 (10 ^ pos : Nat)) (fun _ wr => E.size - wr.iterPos w3.heap.size)
  case atStart => exact ⟨0, Nat.zero_le _, rfl, rfl⟩
  obtain ⟨pos, au, rfl, rfl⟩ := hrel
  by_cases hlt : pos < E.size
  ·
   have X : ∀ ty, (Instr.next (.pointer (some ⟨w3.heap.size, 0, none⟩)) true ty).run Tryz.prog (w3.iter E pos) = _ := fun ty => run_next_ascii w3 E pos ty hlt (aj.out pos hlt)
   have I := pow10_le (show pos + 1 ≤ 18 by omega)
   obtain ⟨z, u⟩ : ∃ z : Nat, z = 10 ^ pos := ⟨_, rfl⟩
   rw [Nat.pow_succ, ← u] at I; rw [← u]; have HZ := hI u; clear u
   go_wp2
   go_roundw
   case rel => exact ⟨pos + 1, by omega, rfl, by rw [(show (10 ^ (pos + 1) : Nat) = 10 ^ pos * 10 from Nat.pow_succ 10 pos), ← HZ.out]; go_num⟩
   case measure => simp; omega
  obtain rfl : pos = E.size := by omega
  have X : ∀ ty, (Instr.next (.pointer (some ⟨w3.heap.size, 0, none⟩)) true ty).run Tryz.prog (w3.iter E E.size) = _ := fun ty => run_next_end w3 E E.size ty hlt
  have I := pow10_le (show E.size ≤ 18 by omega)
  obtain ⟨b, J⟩ : ∃ z : Nat, z = 10 ^ E.size := ⟨_, rfl⟩
  rw [← J] at I ⊢; have Y := hI J; clear J
  go_upto_region 19 with (fail)
  obtain ⟨L, c⟩ := eX (w3.iter E E.size); have Z := hI (show Below w3.heap.size w3 L by rw [c]; exact iter_below _ _ _); rw [← c]; clear c X; have aa := hI ((l.out.belowW W.out).belowW Z.out); have x := ak.out.t Z
  cases ng with
  | true =>
   go_wp2_with fail
   refine (make_q (-(V : Int)) (b : Int) L (by omega) (by omega) (by omega) (by omega)).mono ?_
   rintro e w5 ⟨rfl, o⟩; have a := aa.out.b9 o; have i : (w5).cell? ⟨w.heap.size, 0, none⟩ = some (.int .i64 0) := a.out.cell 0; have D : (w5).frozen? ⟨w.heap.size, 0, none⟩ = false := a.out.frozen 0; have j : (w5).cell? ⟨w.heap.size, 1, none⟩ = some (.int .i64 0) := a.out.cell 1; have F : (w5).frozen? ⟨w.heap.size, 1, none⟩ = false := a.out.frozen 1
   go_wp2_with fail
   refine bodyPost_ret (v := .tuple #[.agg #[.int .i64 (make (-(V : Int)) (b : Int)).1, .int .i64 (make (-(V : Int)) (b : Int)).2.1], .int .i64 (make (-(V : Int)) (b : Int)).2.2]) (by simp [results, Tryz.results166, go_sem, i, j]) rfl ?_
   rw [show read1 s.data.toList = make (-(V : Int)) (b : Int) from q.out.trans (by rw [d.out, if_neg k.out, H.out, Y.out, U.out]; rfl)]
   exact ⟨rfl, hI (store2_below (x.out.trans (o.out.mono x.out.size)) a.out _ _ (Nat.le_refl _))⟩
  | false =>
   go_wp2_with fail
   refine (make_q (V : Int) (b : Int) L (by omega) (by omega) (by omega) (by omega)).mono ?_
   rintro e w5 ⟨rfl, o⟩; have a := aa.out.b9 o; have i : (w5).cell? ⟨w.heap.size, 0, none⟩ = some (.int .i64 0) := a.out.cell 0; have D : (w5).frozen? ⟨w.heap.size, 0, none⟩ = false := a.out.frozen 0; have j : (w5).cell? ⟨w.heap.size, 1, none⟩ = some (.int .i64 0) := a.out.cell 1; have F : (w5).frozen? ⟨w.heap.size, 1, none⟩ = false := a.out.frozen 1
   go_wp2_with fail
   refine bodyPost_ret (v := .tuple #[.agg #[.int .i64 (make (V : Int) (b : Int)).1, .int .i64 (make (V : Int) (b : Int)).2.1], .int .i64 (make (V : Int) (b : Int)).2.2]) (by simp [results, Tryz.results166, go_sem, i, j]) rfl ?_
   rw [show read1 s.data.toList = make (V : Int) (b : Int) from q.out.trans (by rw [d.out, if_neg k.out, H.out, Y.out, U.out]; rfl)]
   exact ⟨rfl, hI (store2_below (x.out.trans (o.out.mono x.out.size)) a.out _ _ (Nat.le_refl _))⟩

theorem parse_any' (s : ByteArray) (w : World) (hT : RX w) (hs : s.size ≤ 1000) :
 Calls Tryz.prog 166 #[.string s] w (RtE (read1 s.data.toList) w) := by
 rcases split_plain (if (s.data.toList.head? == some 45) then s.data.toList.tail else s.data.toList) with ⟨h1, h2⟩ | ⟨a, c, b, hab, hc, h1, h2⟩
 ·
  exact parse_none s w hT hs _ _ rfl rfl h1 h2
 rcases hc with rfl | rfl
 ·
  exact parse_point s w hT hs _ _ rfl rfl a b hab h1
 by_cases h46 : (46 : UInt8) ∈ b
 ·
  obtain ⟨x, y, hxy, hx⟩ : ∃ x y, b = x ++ 46 :: y ∧ (46 : UInt8) ∉ x := ⟨b.takeWhile (· != 46), (b.dropWhile (· != 46)).tail, by
   have h := takeWhile_append_dropWhile_tail b 46 h46
   exact h, tw_not_mem b 46⟩
  exact parse_point s w hT hs _ _ rfl rfl (a ++ 47 :: x) y (by rw [hab, hxy]; simp) (by
   intro h
   rcases List.mem_append.1 h with h | h
   ·
    exact h1 h
   rcases List.mem_cons.1 h with h | h
   ·
    exact absurd h (by decide)
   exact hx h)
 exact parse_slash s w hT hs _ _ rfl rfl a b (by
  rw [hab]
  intro h
  rcases List.mem_append.1 h with h | h
  ·
   exact h1 h
  rcases List.mem_cons.1 h with h | h
  ·
   exact absurd h (by decide)
  exact h46 h) hab h2
end Go.Proofs.YtkjoohnndobjeaaGreatDoor
namespace Go.Proofs.YtkjoohnndobjeaaGreatDoor
open Go.RowKit Go.Fl Go.Fl.Lx Go.Fl.Nm Go.Fl.Fm Go.Fl.Rt Go.Fl.Pa
/-- What a rule for numbers answers. -/
def RtP (w0 : World) (g : Nat) (A : Option Addr) (len cap : Nat) (ts : List Tok) (m : Nat) (r : PR (Int × Int)) (w : World) (e : Ending) (w' : World) : Prop :=
  match r with
  | .ok a k1 => e = .returned (.agg #[.int .i64 a.1, .int .i64 a.2]) ∧ Hid (w.grownBy w' (some g)) ∧ Hid (Env w0 g A len cap ts k1 m w')
  | .bad ln co er => e = pan ln co er ∧ Hid (w.grownBy w' (some g))
  | .out => False
theorem rtp_unex {w0 : World} {g : Nat} {A : Option Addr} {len cap : Nat} {ts : List Tok} {m k : Nat} {w w' : World} {e : Ending} (he : e = panU ts k) (hg : Hid (w.grownBy w' (some g))) : RtP w0 g A len cap ts m (unex ts k) w e w' := by
 unfold unex failP
 unfold panU at he
 split
 ·
  rename_i h
  rw [if_pos h] at he
  exact ⟨he, hg⟩
 rename_i h
 rw [if_neg h] at he
 exact ⟨he, hg⟩
theorem panU_pan (ts : List Tok) (k : Nat) : ∃ c, panU ts k = .panicked c := by unfold panU; split <;> exact ⟨_, rfl⟩
theorem grown_new {w w' : World} {g r : Nat} (h : w.grownBy w' (some g)) (hr : w.heap.size ≤ r) (t : TypeId) (V : Array Value) : w.grownBy (putB w' r t V) (some g) :=
 ⟨h.os, h.tape, h.output, by rw [putB_size]; exact h.size, fun k hk hne => by
  unfold putB
  rw [Array.getElem?_setIfInBounds, if_neg (by omega)]
  exact h.block k hk hne⟩
theorem Env.far {w0 w : World} {g : Nat} {A : Option Addr} {len cap : Nat} {ts : List Tok} {k m : Nat} (h : Env w0 g A len cap ts k m w) {r : Nat} (hr : r ≠ g) (hl : w0.heap.size ≤ r) (t : TypeId) (V : Array Value) : Env w0 g A len cap ts k m (putB w r t V) :=
 ⟨h.t, h.b.trans (putB_below w r t V hl), h.lo, Blk.far h.p (Ne.symm hr) V, h.kk⟩
/-- What a make finds is small. -/
theorem make_small (x y : Int) : -4611686018427387904 ≤ (make x y).1 ∧ (make x y).1 ≤ 4611686018427387904 ∧ -4611686018427387904 ≤ (make x y).2.1 ∧ (make x y).2.1 ≤ 4611686018427387904 ∧ 0 ≤ (make x y).2.2 ∧ (make x y).2.2 ≤ 20 := by
 have e : MX = 1073741824 := rfl
 unfold make
 split
 ·
  exact ⟨by decide, by decide, by decide, by decide, by decide, by decide⟩
 split
 ·
  exact ⟨by decide, by decide, by decide, by decide, by decide, by decide⟩
 rename_i h1 h2
 obtain ⟨a, ha⟩ := eX (x.natAbs / Nat.gcd x.natAbs y.natAbs)
 obtain ⟨b, hb⟩ := eX (y.natAbs / Nat.gcd x.natAbs y.natAbs)
 rw [← ha, ← hb] at h2 ⊢
 simp only
 refine ⟨?_, ?_, by omega, by omega, by decide, by decide⟩
 ·
  split <;> omega
 split <;> omega
def SmR (r : Int × Int × Int) : Prop := -4611686018427387904 ≤ r.1 ∧ r.1 ≤ 4611686018427387904 ∧ -4611686018427387904 ≤ r.2.1 ∧ r.2.1 ≤ 4611686018427387904 ∧ 0 ≤ r.2.2 ∧ r.2.2 ≤ 20
theorem read1_small (l : List UInt8) : -4611686018427387904 ≤ (read1 l).1 ∧ (read1 l).1 ≤ 4611686018427387904 ∧ -4611686018427387904 ≤ (read1 l).2.1 ∧ (read1 l).2.1 ≤ 4611686018427387904 ∧ 0 ≤ (read1 l).2.2 ∧ (read1 l).2.2 ≤ 20 := by
 have ite_P : ∀ (c : Prop) [Decidable c] (a b : Int × Int × Int), SmR a → SmR b → SmR (if c then a else b) := fun c _ a b ha hb => by split <;> assumption
 have z3 : SmR (0, 0, 3) := ⟨by decide, by decide, by decide, by decide, by decide, by decide⟩
 have z5 : SmR (0, 0, 5) := ⟨by decide, by decide, by decide, by decide, by decide, by decide⟩
 have key : SmR (read1 l) := by
  unfold read1
  exact ite_P _ _ _ z3 (ite_P _ _ _ z5 (make_small _ _))
 exact key

/-- A number as a node. -/
def ndR (a : Int × Int) : Nd := ⟨⟨1, a.1, a.2, ⟨#[]⟩, 0⟩, none, 0, 0⟩
theorem pNum (a : Int × Int) (w : World) : Calls Tryz.prog 156 #[.agg #[.int .i64 a.1, .int .i64 a.2]] w (RetB (ndR a).val w) := by
 obtain ⟨n, d⟩ := a
 simp only [ndR, Nd.val]
 go_enter Tryz.func156, Tryz.ntmps156
 go_upto_region 1 with (fail)
 obtain ⟨c, b⟩ := eX ((w.alloc (Obj.cells #[.int .i64 n, .int .i64 d] 26)).alloc (Obj.cells #[.int .i64 0, .int .i64 0, .int .i64 0, .string ⟨#[]⟩, .int .i64 0, .slice none 0 0] 29))
 have g := World.size_alloc w (Obj.cells #[.int .i64 n, .int .i64 d] 26)
 have j := hI (show Lo w c by rw [b]; exact ((Below.refl _ _).alloc (Nat.le_refl _) _).alloc (by rw [g]; omega) _)
 have k := hI (show Blk c w.heap.size 26 #[.int .i64 n, .int .i64 d] by rw [b]; exact (Blk.new _ _ _).alloc _)
 have i := hI (show Blk c (w.heap.size + 1) 29 #[.int .i64 0, .int .i64 0, .int .i64 0, .string ⟨#[]⟩, .int .i64 0, .slice none 0 0] by
  rw [b]; have h := Blk.new (w.alloc (Obj.cells #[.int .i64 n, .int .i64 d] 26)) 29 #[.int .i64 0, .int .i64 0, .int .i64 0, .string ⟨#[]⟩, .int .i64 0, .slice none 0 0]
  rwa [g] at h)
 rw [← b]
 clear b g
 obtain ⟨s, u, x, y⟩ := k.out.all2
 obtain ⟨z, B, C, D, E, F, G, H, I, J, L, M⟩ := i.out.all6
 go_wp2_with fail
 rw [pst6 i.out]
 obtain ⟨l, _, m, _, o, _, p, _, q, _, r, _⟩ := (i.out.put #[.int .i64 1, .int .i64 n, .int .i64 d, .string ⟨#[]⟩, .int .i64 0, .slice none 0 0]).all6
 refine bodyPost_ret (v := .agg #[.int .i64 1, .int .i64 n, .int .i64 d, .string ⟨#[]⟩, .int .i64 0, .slice none 0 0]) (by simp [results, Tryz.results156, go_sem, l, m, o, p, q, r]) rfl ?_
 exact ⟨rfl, hI (j.out.put (by omega) _ _)⟩

theorem pFraction {w0 w : World} {g : Nat} {A : Option Addr} {len cap : Nat} {ts : List Tok} {k m : Nat} (h : Env w0 g A len cap ts k m w) (hk : k ≤ 140000) : Calls Tryz.prog 139 #[.pointer (some ⟨g, 0, none⟩)] w (RetB (.bool (fracP ts k)) w) := by
 have p := hI (pSign h)
 have i := hI h
 have y := signP_le ts k
 obtain ⟨s, j⟩ := eX (signP ts k)
 obtain ⟨a, l⟩ : ∃ a, integerP ts (k + s) = a := ⟨_, rfl⟩
 obtain ⟨b, d⟩ : ∃ a, isS false ts (k + (s + 1)) [47] = a := ⟨_, rfl⟩
 obtain ⟨c, hc⟩ : ∃ a, integerP ts (k + (s + 2)) = a := ⟨_, rfl⟩
 have q := hI (show fracP ts k = (a && (b && c)) by unfold fracP; rw [← j, l, Nat.add_assoc k s 1, d, Nat.add_assoc k s 2, hc])
 rw [← j] at p y
 rw [q.out]
 have r := hI (fun (w1 : World) (d : Below w.heap.size w w1) => pInteger (i.out.belowW d) s (by omega))
 have u := hI (fun (w1 : World) (d : Below w.heap.size w w1) => pIs (i.out.belowW d) (s + 1) (by omega) ⟨#[47]⟩)
 have v := hI (fun (w1 : World) (d : Below w.heap.size w w1) => pInteger (i.out.belowW d) (s + 2) (by omega))
 rw [show kwP (⟨#[47]⟩ : ByteArray).data.toList = false by decide, show (⟨#[47]⟩ : ByteArray).data.toList = [47] from rfl, d] at u
 rw [l] at r
 rw [hc] at v
 have D : IntKind.i64.wrap ((s : Int) + 1) = (s : Int) + 1 := by rw [IntKind.wrap_i64]; omega
 have E : IntKind.i64.wrap ((s : Int) + 2) = (s : Int) + 2 := by rw [IntKind.wrap_i64]; omega
 clear h j l d hc q
 go_enter Tryz.func139, Tryz.ntmps139
 go_wp2_with fail
 refine p.out.mono ?_
 rintro e w2 ⟨rfl, x⟩
 go_wp2_with fail
 refine (r.out w2 x.out).mono ?_
 rintro e w3 ⟨rfl, z⟩
 have n := x.out.t z
 cases a with
 | false =>
  go_wp2_with fail
  go_ret
  exact ⟨rfl, n⟩
 | true =>
  go_wp2_with fail
  refine (u.out w3 n.out).mono ?_
  rintro e w4 ⟨rfl, B⟩; have o := n.out.t B
  cases b with
  | false =>
   go_wp2_with fail
   go_ret
   exact ⟨rfl, o⟩
  | true =>
   go_wp2_with fail
   refine (v.out w4 o.out).mono ?_
   rintro e w5 ⟨rfl, C⟩
   go_wp2_with fail
   go_ret
   exact ⟨rfl, o.out.t C⟩

theorem pNumber {w0 w : World} {g : Nat} {A : Option Addr} {len cap : Nat} {ts : List Tok} {k m : Nat} (h : Env w0 g A len cap ts k m w) (hk : k ≤ 130000) (hR : RX w0) : Calls Tryz.prog 141 #[.pointer (some ⟨g, 0, none⟩)] w (RtP w0 g A len cap ts m (numP ts k) w) := by
 obtain ⟨b, y⟩ : ∃ b, isS false ts k [45] = b := ⟨_, rfl⟩
 have F : signP ts k = if b = true then 1 else 0 := by unfold signP; rw [y]
 go_enter Tryz.func141, Tryz.ntmps141
 go_upto_region 1 with (fail)
 obtain ⟨w1, aa, O1, F1⟩ := aX w 26 #[.int .i64 0, .int .i64 0]
 rw [← aa]
 clear aa
 have KA := hI (pAccept (h.belowW O1.out) (by omega) ⟨#[45]⟩)
 have ad := hI (show some w.heap.size ≠ some g from fun e => by have := h.gl; injection e with e; omega)
 rw [show kwP (⟨#[45]⟩ : ByteArray).data.toList = false by decide, show (⟨#[45]⟩ : ByteArray).data.toList = [45] from rfl, y] at KA
 go_wp2_with fail
 refine KA.out.mono ?_
 rintro e w2 ⟨rfl, ae, j⟩
 have HG := hI (grown_tr (grown_of (some g) O1.out) ae.out)
 obtain ⟨a, z⟩ := eX (k + signP ts k)
 have ag : (if b = true then k + 1 else k) = a := by rw [z, F]; split <;> rfl
 rw [ag] at j
 obtain ⟨T, ah⟩ := eX (tk ts a)
 have i := hI ah
 have G := hI z
 have ax := hI y
 have ay := hI h
 have bg : a ≤ 130001 := by rw [z, F]; split <;> omega
 clear ah z ag F y h
 have bh := j
 by_cases hk2 : T.kind = 2
 case neg =>
  have o := hI (show numP ts k = unex ts a by unfold numP; rw [← G.out, ← i.out, if_pos hk2]); have d1 : ((T.kind : Int) != 2) = true := (by rw [bne_iff_ne]; omega)
  go_wp2_with fail
  refine (j.out.tok 0 (by omega)).mono ?_
  rw [Nat.add_zero, ← i.out]; rintro e w3 ⟨rfl, l⟩; have hF := tokF0 T
  go_wp2_with fail
  refine ((j.out.belowW l.out).unx).mono ?_
  rintro e w4 ⟨he, s⟩; obtain ⟨c, hc⟩ := panU_pan ts a; have HC := hI hc; rw [hc] at he; subst he; clear hc
  go_wp2_with fail
  rw [o.out]
  exact ⟨rfl, rtp_unex HC.out.symm (hI (grown_tr HG.out (grown_tr (grown_of _ l.out) (grown_of _ s.out))))⟩
 have d1 : ((T.kind : Int) != 2) = false := by rw [hk2]; rfl
 obtain ⟨n, d, q, B⟩ : ∃ n d q, read1 T.text = (n, d, q) := ⟨_, _, _, rfl⟩
 have H := read1_small T.text
 rw [B] at H
 simp only at H
 obtain ⟨bi, bj, bk, bl, a2, bm⟩ := H
 go_wp2_with fail
 refine (j.out.tok 0 (by omega)).mono ?_
 rw [Nat.add_zero, ← i.out]
 rintro e w3 ⟨rfl, l⟩
 have hF := tokF0 T
 have bn := tokF1 T
 go_wp2_with fail
 refine ((j.out.belowW l.out).tok 0 (by omega)).mono ?_
 rw [Nat.add_zero, ← i.out]
 rintro e w4 ⟨rfl, s⟩
 have I := hI ((j.out.belowW l.out).belowW s.out)
 go_wp2_with fail
 refine (parse_any' ⟨T.text.toArray⟩ w4 (hR.belowW I.out.b) (by have := (I.out.t.tk a).1; rw [← i.out] at this; show T.text.length ≤ 1000; omega)).mono ?_
 rw [show (⟨T.text.toArray⟩ : ByteArray).data.toList = T.text from rfl, B]
 rintro e w5 ⟨rfl, aj⟩
 have ak := hI (l.out.trans ((s.out.trans (aj.out.mono s.out.size)).mono l.out.size))
 have J := I.out.b9 aj
 have L := hI ((F1.out.grown ae.out ad.out).belowW ak.out)
 go_upto_region 5 with (fail)
 obtain ⟨r, al, M, Q6⟩ := aX w5 26 #[.int .i64 n, .int .i64 d]
 rw [← al]
 clear al
 have N := J.out.b9 M
 have am := hI (grown_tr (grown_tr HG.out (grown_of (some g) ak.out)) (grown_of (some g) M.out))
 by_cases her : q = 0
 case neg =>
  have o := hI (show numP ts k = failP ts a q.toNat by unfold numP; rw [← G.out, ← i.out, if_neg (by rw [hk2]; simp), B, if_pos her]); have d2 : (q != 0) = true := (by rw [bne_iff_ne]; exact her)
  go_wp2_with fail
  refine (N.out.fail q).mono ?_
  rw [← i.out]; rintro e C ⟨rfl, a4⟩
  go_wp2_with fail
  rw [o.out]
  unfold failP RtP
  rw [← i.out]
  exact ⟨rfl, by rw [Int.toNat_of_nonneg a2], hI (grown_tr am.out (grown_of _ a4.out))⟩
 subst her
 have o := hI (show numP ts k = .ok ((if b = true then -n else n), d) (a + 1) by
  unfold numP
  rw [← G.out, ← i.out, if_neg (by rw [hk2]; simp), B, if_neg (by simp), ax.out])
 have an : w5.heap.size ≠ g := Nat.ne_of_gt J.out.gl
 have O : w.heap.size ≠ g := fun e => ad.out (by rw [e])
 have a5 : w.heap.size ≠ w5.heap.size := Nat.ne_of_lt L.out.lt
 have a6 : w.heap.size ≤ w5.heap.size := Nat.le_of_lt L.out.lt
 have a7 : w0.heap.size ≤ w5.heap.size := J.out.b.size
 have ao : w0.heap.size ≤ w.heap.size := ay.out.b.size
 have e1 : IntKind.i64.wrap ((a : Int) + 1) = (a : Int) + 1 := by rw [IntKind.wrap_i64]; omega
 have D := hI (show Blk r g 140 #[.slice A len cap, .int .i64 (a : Nat), .int .i64 (m : Nat)] from N.out.p)
 have p1 : r.cell? ⟨g, 1, none⟩ = some (.int .i64 (a : Nat)) := D.out.cell 1
 have f1 : r.frozen? ⟨g, 1, none⟩ = false := D.out.frozen 1
 go_upto_region 8 with (fail)
 rw [D.out.setCell_eq]
 have P := hI (N.out.put (a + 1) m (by omega))
 have u := hI (Q6.out.far (t' := 140) an #[.slice A len cap, .int .i64 ((a + 1 : Nat) : Int), .int .i64 (m : Nat)])
 have x := hI ((L.out.belowW M.out).far (t' := 140) O #[.slice A len cap, .int .i64 ((a + 1 : Nat) : Int), .int .i64 (m : Nat)])
 have Q := hI (grown_tr am.out (putB_grown r g 140 #[.slice A len cap, .int .i64 ((a + 1 : Nat) : Int), .int .i64 (m : Nat)]))
 clear p1 f1 D
 obtain ⟨C, R⟩ := eX (putB r g 140 #[.slice A len cap, .int .i64 ((a + 1 : Nat) : Int), .int .i64 (m : Nat)])
 have ap : putB r g 140 ((#[.slice A len cap, .int .i64 (a : Nat), .int .i64 (m : Nat)] : Array Value).setIfInBounds 1 (.int .i64 ((a : Int) + 1))) = C := by rw [R]; rfl
 rw [← R] at P u x Q
 rw [ap]
 clear R ap
 cases b with
 | false =>
  obtain ⟨S, U, V, W⟩ := u.out.all2; obtain ⟨r0, h0, r1, h1⟩ := x.out.all2
  go_wp2_with fail
  rw [pst2 x.out]; obtain ⟨X, _, Y, _⟩ := (x.out.put #[.int .i64 n, .int .i64 d]).all2
  refine bodyPost_ret (v := .agg #[.int .i64 n, .int .i64 d]) (by simp [results, Tryz.results141, go_sem, X, Y]) rfl ?_
  rw [o.out]
  exact ⟨rfl, hI (grown_new Q.out (Nat.le_refl _) _ _), hI (P.out.far O ao _ _)⟩
 | true =>
  have e3 : IntKind.i64.wrap (-n) = -n := (by rw [IntKind.wrap_i64]; omega); obtain ⟨S, U, V, W⟩ := u.out.all2
  go_upto_region 10 with (fail)
  rw [u.out.setCell_eq]; have aq := hI (P.out.far an a7 26 #[.int .i64 (-n), .int .i64 d]); have Q8 := hI (u.out.put #[.int .i64 (-n), .int .i64 d]); have E := hI (x.out.far (t' := 26) a5 #[.int .i64 (-n), .int .i64 d]); have au := hI (grown_new Q.out a6 26 #[.int .i64 (-n), .int .i64 d]); clear S U V W; obtain ⟨w8, Z⟩ := eX (putB C w5.heap.size 26 #[.int .i64 (-n), .int .i64 d]); have av : putB C w5.heap.size 26 ((#[.int .i64 n, .int .i64 d] : Array Value).setIfInBounds 0 (.int .i64 (-n))) = w8 := (by rw [Z]; rfl); rw [← Z] at aq Q8 E au; rw [av]; clear Z av; obtain ⟨S, U, V, W⟩ := Q8.out.all2; obtain ⟨r0, h0, r1, h1⟩ := E.out.all2
  go_wp2_with fail
  rw [pst2 E.out]; obtain ⟨X, _, Y, _⟩ := (E.out.put #[.int .i64 (-n), .int .i64 d]).all2
  refine bodyPost_ret (v := .agg #[.int .i64 (-n), .int .i64 d]) (by simp [results, Tryz.results141, go_sem, X, Y]) rfl ?_
  rw [o.out]
  exact ⟨rfl, hI (grown_new au.out (Nat.le_refl _) _ _), hI (aq.out.far O ao _ _)⟩
end Go.Proofs.YtkjoohnndobjeaaGreatDoor
namespace Go.Proofs.YtkjoohnndobjeaaGreatDoor
open Go.RowKit Go.Fl Go.Fl.Lx Go.Fl.Nm Go.Fl.Fm Go.Fl.Rt Go.Fl.Pa
theorem numP_small {ts : List Tok} {k k1 : Nat} {a : Int × Int} (h : numP ts k = .ok a k1) : -4611686018427387904 ≤ a.1 ∧ a.1 ≤ 4611686018427387904 := by
 unfold numP at h
 split at h
 ·
  exact (unex_ok h).elim
 split at h
 ·
  exact (fail_ok h).elim
 have hs := read1_small (tk ts (k + signP ts k)).text
 injection h with h1 h2
 rw [← h1]
 simp only
 split <;> omega
theorem rtp_bad {w0 : World} {g : Nat} {A : Option Addr} {len cap : Nat} {ts : List Tok} {m ln co er : Nat} {w w' : World} (hg : Hid (w.grownBy w' (some g))) : RtP w0 g A len cap ts m (.bad ln co er) w (pan ln co er) w' := ⟨rfl, hg⟩
theorem rtp_fail {w0 : World} {g : Nat} {A : Option Addr} {len cap : Nat} {ts : List Tok} {m k : Nat} {er : Int} (he : 0 ≤ er) {w w' : World} (hg : Hid (w.grownBy w' (some g))) : RtP w0 g A len cap ts m (failP ts k er.toNat) w (pan (tk ts k).line (tk ts k).col er) w' := by
 unfold failP
 have h := rtp_bad (w0 := w0) (A := A) (len := len) (cap := cap) (ts := ts) (m := m) (ln := (tk ts k).line) (co := (tk ts k).col) (er := er.toNat) hg
 rwa [Int.toNat_of_nonneg he] at h

theorem pQuotient {w0 w : World} {g : Nat} {A : Option Addr} {len cap : Nat} {ts : List Tok} {k m : Nat} (h : Env w0 g A len cap ts k m w) (hk : k ≤ 120000) (hR : RX w0) : Calls Tryz.prog 140 #[.pointer (some ⟨g, 0, none⟩)] w (RtP w0 g A len cap ts m (quotP ts k) w) := by
 have br : ts.length ≤ 100000 := by have := h.t.hl; have := h.t.hs; omega
 go_enter Tryz.func140, Tryz.ntmps140
 go_upto_region 1 with (fail)
 obtain ⟨w1, ac, M, F1⟩ := aX w 26 #[.int .i64 0, .int .i64 0]
 rw [← ac]
 clear ac
 have N := hI (show some w.heap.size ≠ some g from fun e => by have := h.gl; injection e with e; omega)
 have u := hI (pNumber (h.belowW M.out) (by omega) hR)
 have af : w.heap.size ≠ g := fun e => N.out (by rw [e])
 have a3 : w0.heap.size ≤ w.heap.size := h.b.size
 have bs : w.heap.size < w1.heap.size := F1.out.lt
 clear h
 cases hn : numP ts k with
 | out => exact (numP_out hn).elim
 | bad ln co i =>
  rw [hn] at u; have l := hI (show quotP ts k = .bad ln co i by unfold quotP; rw [hn]; rfl); clear hn
  go_wp2_with fail
  refine u.out.mono ?_
  rintro e w2 ⟨rfl, HG⟩
  go_wp2_with fail
  rw [l.out]
  exact ⟨rfl, rtp_bad (hI (grown_tr (grown_of _ M.out) HG.out))⟩
 | ok a k1 =>
  rw [hn] at u; have a5 := numP_small hn; have bt := numP_ok hn
  have l := hI (show quotP ts k = (if !isS false ts k1 [47] then unex ts k1
   else if (read1 (tk ts (k1 + 1)).text).2.2 ≠ 0 then failP ts (k1 + 1) (read1 (tk ts (k1 + 1)).text).2.2.toNat
   else if (make a.1 (read1 (tk ts (k1 + 1)).text).1).2.2 ≠ 0 then failP ts (k1 + 1) (make a.1 (read1 (tk ts (k1 + 1)).text).1).2.2.toNat
   else .ok ((make a.1 (read1 (tk ts (k1 + 1)).text).1).1, (make a.1 (read1 (tk ts (k1 + 1)).text).1).2.1) (k1 + 2)) by unfold quotP; rw [hn]; rfl)
  obtain ⟨z, ad⟩ := a; clear hn
  go_wp2_with fail
  refine u.out.mono ?_
  rintro e w2 ⟨rfl, O, P⟩; have bu := O.out.size
  go_upto_region 2 with (fail)
  obtain ⟨w3, ag, Q, Q3⟩ := aX w2 26 #[.int .i64 z, .int .i64 ad]; rw [← ag]; clear ag; have ah := P.out.b9 Q; have ai := hI (grown_tr (grown_tr (grown_of (some g) M.out) O.out) (grown_of (some g) Q.out)); have R : w2.heap.size ≠ g := Nat.ne_of_gt P.out.gl; have a8 := hI (show some w2.heap.size ≠ some g from fun e => R (Option.some.inj e)); have a9 : w.heap.size ≠ w2.heap.size := (by omega); have ba : w.heap.size ≤ w2.heap.size := (by omega); have bb : w0.heap.size ≤ w2.heap.size := P.out.b.size
  cases hc : isS false ts k1 [47] with
  | false =>
   have q := hI (show quotP ts k = unex ts k1 by rw [l.out, hc]; rfl); have S := hI (pWantN ah.out (by omega) ⟨#[47]⟩ (by rw [show kwP (⟨#[47]⟩ : ByteArray).data.toList = false by decide]; exact hc)); clear hc l
   go_wp2_with fail
   refine S.out.mono ?_
   rintro e w4 ⟨he, r⟩; obtain ⟨c, hc⟩ := panU_pan ts k1; have HC := hI hc; rw [hc] at he; subst he; clear hc
   go_wp2_with fail
   rw [q.out]
   exact ⟨rfl, rtp_unex HC.out.symm (hI (grown_tr ai.out r.out))⟩
  | true =>
   have S := hI (pWantY ah.out (by omega) ⟨#[47]⟩ (by rw [show kwP (⟨#[47]⟩ : ByteArray).data.toList = false by decide]; exact hc)); obtain ⟨T, U⟩ := eX (tk ts (k1 + 1)); have HT := hI U
   obtain ⟨n, d, i, B⟩ : ∃ n d i, read1 T.text = (n, d, i) := ⟨_, _, _, rfl⟩
   have V := read1_small T.text; rw [B] at V; simp only at V; obtain ⟨bw, bx, bz, b0, bd, b1⟩ := V
   obtain ⟨x, y, j, C⟩ : ∃ x y j, make z n = (x, y, j) := ⟨_, _, _, rfl⟩
   have W := make_small z n; rw [C] at W; simp only at W a5
   have q := hI (show quotP ts k = (if i ≠ 0 then failP ts (k1 + 1) i.toNat else if j ≠ 0 then failP ts (k1 + 1) j.toNat else .ok (x, y) (k1 + 2)) by
    rw [l.out, hc, ← U, B]; simp only [C]
    rfl)
   have be := hI B; have bf := hI C; clear hc l U B C
   go_wp2_with fail
   refine S.out.mono ?_
   rintro e w4 ⟨rfl, r, X⟩
   go_wp2_with fail
   refine (X.out.tok 0 (by omega)).mono ?_
   rw [Nat.add_zero, ← HT.out]; rintro e w5 ⟨rfl, al⟩; have am := X.out.b9 al; have b2 := tokF1 T
   go_wp2_with fail
   refine (parse_any' ⟨T.text.toArray⟩ w5 (hR.belowW am.out.b) (by have := (am.out.t.tk (k1 + 1)).1; rw [← HT.out] at this; show T.text.length ≤ 1000; omega)).mono ?_
   rw [show (⟨T.text.toArray⟩ : ByteArray).data.toList = T.text from rfl, be.out]; rintro e w6 ⟨rfl, bg⟩; have bh := al.out.t bg
   go_upto_region 4 with (fail)
   obtain ⟨w7, ao, bj, P7⟩ := aX w6 26 #[.int .i64 n, .int .i64 d]; rw [← ao]; clear ao; have D := bh.out.t bj; have ap := X.out.b9 D; have Q7 := hI ((Q3.out.grown r.out a8.out).belowW D.out); have ar := hI (grown_tr ai.out (grown_tr r.out (grown_of (some g) D.out)))
   by_cases her : i = 0
   case neg =>
    have s := hI (show quotP ts k = failP ts (k1 + 1) i.toNat by rw [q.out, if_pos her]); have d1 : (i == 0) = false := (by rw [beq_eq_false_iff_ne]; exact her); have d2 : (i != 0) = true := (by rw [bne_iff_ne]; exact her)
    go_wp2_with fail
    refine (ap.out.fail i).mono ?_
    rintro e w8 ⟨rfl, o⟩
    go_wp2_with fail
    rw [s.out]
    exact ⟨rfl, rtp_fail bd (hI (grown_tr ar.out (grown_of _ o.out)))⟩
   subst her; obtain ⟨E, F, G, H⟩ := Q7.out.all2; obtain ⟨p0, _, Y, _⟩ := P7.out.all2
   go_wp2_with fail
   refine (make_q z n w7 (by omega) (by omega) (by omega) (by omega)).mono ?_
   rw [bf.out]; rintro e w8 ⟨rfl, o⟩; have Z := Q7.out.b9 o; clear E F G H p0 Y; obtain ⟨E, F, G, H⟩ := Z.out.all2
   go_upto_region 6 with (fail)
   rw [pst2 Z.out]; have I := hI ((ap.out.belowW o.out).far R bb 26 #[.int .i64 x, .int .i64 y]); have Q9 := hI (Z.out.put #[.int .i64 x, .int .i64 y]); have F9 := hI ((((((F1.out.grown O.out N.out).belowW Q.out).grown r.out N.out).belowW D.out).belowW o.out).far (t' := 26) a9 #[.int .i64 x, .int .i64 y]); have aa := hI (grown_new (grown_tr ar.out (grown_of (some g) o.out)) ba 26 #[.int .i64 x, .int .i64 y]); clear E F G H; obtain ⟨w9, aw⟩ := eX (putB w8 w2.heap.size 26 #[.int .i64 x, .int .i64 y]); rw [← aw] at I Q9 F9 aa ⊢; clear aw
   by_cases he9 : j = 0
   case neg =>
    have s := hI (show quotP ts k = failP ts (k1 + 1) j.toNat by rw [q.out, if_neg (by simp), if_pos he9]); have d2 : (j != 0) = true := (by rw [bne_iff_ne]; exact he9)
    go_wp2_with fail
    refine (I.out.fail j).mono ?_
    rintro e wa ⟨rfl, bn⟩
    go_wp2_with fail
    rw [s.out]
    exact ⟨rfl, rtp_fail W.2.2.2.2.1 (hI (grown_tr aa.out (grown_of _ bn.out)))⟩
   subst he9; have s := hI (show quotP ts k = .ok (x, y) (k1 + 2) by rw [q.out, if_neg (by simp), if_neg (by simp)]); have e1 : IntKind.i64.wrap ((k1 : Int) + 1 + 1) = (k1 : Int) + 1 + 1 := (by rw [IntKind.wrap_i64]; omega); have J := hI (show Blk w9 g 140 #[.slice A len cap, .int .i64 ((k1 : Int) + 1), .int .i64 (m : Nat)] from I.out.p); have Y : w9.cell? ⟨g, 1, none⟩ = some (.int .i64 ((k1 : Int) + 1)) := J.out.cell 1; have f1 : w9.frozen? ⟨g, 1, none⟩ = false := J.out.frozen 1
   go_upto_region 9 with (fail)
   rw [J.out.setCell_eq]; have ay := hI (I.out.put (k1 + 2) m (by omega)); have Qa := hI (Q9.out.far (t' := 140) R #[.slice A len cap, .int .i64 ((k1 + 2 : Nat) : Int), .int .i64 (m : Nat)]); have L := hI (F9.out.far (t' := 140) af #[.slice A len cap, .int .i64 ((k1 + 2 : Nat) : Int), .int .i64 (m : Nat)]); have a0 := hI (grown_tr aa.out (putB_grown w9 g 140 #[.slice A len cap, .int .i64 ((k1 + 2 : Nat) : Int), .int .i64 (m : Nat)])); clear Y f1; obtain ⟨wa, ab⟩ := eX (putB w9 g 140 #[.slice A len cap, .int .i64 ((k1 + 2 : Nat) : Int), .int .i64 (m : Nat)]); have a1 : putB w9 g 140 ((#[.slice A len cap, .int .i64 ((k1 : Int) + 1), .int .i64 (m : Nat)] : Array Value).setIfInBounds 1 (.int .i64 ((k1 : Int) + 1 + 1))) = wa := (by rw [ab]; rfl); rw [← ab] at ay Qa L a0; rw [a1]; clear ab a1 J; obtain ⟨E, F, G, H⟩ := Qa.out.all2; obtain ⟨r0, h0, r1, h1⟩ := L.out.all2
   go_wp2_with fail
   rw [pst2 L.out]; obtain ⟨z0, _, z1, _⟩ := (L.out.put #[.int .i64 x, .int .i64 y]).all2
   refine bodyPost_ret (v := .agg #[.int .i64 x, .int .i64 y]) (by simp [results, Tryz.results140, go_sem, z0, z1]) rfl ?_
   rw [s.out]
   exact ⟨rfl, hI (grown_new a0.out (Nat.le_refl _) _ _), hI (ay.out.far af a3 _ _)⟩
end Go.Proofs.YtkjoohnndobjeaaGreatDoor
