/-
  strings.Builder's methods, and the walk of the texts of declarations.
  The walk of the test whether a problem is great.
  The walk of the text of an edge.
  The walk of format.Problem.
-/
import Derived.Test.YtkjoohnndobjeaaGreatDoorQV
import Derived.Test.YtkjoohnndobjeaaGreatDoorNumShelf2
import Derived.Shelf.Strings.BuilderK
import Derived.Test.YtkjoohnndobjeaaGreatDoorQH
import Derived.Test.YtkjoohnndobjeaaGreatDoorQX
set_option linter.unusedVariables false
set_option maxHeartbeats 16000000
set_option maxRecDepth 100000
namespace Go.Proofs.YtkjoohnndobjeaaGreatDoor
open Go.RowKit Go.Fl Go.Fl.Nm Go.Fl.Dy Go.Fl.Rt Go.Fl.Fm
/-- A builder in block b that holds the bytes l; what it owns lies from B on. -/
def Bd (B b : Nat) (l : List UInt8) (w : World) : Prop := Lib.IsBuilderF 87 5 B b (Lib.byteCells l) w
/-- What a write leaves as it was. -/
structure Kept (B b : Nat) (w w' : World) : Prop where
  below : Below B w w'
  others : Lib.OthersKept 5 (some b) w w'
theorem Kept.refl (B b : Nat) (w : World) : Kept B b w w := ⟨Below.refl _ _, Lib.OthersKept.refl _ _ _⟩
theorem Kept.trans {B b : Nat} {a c d : World} (h : Kept B b a c) (k : Kept B b c d) : Kept B b a d := ⟨h.below.trans k.below, h.others.trans k.others⟩
theorem Kept.of {B b : Nat} {w w' : World} (h : Below w.heap.size w w') (hB : B ≤ w.heap.size) : Kept B b w w' :=
 ⟨h.mono hB, fun k o hk _ _ => (h.block k (Array.getElem?_eq_some_iff.1 hk).1).trans hk⟩
theorem Kept.size {B b : Nat} {w w' : World} (h : Kept B b w w') : w.heap.size ≤ w'.heap.size := h.below.size
theorem Blk.kept {B b g : Nat} {t : TypeId} {cs : Array Value} {w w' : World} (h : Blk w g t cs) (k : Kept B b w w') (hg : g ≠ b) (ht : t ≠ 5) : Blk w' g t cs :=
 k.others g _ h (fun e => hg (Option.some.inj e)) (fun c fz e => ht (by injection e))
theorem BdAt.belowW {B b : Nat} {p : Value} {bs : List Value} {w w' : World} (h : Lib.BuilderAtF 87 5 B b p bs w) (hb : Below w.heap.size w w') : Lib.BuilderAtF 87 5 B b p bs w' := by
 obtain ⟨hB, v, hk, hown, hne⟩ := h
 refine ⟨hB, v, (hb.block b (Array.getElem?_eq_some_iff.1 hk).1).trans hk, hown.kept (row := none) ⟨hb.os, hb.tape, hb.output, hb.size, fun k hk _ => hb.block k hk⟩ ?_, hne⟩
 cases v.ownBlock with
 | none => exact .inl rfl
 | some k => exact .inr (by simp)
theorem BdAt.b9 {B b : Nat} {p : Value} {bs : List Value} {w w' : World} (h : Lib.BuilderAtF 87 5 B b p bs w) (hb : Go.RowKit.Hid (Go.RowKit.Below w.heap.size w w')) : Go.RowKit.Hid (Lib.BuilderAtF 87 5 B b p bs w') := hI (BdAt.belowW h hb.out)
theorem Bd.belowW {B b : Nat} {l : List UInt8} {w w' : World} (h : Bd B b l w) (hb : Below w.heap.size w w') : Bd B b l w' := by
 rcases h with h | h
 ·
  exact .inl (BdAt.belowW h hb)
 exact .inr (BdAt.belowW h hb)
theorem Bd.b9 {B b : Nat} {l : List UInt8} {w w' : World} (h : Bd B b l w) (hb : Go.RowKit.Hid (Go.RowKit.Below w.heap.size w w')) : Go.RowKit.Hid (Bd B b l w') := hI (Bd.belowW h hb.out)
theorem Bd.fresh (w : World) : Bd w.heap.size w.heap.size [] (w.alloc (.cells #[.pointer none, .slice none 0 0] 87)) := Lib.IsBuilderF.of (Lib.fresh_isBuilder _ _ w)
theorem ws_any (B b : Nat) (l : List UInt8) (T : ByteArray) (w : World) (hb : Bd B b l w) (hl : l.length + T.size ≤ 140737488355328) (hB : B ≤ w.heap.size) :
    Calls Tryz.prog 36 #[.pointer (some ⟨b, 0, none⟩), .string T] w fun e w' => e = .returned (.tuple #[.int .i64 T.size, .nilIface]) ∧ Hid (Bd B b (l ++ T.data.toList) w') ∧ Hid (Kept B b w w') :=
  (Any.Builder_WriteString_k { Tryz.lays156 with } Tryz.Builder_Extra_156 B b (Lib.byteCells l) T w hb (by rw [Lib.byteCells_length]; exact hl) hB).mono (by
    rintro e w' ⟨rfl, h1, h2, h3⟩
    refine ⟨rfl, ?_, hI ⟨h2, h3⟩⟩
    unfold Hid Bd
    rw [Lib.byteCells_append]
    exact .inr h1)
theorem bstr_any (B b : Nat) (l : List UInt8) (w : World) (hb : Bd B b l w) (hB : B ≤ w.heap.size) :
    Calls Tryz.prog 38 #[.pointer (some ⟨b, 0, none⟩)] w fun e w' => e = .returned (.string ⟨l.toArray⟩) ∧ Hid (Kept B b w w') :=
  (Any.Builder_String_any_k { Tryz.lays156 with } Tryz.Builder_Extra_156 B b l w hb hB).mono (by
    rintro e w' ⟨rfl, h1, h2, h3⟩
    exact ⟨rfl, hI ⟨h2, h3⟩⟩)
theorem blen_any (B b : Nat) (l : List UInt8) (w : World) (hb : Bd B b l w) :
 Calls Tryz.prog 37 #[.pointer (some ⟨b, 0, none⟩)] w fun e w' => e = .returned (.int .i64 (l.length : Nat)) ∧ w' = w := by
 obtain ⟨p, hB, v, hbk, hown, hne⟩ : ∃ p, Lib.BuilderAtF 87 5 B b p (Lib.byteCells l) w := by
  rcases hb with h | h
  ·
   exact ⟨_, h⟩
  exact ⟨_, h⟩
 rw [Lib.byteCells_length] at hown
 obtain ⟨ao, cap, rfl⟩ : ∃ ao cap, v = .slice ao l.length cap := by
  rcases hown.2 with ⟨hv, h0⟩ | ⟨g, cap, cur, fz, hv, _⟩
  ·
   exact ⟨none, 0, by rw [hv, h0]⟩
  exact ⟨_, _, hv⟩
 have c1 : w.cell? ⟨b, 1, none⟩ = some (.slice ao l.length cap) := by rw [Lib.cell_of_heap hbk]; rfl
 clear hbk hown hne
 go_enter Tryz.func37, Tryz.ntmps37
 go_wp2_with fail
 go_ret
 exact ⟨rfl, rfl⟩
theorem take_le {α : Type} (l : List α) (j : Nat) : (l.take j).length ≤ l.length := by rw [List.length_take]; exact Nat.min_le_right _ _
end Go.Proofs.YtkjoohnndobjeaaGreatDoor
namespace Go.Proofs.YtkjoohnndobjeaaGreatDoor
open Go.RowKit Go.Fl Go.Fl.Nm Go.Fl.Dy Go.Fl.Rt Go.Fl.Fm
end Go.Proofs.YtkjoohnndobjeaaGreatDoor
namespace Go.Proofs.YtkjoohnndobjeaaGreatDoor
open Go.RowKit Go.Fl Go.Fl.Nm Go.Fl.Dy Go.Fl.Rt Go.Fl.Fm
open List (setIfInBounds_toArray set_cons_zero set_cons_succ getElem_toArray getElem_cons_zero getElem_cons_succ)
theorem expr20 (T : TE) (v : Nd) (w : World) (hin : InE w T v) (hok : okE T = true) (hT : RB w) : Calls Tryz.prog 55 #[v.val] w (StrP (txt 20 T) w) :=
 expr_at 20 T v w hin (txt20 hok).1 (by have := (txt20 hok).2; omega) hT
def EdRel (w : World) (hd : List UInt8) (rs : List EqN) (len : Nat) (k : Nat) (sv iv : Value) (wr : World) : Prop :=
  ∃ (j : Nat) (S : ByteArray), sv = .string S ∧ iv = .int .i64 j ∧ j ≤ len ∧ k = len - j ∧ S.size ≤ 20000 + 10029 * j ∧ Hid (S.data.toList = hd ++ resT (rs.take j)) ∧ Hid (Below w.heap.size w wr)

theorem fedge_p (x0 : EdN) (w : World) (hx : InG w x0) (hok : x0.ok = true) (hT : RB w) : Calls Tryz.prog 84 #[x0.val] w (StrP x0.txt w) := by
 obtain ⟨p, H, R, D, Y, g, Z, i⟩ := x0
 have HT := hI hT
 have bw := hI hx.e
 have U := EdN.ok_iff.1 hok
 have bi : D.size ≤ 20 := name_len U.2.2.1
 have h4 : g ≤ 4 := U.2.2.2.1
 have bj := hI (show i.all EqN.ok = true from U.2.2.2.2)
 have bk := hI (show InL 7 EqN.cells InQ w Y g Z i from hx.hr)
 have ar := hI (show i.length = g from hx.hr.hl)
 have z0 := (txt20 U.1).2
 have HE := hI (show EdN.txt ⟨p, H, R, D, Y, g, Z, i⟩ = [9, 119, 104, 101, 110, 32] ++ (txt 20 H ++ ((if R = 2 then [32, 102, 97, 108, 108, 115, 32, 103, 111, 116, 111, 32] else [32, 114, 105, 115, 101, 115, 32, 103, 111, 116, 111, 32]) ++ (D.data.toList ++ (resT i ++ [59, 10])))) from rfl)
 obtain ⟨TX, au⟩ := eX (txt 20 H)
 have KX := hI (fun (c : World) (hb : Below w.heap.size w c) => show Calls Tryz.prog 55 #[p.val] c (StrP TX c) from by rw [au]; exact expr20 H p c (bw.out.go hb) (show okE H = true from U.1) (HT.out.belowW hb))
 rw [← au] at HE
 have bo : TX.length ≤ 10000 := by rw [au]; exact z0
 clear hx hok hT U z0 au
 obtain ⟨dd, av⟩ : ∃ n, (R == 2) = n := ⟨_, rfl⟩
 simp only [EdN.val]
 go_enter Tryz.func84, Tryz.ntmps84
 go_upto_region 1 with (fail)
 obtain ⟨c, bp, bq, F1⟩ := aX w 81 #[.int .i64 p.h.kind, .int .i64 p.h.n, .int .i64 p.h.d, .string p.h.name, .int .i64 p.h.k, .slice p.A p.len p.cap, .int .i64 R, .string D, .slice Y g Z]
 rw [← bp]
 clear bp
 obtain ⟨aw, ax, ay, az, a0, a1, a2, a3, a4⟩ := F1.out.cs9
 go_wp2_with fail
 refine (KX.out c bq.out).mono ?_
 rintro e w2 ⟨S, rfl, HS, a5⟩
 have hS : S.size ≤ 10000 := by rw [strp_size HS.out]; exact bo
 have V := bq.out.t a5
 have F2 := F1.out.b9 a5
 clear aw ax ay az a0 a1 a2 a3 a4
 obtain ⟨aw, ax, ay, az, a0, a1, a2, a3, a4⟩ := F2.out.cs9
 have G : ¬ 9223372036854775807 < 6 + S.size := by omega
 have W : ¬ 9223372036854775807 < 6 + S.size + 12 := by omega
 cases dd with
 | false =>
  have I : ¬ 9223372036854775807 < 6 + S.size + 12 + D.size := by omega
  go_wp2_with fail
  obtain ⟨E, F⟩ : ∃ s : ByteArray, s = ⟨#[9, 119, 104, 101, 110, 32]⟩ ++ S ++ ⟨#[32, 114, 105, 115, 101, 115, 32, 103, 111, 116, 111, 32]⟩ ++ D := ⟨_, rfl⟩
  have HD := hI (show EdN.txt ⟨p, H, R, D, Y, g, Z, i⟩ = E.data.toList ++ (resT i ++ [59, 10]) by
   rw [HE.out, if_neg (by simpa using av), F]
   simp only [data_app, HS.out, List.append_assoc])
  have bz : E.size ≤ 20000 := by
   rw [F]; simp only [ByteArray.size_append]; rw [show (⟨#[9, 119, 104, 101, 110, 32]⟩ : ByteArray).size = 6 from rfl, show (⟨#[32, 114, 105, 115, 101, 115, 32, 103, 111, 116, 111, 32]⟩ : ByteArray).size = 12 from rfl]
   omega
  rw [← F]; clear F I av; clear bi G W; clear a5; obtain ⟨hd, J⟩ := eX (E.data.toList); have HH := hI J.symm; rw [← J] at HD; clear J
  go_loopg [3, 26] g (fun k sv iv wr => EdRel w2 hd i g k sv iv wr)
  case atStart => exact ⟨0, E, rfl, rfl, by omega, by omega, by omega, by unfold Hid; rw [HH.out]; simp [resT], Below.refl _ _⟩
  obtain ⟨j, q, rfl, rfl, hj, rfl, b1, L, u⟩ := hrel; have TR := hI (HT.out.belowW (V.out.trans (u.out.mono V.out.size)))
  by_cases hlt : j < g
  ·
   obtain ⟨bb, o, x, hA, M, ad, h7⟩ := InQ.len (InQ.list (InQ.list bk.out V.out) u.out) j hlt; subst hA; obtain ⟨b3, x0, x1, x2, x3, x4, x5, x6⟩ := EqN.cells_at h7; have al := hI ad; have hok := EqN.ok_iff.1 (ok_of_all bj.out M); have HV := hI hok.2; have b4 : x.s.size ≤ 20 := name_len hok.1; have N := (txt20 hok.2).2; have am := hI (take_snocA i j x M)
   obtain ⟨O, r⟩ : ∃ t, txt 20 x.T = t := ⟨_, rfl⟩
   have an := hI (fun (c : World) (h1 : InE c x.T x.v) (h2 : RB c) => show Calls Tryz.prog 55 #[x.v.val] c (StrP O c) from by rw [← r]; exact expr20 x.T x.v c h1 HV.out h2); rw [r] at N; have d5 : decide ((j : Int) < (g : Int)) = true := decide_eq_true (by omega); clear M ad h7 hok
   by_cases h0 : j = 0
   ·
    skip
    have d6 : ((j : Int) == 0) = true := (by rw [h0]; rfl); have HN := hI (show i.take j = [] by rw [h0]; rfl); have P := hI (show resT (i.take (j + 1)) = [32, 119, 105, 116, 104, 32] ++ (x.s.data.toList ++ ([32, 61, 32] ++ O)) by rw [am.out, HN.out]; simp [resT, EqN.rt, r]); clear h0; clear r; have G : ¬ 9223372036854775807 < q.size + 6 := (by omega); have W : ¬ 9223372036854775807 < x.s.size + 3 := (by omega)
    go_wp2_with fail
    obtain ⟨c, y, m, Q⟩ := aX wr 82 #[.string x.s, .int .i64 x.v.h.kind, .int .i64 x.v.h.n, .int .i64 x.v.h.d, .string x.v.h.name, .int .i64 x.v.h.k, .slice x.v.A x.v.len x.v.cap]; rw [← y]; clear y; have z := u.out.t m; clear x0 x1 x2 x3 x4 x5 x6; have l := hI (below_dr c); have a := Q.out.b9 l
    refine wp_region_held_drew (S := fun w' => w'.cell? ⟨wr.heap.size, 0, none⟩ = some (.string x.s) ∧ w'.cell? ⟨wr.heap.size, 1, none⟩ = some (.int .i64 x.v.h.kind) ∧ w'.cell? ⟨wr.heap.size, 2, none⟩ = some (.int .i64 x.v.h.n) ∧ w'.cell? ⟨wr.heap.size, 3, none⟩ = some (.int .i64 x.v.h.d) ∧ w'.cell? ⟨wr.heap.size, 4, none⟩ = some (.string x.v.h.name) ∧ w'.cell? ⟨wr.heap.size, 5, none⟩ = some (.int .i64 x.v.h.k) ∧ w'.cell? ⟨wr.heap.size, 6, none⟩ = some (.slice x.v.A x.v.len x.v.cap)) (by kernel_rfl) ?_ (fun hHeld => ?_)
    case refine_1 => exact ⟨a.out.cell 0, a.out.cell 1, a.out.cell 2, a.out.cell 3, a.out.cell 4, a.out.cell 5, a.out.cell 6⟩
    refine tkW 0 ?_
    refine tkW 1 ?_
    refine tkW 2 ?_
    refine tkW 3 ?_
    refine tkW 4 ?_
    refine tkW 5 ?_
    refine wpAnyH_ready (rs := [6]) (by kernel_rfl) (by simp) ?_
    refine AllReadyH.cons rfl (fun K hK => ?_) AllReadyH.nil
    go_simp
    (with_reducible refine (an.out _ ((al.out.belowW m.out).belowW l.out).e ((TR.out.belowW m.out).belowW l.out)).mono ?_)
    rintro e w3 ⟨X, rfl, B, C⟩; have b := a.out.b9 C; have hX : X.size ≤ 10000 := (by rw [strp_size B.out]; exact N); have I : ¬ 9223372036854775807 < x.s.size + 3 + X.size := (by omega); have s4 : ¬ 9223372036854775807 < q.size + 6 + (x.s.size + 3 + X.size) := (by omega)
    go_wp2_with fail
    clear hHeld
    refine hK.out _ _ ?_ (fun hHeld => ?_)
    case refine_1 => exact ⟨b.out.cell 0, b.out.cell 1, b.out.cell 2, b.out.cell 3, b.out.cell 4, b.out.cell 5, b.out.cell 6⟩
    clear hK K
    try simp only [setIfInBounds_toArray, set_cons_zero, set_cons_succ]
    refine tkW 7 ?_
    refine tkW 8 ?_
    refine tkW 9 ?_
    refine wpAnyH_done (by kernel_rfl) ?_ _
    go_wp2_with fail
    go_roundg (g - (j + 1))
    case measure => omega
    refine ⟨j + 1, _, rfl, by go_num, by omega, rfl, ?_, ?_, (hI (z.out.trans ((l.out.trans (C.out.mono l.out.size)).mono z.out.size)))⟩
    ·
     simp only [ByteArray.size_append]; rw [show (⟨#[32, 119, 105, 116, 104, 32]⟩ : ByteArray).size = 6 from rfl, show (⟨#[32, 61, 32]⟩ : ByteArray).size = 3 from rfl]
     omega
    unfold Hid
    rw [P.out]; simp only [data_app, L.out, B.out, List.append_assoc, HN.out, resT, List.nil_append]
   skip
   have d6 : ((j : Int) == 0) = false := by simpa using h0
   have P := hI (show resT (i.take (j + 1)) = resT (i.take j) ++ ([44, 32] ++ (x.s.data.toList ++ ([32, 61, 32] ++ O))) by
    rw [am.out, resT_snoc _ _ (by
     intro h
     have := congrArg List.length h
     rw [List.length_take, ar.out, List.length_nil] at this
     omega)]
    simp [EqN.rt, r])
   clear r; have G : ¬ 9223372036854775807 < q.size + 2 := (by omega); have W : ¬ 9223372036854775807 < x.s.size + 3 := (by omega)
   go_wp2_with fail
   obtain ⟨c, y, m, Q⟩ := aX wr 82 #[.string x.s, .int .i64 x.v.h.kind, .int .i64 x.v.h.n, .int .i64 x.v.h.d, .string x.v.h.name, .int .i64 x.v.h.k, .slice x.v.A x.v.len x.v.cap]; rw [← y]; clear y; have z := u.out.t m; clear x0 x1 x2 x3 x4 x5 x6; have l := hI (below_dr c); have a := Q.out.b9 l
   refine wp_region_held_drew (S := fun w' => w'.cell? ⟨wr.heap.size, 0, none⟩ = some (.string x.s) ∧ w'.cell? ⟨wr.heap.size, 1, none⟩ = some (.int .i64 x.v.h.kind) ∧ w'.cell? ⟨wr.heap.size, 2, none⟩ = some (.int .i64 x.v.h.n) ∧ w'.cell? ⟨wr.heap.size, 3, none⟩ = some (.int .i64 x.v.h.d) ∧ w'.cell? ⟨wr.heap.size, 4, none⟩ = some (.string x.v.h.name) ∧ w'.cell? ⟨wr.heap.size, 5, none⟩ = some (.int .i64 x.v.h.k) ∧ w'.cell? ⟨wr.heap.size, 6, none⟩ = some (.slice x.v.A x.v.len x.v.cap)) (by kernel_rfl) ?_ (fun hHeld => ?_)
   case refine_1 => exact ⟨a.out.cell 0, a.out.cell 1, a.out.cell 2, a.out.cell 3, a.out.cell 4, a.out.cell 5, a.out.cell 6⟩
   refine tkW 0 ?_
   refine tkW 1 ?_
   refine tkW 2 ?_
   refine tkW 3 ?_
   refine tkW 4 ?_
   refine tkW 5 ?_
   refine wpAnyH_ready (rs := [6]) (by kernel_rfl) (by simp) ?_
   refine AllReadyH.cons rfl (fun K hK => ?_) AllReadyH.nil
   go_simp
   (with_reducible refine (an.out _ ((al.out.belowW m.out).belowW l.out).e ((TR.out.belowW m.out).belowW l.out)).mono ?_)
   rintro e w3 ⟨X, rfl, B, C⟩; have b := a.out.b9 C; have hX : X.size ≤ 10000 := (by rw [strp_size B.out]; exact N); have I : ¬ 9223372036854775807 < x.s.size + 3 + X.size := (by omega); have s4 : ¬ 9223372036854775807 < q.size + 2 + (x.s.size + 3 + X.size) := (by omega)
   go_wp2_with fail
   clear hHeld
   refine hK.out _ _ ?_ (fun hHeld => ?_)
   case refine_1 => exact ⟨b.out.cell 0, b.out.cell 1, b.out.cell 2, b.out.cell 3, b.out.cell 4, b.out.cell 5, b.out.cell 6⟩
   clear hK K
   try simp only [setIfInBounds_toArray, set_cons_zero, set_cons_succ]
   refine tkW 7 ?_
   refine tkW 8 ?_
   refine tkW 9 ?_
   refine wpAnyH_done (by kernel_rfl) ?_ _
   go_wp2_with fail
   go_roundg (g - (j + 1))
   case measure => omega
   refine ⟨j + 1, _, rfl, by go_num, by omega, rfl, ?_, ?_, (hI (z.out.trans ((l.out.trans (C.out.mono l.out.size)).mono z.out.size)))⟩
   ·
    simp only [ByteArray.size_append]; rw [show (⟨#[44, 32]⟩ : ByteArray).size = 2 from rfl, show (⟨#[32, 61, 32]⟩ : ByteArray).size = 3 from rfl]
    omega
   unfold Hid
   rw [P.out]; simp only [data_app, L.out, B.out, List.append_assoc]
  have bg : j = g := (by omega); have HF := hI (show q.data.toList = hd ++ resT i by have := L.out; rwa [bg, ← ar.out, List.take_length] at this); have d5 : decide ((j : Int) < (g : Int)) = false := decide_eq_false (by omega); have G : ¬ 9223372036854775807 < q.size + 2 := (by omega)
  go_wp2_with fail
  go_ret
  exact ⟨_, rfl, hI (by rw [data_app, HF.out, HD.out, List.append_assoc]), V.out.t u⟩
 | true =>
  go_wp2_with fail
  refine (KX.out w2 V.out).mono ?_
  rintro e w3 ⟨S9, rfl, bu, bv⟩; have b8 : S9.size ≤ 10000 := (by rw [strp_size bu.out]; exact bo); have a6 := V.out.t bv; clear aw ax ay az a0 a1 a2 a3 a4; obtain ⟨aw, ax, ay, az, a0, a1, a2, a3, a4⟩ := (F2.out.belowW bv.out).cs9; have s4 : ¬ 9223372036854775807 < 6 + S9.size := (by omega); have s5 : ¬ 9223372036854775807 < 6 + S9.size + 12 := (by omega); have I : ¬ 9223372036854775807 < 6 + S9.size + 12 + D.size := (by omega)
  go_wp2_with fail
  obtain ⟨E, F⟩ : ∃ s : ByteArray, s = ⟨#[9, 119, 104, 101, 110, 32]⟩ ++ S9 ++ ⟨#[32, 102, 97, 108, 108, 115, 32, 103, 111, 116, 111, 32]⟩ ++ D := ⟨_, rfl⟩
  have HD := hI (show EdN.txt ⟨p, H, R, D, Y, g, Z, i⟩ = E.data.toList ++ (resT i ++ [59, 10]) by
   rw [HE.out, if_pos (by simpa using av), F]
   simp only [data_app, bu.out, List.append_assoc])
  have bz : E.size ≤ 20000 := by
   rw [F]; simp only [ByteArray.size_append]; rw [show (⟨#[9, 119, 104, 101, 110, 32]⟩ : ByteArray).size = 6 from rfl, show (⟨#[32, 102, 97, 108, 108, 115, 32, 103, 111, 116, 111, 32]⟩ : ByteArray).size = 12 from rfl]
   omega
  rw [← F]; clear F I s4 s5 av; clear bi G W; clear a5; obtain ⟨hd, J⟩ := eX (E.data.toList); have HH := hI J.symm; rw [← J] at HD; clear J
  go_loopg [3, 26] g (fun k sv iv wr => EdRel w3 hd i g k sv iv wr)
  case atStart => exact ⟨0, E, rfl, rfl, by omega, by omega, by omega, by unfold Hid; rw [HH.out]; simp [resT], Below.refl _ _⟩
  obtain ⟨j, q, rfl, rfl, hj, rfl, b1, L, u⟩ := hrel; have TR := hI (HT.out.belowW (a6.out.trans (u.out.mono a6.out.size)))
  by_cases hlt : j < g
  ·
   obtain ⟨bb, o, x, hA, M, ad, h7⟩ := InQ.len (InQ.list (InQ.list bk.out a6.out) u.out) j hlt; subst hA; obtain ⟨b3, x0, x1, x2, x3, x4, x5, x6⟩ := EqN.cells_at h7; have al := hI ad; have hok := EqN.ok_iff.1 (ok_of_all bj.out M); have HV := hI hok.2; have b4 : x.s.size ≤ 20 := name_len hok.1; have N := (txt20 hok.2).2; have am := hI (take_snocA i j x M)
   obtain ⟨O, r⟩ : ∃ t, txt 20 x.T = t := ⟨_, rfl⟩
   have an := hI (fun (c : World) (h1 : InE c x.T x.v) (h2 : RB c) => show Calls Tryz.prog 55 #[x.v.val] c (StrP O c) from by rw [← r]; exact expr20 x.T x.v c h1 HV.out h2); rw [r] at N; have d5 : decide ((j : Int) < (g : Int)) = true := decide_eq_true (by omega); clear M ad h7 hok
   by_cases h0 : j = 0
   ·
    skip
    have d6 : ((j : Int) == 0) = true := (by rw [h0]; rfl); have HN := hI (show i.take j = [] by rw [h0]; rfl); have P := hI (show resT (i.take (j + 1)) = [32, 119, 105, 116, 104, 32] ++ (x.s.data.toList ++ ([32, 61, 32] ++ O)) by rw [am.out, HN.out]; simp [resT, EqN.rt, r]); clear h0; clear r; have G : ¬ 9223372036854775807 < q.size + 6 := (by omega); have W : ¬ 9223372036854775807 < x.s.size + 3 := (by omega)
    go_wp2_with fail
    obtain ⟨c, y, m, Q⟩ := aX wr 82 #[.string x.s, .int .i64 x.v.h.kind, .int .i64 x.v.h.n, .int .i64 x.v.h.d, .string x.v.h.name, .int .i64 x.v.h.k, .slice x.v.A x.v.len x.v.cap]; rw [← y]; clear y; have z := u.out.t m; clear x0 x1 x2 x3 x4 x5 x6; have l := hI (below_dr c); have a := Q.out.b9 l
    refine wp_region_held_drew (S := fun w' => w'.cell? ⟨wr.heap.size, 0, none⟩ = some (.string x.s) ∧ w'.cell? ⟨wr.heap.size, 1, none⟩ = some (.int .i64 x.v.h.kind) ∧ w'.cell? ⟨wr.heap.size, 2, none⟩ = some (.int .i64 x.v.h.n) ∧ w'.cell? ⟨wr.heap.size, 3, none⟩ = some (.int .i64 x.v.h.d) ∧ w'.cell? ⟨wr.heap.size, 4, none⟩ = some (.string x.v.h.name) ∧ w'.cell? ⟨wr.heap.size, 5, none⟩ = some (.int .i64 x.v.h.k) ∧ w'.cell? ⟨wr.heap.size, 6, none⟩ = some (.slice x.v.A x.v.len x.v.cap)) (by kernel_rfl) ?_ (fun hHeld => ?_)
    case refine_1 => exact ⟨a.out.cell 0, a.out.cell 1, a.out.cell 2, a.out.cell 3, a.out.cell 4, a.out.cell 5, a.out.cell 6⟩
    refine tkW 0 ?_
    refine tkW 1 ?_
    refine tkW 2 ?_
    refine tkW 3 ?_
    refine tkW 4 ?_
    refine tkW 5 ?_
    refine wpAnyH_ready (rs := [6]) (by kernel_rfl) (by simp) ?_
    refine AllReadyH.cons rfl (fun K hK => ?_) AllReadyH.nil
    go_simp
    (with_reducible refine (an.out _ ((al.out.belowW m.out).belowW l.out).e ((TR.out.belowW m.out).belowW l.out)).mono ?_)
    rintro e w3 ⟨X, rfl, B, C⟩; have b := a.out.b9 C; have hX : X.size ≤ 10000 := (by rw [strp_size B.out]; exact N); have I : ¬ 9223372036854775807 < x.s.size + 3 + X.size := (by omega); have s4 : ¬ 9223372036854775807 < q.size + 6 + (x.s.size + 3 + X.size) := (by omega)
    go_wp2_with fail
    clear hHeld
    refine hK.out _ _ ?_ (fun hHeld => ?_)
    case refine_1 => exact ⟨b.out.cell 0, b.out.cell 1, b.out.cell 2, b.out.cell 3, b.out.cell 4, b.out.cell 5, b.out.cell 6⟩
    clear hK K
    try simp only [setIfInBounds_toArray, set_cons_zero, set_cons_succ]
    refine tkW 7 ?_
    refine tkW 8 ?_
    refine tkW 9 ?_
    refine wpAnyH_done (by kernel_rfl) ?_ _
    go_wp2_with fail
    go_roundg (g - (j + 1))
    case measure => omega
    refine ⟨j + 1, _, rfl, by go_num, by omega, rfl, ?_, ?_, (hI (z.out.trans ((l.out.trans (C.out.mono l.out.size)).mono z.out.size)))⟩
    ·
     simp only [ByteArray.size_append]; rw [show (⟨#[32, 119, 105, 116, 104, 32]⟩ : ByteArray).size = 6 from rfl, show (⟨#[32, 61, 32]⟩ : ByteArray).size = 3 from rfl]
     omega
    unfold Hid
    rw [P.out]; simp only [data_app, L.out, B.out, List.append_assoc, HN.out, resT, List.nil_append]
   skip
   have d6 : ((j : Int) == 0) = false := by simpa using h0
   have P := hI (show resT (i.take (j + 1)) = resT (i.take j) ++ ([44, 32] ++ (x.s.data.toList ++ ([32, 61, 32] ++ O))) by
    rw [am.out, resT_snoc _ _ (by
     intro h
     have := congrArg List.length h
     rw [List.length_take, ar.out, List.length_nil] at this
     omega)]
    simp [EqN.rt, r])
   clear r; have G : ¬ 9223372036854775807 < q.size + 2 := (by omega); have W : ¬ 9223372036854775807 < x.s.size + 3 := (by omega)
   go_wp2_with fail
   obtain ⟨c, y, m, Q⟩ := aX wr 82 #[.string x.s, .int .i64 x.v.h.kind, .int .i64 x.v.h.n, .int .i64 x.v.h.d, .string x.v.h.name, .int .i64 x.v.h.k, .slice x.v.A x.v.len x.v.cap]; rw [← y]; clear y; have z := u.out.t m; clear x0 x1 x2 x3 x4 x5 x6; have l := hI (below_dr c); have a := Q.out.b9 l
   refine wp_region_held_drew (S := fun w' => w'.cell? ⟨wr.heap.size, 0, none⟩ = some (.string x.s) ∧ w'.cell? ⟨wr.heap.size, 1, none⟩ = some (.int .i64 x.v.h.kind) ∧ w'.cell? ⟨wr.heap.size, 2, none⟩ = some (.int .i64 x.v.h.n) ∧ w'.cell? ⟨wr.heap.size, 3, none⟩ = some (.int .i64 x.v.h.d) ∧ w'.cell? ⟨wr.heap.size, 4, none⟩ = some (.string x.v.h.name) ∧ w'.cell? ⟨wr.heap.size, 5, none⟩ = some (.int .i64 x.v.h.k) ∧ w'.cell? ⟨wr.heap.size, 6, none⟩ = some (.slice x.v.A x.v.len x.v.cap)) (by kernel_rfl) ?_ (fun hHeld => ?_)
   case refine_1 => exact ⟨a.out.cell 0, a.out.cell 1, a.out.cell 2, a.out.cell 3, a.out.cell 4, a.out.cell 5, a.out.cell 6⟩
   refine tkW 0 ?_
   refine tkW 1 ?_
   refine tkW 2 ?_
   refine tkW 3 ?_
   refine tkW 4 ?_
   refine tkW 5 ?_
   refine wpAnyH_ready (rs := [6]) (by kernel_rfl) (by simp) ?_
   refine AllReadyH.cons rfl (fun K hK => ?_) AllReadyH.nil
   go_simp
   (with_reducible refine (an.out _ ((al.out.belowW m.out).belowW l.out).e ((TR.out.belowW m.out).belowW l.out)).mono ?_)
   rintro e w3 ⟨X, rfl, B, C⟩; have b := a.out.b9 C; have hX : X.size ≤ 10000 := (by rw [strp_size B.out]; exact N); have I : ¬ 9223372036854775807 < x.s.size + 3 + X.size := (by omega); have s4 : ¬ 9223372036854775807 < q.size + 2 + (x.s.size + 3 + X.size) := (by omega)
   go_wp2_with fail
   clear hHeld
   refine hK.out _ _ ?_ (fun hHeld => ?_)
   case refine_1 => exact ⟨b.out.cell 0, b.out.cell 1, b.out.cell 2, b.out.cell 3, b.out.cell 4, b.out.cell 5, b.out.cell 6⟩
   clear hK K
   try simp only [setIfInBounds_toArray, set_cons_zero, set_cons_succ]
   refine tkW 7 ?_
   refine tkW 8 ?_
   refine tkW 9 ?_
   refine wpAnyH_done (by kernel_rfl) ?_ _
   go_wp2_with fail
   go_roundg (g - (j + 1))
   case measure => omega
   refine ⟨j + 1, _, rfl, by go_num, by omega, rfl, ?_, ?_, (hI (z.out.trans ((l.out.trans (C.out.mono l.out.size)).mono z.out.size)))⟩
   ·
    simp only [ByteArray.size_append]; rw [show (⟨#[44, 32]⟩ : ByteArray).size = 2 from rfl, show (⟨#[32, 61, 32]⟩ : ByteArray).size = 3 from rfl]
    omega
   unfold Hid
   rw [P.out]; simp only [data_app, L.out, B.out, List.append_assoc]
  have bg : j = g := (by omega); have HF := hI (show q.data.toList = hd ++ resT i by have := L.out; rwa [bg, ← ar.out, List.take_length] at this); have d5 : decide ((j : Int) < (g : Int)) = false := decide_eq_false (by omega); have G : ¬ 9223372036854775807 < q.size + 2 := (by omega)
  go_wp2_with fail
  go_ret
  exact ⟨_, rfl, hI (by rw [data_app, HF.out, HD.out, List.append_assoc]), a6.out.t u⟩
end Go.Proofs.YtkjoohnndobjeaaGreatDoor
namespace Go.Proofs.YtkjoohnndobjeaaGreatDoor
open Go.RowKit Go.Fl Go.Fl.Nm Go.Fl.Dy Go.Fl.Rt Go.Fl.Fm
open List (setIfInBounds_toArray set_cons_zero set_cons_succ getElem_toArray getElem_cons_zero getElem_cons_succ)
def Lw (a w : World) : Prop := Below a.heap.size a w
theorem Lw.belowW {a w w' : World} (h : Lw a w) (hb : Below w.heap.size w w') : Lw a w' := Below.trans h (hb.mono (Below.size h))
theorem Lw.b9 {a w w' : World} (h : Lw a w) (hb : Go.RowKit.Hid (Go.RowKit.Below w.heap.size w w')) : Go.RowKit.Hid (Lw a w') := hI (Lw.belowW h hb.out)
theorem Lw.go {a w w' : World} {b : Nat} (h : Lw a w) (hk : Kept a.heap.size b w w') : Lw a w' := Below.trans h hk.below
theorem Lw.under {a c w : World} (h : Below a.heap.size a c) (k : Lw c w) : Below a.heap.size a w := h.trans (Below.mono k h.size)
theorem Lw.size {a w : World} (h : Lw a w) : a.heap.size ≤ w.heap.size := Below.size h
theorem Bd.lt {B b : Nat} {l : List UInt8} {w : World} (h : Bd B b l w) : b < w.heap.size := by
 rcases h with h | h <;> exact h.lt
theorem fl_len {w : World} {A : Option Addr} {len cap : Nat} {zs : List MdN} (h : InL 3 MdN.cells InM w A len cap zs) (hok : zs.all MdN.ok = true) (j : Nat) (h8 : len ≤ 8) : ((zs.take j).flatMap MdN.txt).length ≤ 1926096 := by
 have h1 := flat_len MdN.txt (zs.take j) 240762 (fun y hy => MdN.txt_len (h.hi y (List.mem_of_mem_take hy)) (List.all_eq_true.1 hok y (List.mem_of_mem_take hy)))
 have h2 := take_le zs j
 have := h.hl
 omega
theorem ft_len {w : World} {A : Option Addr} {len cap : Nat} {zs : List EqN} (h : InL 7 EqN.cells InQ w A len cap zs) (hok : zs.all EqN.ok = true) (j : Nat) (h8 : len ≤ 4) : ((zs.take j).flatMap EqN.ft).length ≤ 40108 := by
 have h1 := flat_len EqN.ft (zs.take j) 10027 (fun y hy => EqN.ft_len (List.all_eq_true.1 hok y (List.mem_of_mem_take hy)))
 have h2 := take_le zs j
 have := h.hl
 omega
theorem et_len {w : World} {A : Option Addr} {len cap : Nat} {zs : List EdN} (h : InL 9 EdN.cells InG w A len cap zs) (hok : zs.all EdN.ok = true) (j : Nat) (h8 : len ≤ 4) : ((zs.take j).flatMap EdN.txt).length ≤ 200624 := by
 have h1 := flat_len EdN.txt (zs.take j) 50156 (fun y hy => EdN.txt_len (h.hi y (List.mem_of_mem_take hy)) (List.all_eq_true.1 hok y (List.mem_of_mem_take hy)))
 have h2 := take_le zs j
 have := h.hl
 omega
theorem sz1 (n : UInt8) : (⟨#[n]⟩ : ByteArray).size = 1 := rfl
theorem sz2 (n m : UInt8) : (⟨#[n, m]⟩ : ByteArray).size = 2 := rfl
theorem sz3 (n m a : UInt8) : (⟨#[n, m, a]⟩ : ByteArray).size = 3 := rfl
theorem sz4 (n m a b : UInt8) : (⟨#[n, m, a, b]⟩ : ByteArray).size = 4 := rfl
theorem sz5 (n m a b c : UInt8) : (⟨#[n, m, a, b, c]⟩ : ByteArray).size = 5 := rfl
/-- The text of a problem, cut as it is written. -/
def preT (st pa : List DcN) : List UInt8 := [] ++ st.flatMap (dclT (⟨#[115, 116, 97, 116, 101]⟩ : ByteArray).data.toList) ++ pa.flatMap (dclT (⟨#[112, 97, 114, 97, 109]⟩ : ByteArray).data.toList)
theorem PbN.txt_eq (x : PbN) : x.txt = preT x.st x.pa ++ x.ms.flatMap MdN.txt ++ ([116, 105, 109, 101, 32] ++ textR x.t x.u ++ [59, 10]) := by
 unfold PbN.txt preT
 rw [show stT = dclT (⟨#[115, 116, 97, 116, 101]⟩ : ByteArray).data.toList from rfl, show paT = dclT (⟨#[112, 97, 114, 97, 109]⟩ : ByteArray).data.toList from rfl]
 simp only [List.nil_append, List.append_assoc]
theorem pre1_len {st : List DcN} (h1 : st.all DcN.ok = true) (h3 : st.length ≤ 4) : ([] ++ st.flatMap (dclT (⟨#[115, 116, 97, 116, 101]⟩ : ByteArray).data.toList)).length ≤ 1000 := by
 have a1 := dcl_len (word := (⟨#[115, 116, 97, 116, 101]⟩ : ByteArray).data.toList) (by decide) st h1
 rw [List.length_append, List.length_nil]
 omega
theorem preT_len {st pa : List DcN} (h1 : st.all DcN.ok = true) (h2 : pa.all DcN.ok = true) (h3 : st.length ≤ 4) (h4 : pa.length ≤ 4) : (preT st pa).length ≤ 2000 := by
 have a1 := dcl_len (word := (⟨#[115, 116, 97, 116, 101]⟩ : ByteArray).data.toList) (by decide) st h1
 have a2 := dcl_len (word := (⟨#[112, 97, 114, 97, 109]⟩ : ByteArray).data.toList) (by decide) pa h2
 unfold preT
 rw [List.length_append, List.length_append, List.length_nil]
 omega

theorem fproblem_p (x0 : PbN) (w : World) (hx : InP w x0) (hT : RB w) : Calls Tryz.prog 42 #[x0.val] w (StrE x0.ans.1 x0.ans.2 w) := by
 have b4 : 74 ≠ 5 := by decide
 have dw : 78 ≠ 5 := by decide
 have B := hI hx
 have HT := hI hT
 obtain ⟨H, C, I, D, J, E, L, F, R, a, U, l, m, p⟩ := x0
 have dy := hI (show InL 5 DcN.cells InD w H C I D from hx.hs)
 have dz := hI (show InL 5 DcN.cells InD w J E L F from hx.hp)
 have bi := hI (show InL 3 MdN.cells InM w R a U l from hx.hm)
 have tL : -9223372036854775808 ≤ m := hx.t1
 have tH : m ≤ 9223372036854775807 := hx.t2
 have uL : -9223372036854775808 ≤ p := hx.u1
 have uH : p ≤ 9223372036854775807 := hx.u2
 have cy := hI (show l.length = a from hx.hm.hl)
 have ff : D.length = C := hx.hs.hl
 have fg : F.length = E := hx.hp.hl
 obtain ⟨ok, bj⟩ : ∃ n, PbN.ok ⟨H, C, I, D, J, E, L, F, R, a, U, l, m, p⟩ = n := ⟨_, rfl⟩
 have b5 := hI bj
 clear hx hT
 simp only [PbN.val]
 go_enter Tryz.func42, Tryz.ntmps42
 go_upto_region 1 with (fail)
 obtain ⟨w1, cz, b6, F1⟩ := aX w 68 #[.slice H C I, .slice J E L, .slice R a U, .int .i64 m, .int .i64 p]
 rw [← cz]
 clear cz
 obtain ⟨aj, ak, al, am, an⟩ := F1.out.cs5
 go_wp2_with fail
 refine (tproblem_p ⟨H, C, I, D, J, E, L, F, R, a, U, l, m, p⟩ w1 (B.out.belowW b6.out)).mono ?_
 rw [b5.out]
 rintro e w2 ⟨rfl, c2⟩
 have M := hI (show Below w.heap.size w w2 from b6.out.trans (c2.out.mono b6.out.size))
 cases ok with
 | false =>
  have HE := hI (show PbN.ans ⟨H, C, I, D, J, E, L, F, R, a, U, l, m, p⟩ = ([], 1) by unfold PbN.ans; rw [bj]; rfl)
  go_wp2_with fail
  refine bodyPost_ret (v := .tuple #[.string ⟨#[]⟩, .int .i64 1]) (by simp [results, Tryz.results42, go_sem]) rfl ?_
  rw [HE.out]
  exact ⟨_, rfl, hI rfl, M⟩
 | true =>
  obtain ⟨⟨d6, c3, c4, d7, b7⟩, ha, hb, hc, hv⟩ := PbN.ok_iff.1 bj; simp only at d6 c3 c4 d7 b7 ha hb hc hv; have zT := textR_len (vB_iff.1 hv); have ea := hI hv; have b8 := hI hc; have eb := hI ha; have ec := hI hb; have ed := preT_len ha hb (by omega) (by omega); have ee := pre1_len ha (by omega); clear bj ha hb hc hv; have F2 := F1.out.b9 c2; have a7 := HT.out.b9 M; clear aj ak al am an; obtain ⟨aj, ak, al, am, an⟩ := (F2.out.belowW (below_box w2 (Obj.cells #[.pointer none, .slice none 0 0] 87))).cs5
  go_wp2_with fail
  clear aj ak al am an; obtain ⟨w3, ca, c6, _⟩ := aX w2 87 #[.pointer none, .slice none 0 0]; have c7 := hI (show Bd w2.heap.size w2.heap.size [] w3 by rw [ca]; exact Bd.fresh w2); rw [← ca]; clear ca
  refine (fdecls_p w2.heap.size w2.heap.size [] ⟨#[115, 116, 97, 116, 101]⟩ H C I D w2 w3 (InD.list dy.out M.out) c6.out rfl c7.out a7.out eb.out c3 (by decide) (by decide)).mono ?_
  rintro e w4 ⟨rfl, c8, ef⟩; have O4 := hI (show Lw w2 w4 from c6.out.trans ef.out.below); obtain ⟨aj, ak, al, am, an⟩ := (F2.out.belowW O4.out).cs5
  go_wp2_with fail
  refine (fdecls_p w2.heap.size w2.heap.size _ ⟨#[112, 97, 114, 97, 109]⟩ J E L F w2 w4 (InD.list dz.out M.out) O4.out rfl c8.out a7.out ec.out c4 (by decide) (Nat.le_trans ee (by decide))).mono ?_
  rintro e w5 ⟨rfl, cc, eg⟩; have O5 := hI (O4.out.go eg.out); obtain ⟨a8, bn⟩ := eX (preT D F); rw [← bn] at ed; have eh := hI bn; have cc := hI (show Bd w2.heap.size w2.heap.size a8 w5 by rw [bn]; exact cc.out); clear c7 c8 bn; clear aj ak al am an; obtain ⟨aj, ak, al, am, an⟩ := (F2.out.belowW O5.out).cs5
  go_wp2_with fail
  go_loopg [23] a (fun k iv wr => ∃ j : Nat, iv = .int .i64 j ∧ j ≤ a ∧ k = a - j ∧ Hid (Bd w2.heap.size w2.heap.size (a8 ++ (l.take j).flatMap MdN.txt) wr) ∧ Hid (Lw w2 wr))
  case atStart => exact ⟨0, rfl, by omega, by omega, by unfold Hid; simpa using cc.out, O5.out⟩
  obtain ⟨j, rfl, hj, rfl, a9, ao⟩ := hrel; obtain ⟨g, rfl⟩ := eX (wr)
  by_cases hlt : j < a
  ·
   obtain ⟨bb, o, x, hA, ht, ej, h7⟩ := InM.len (InM.list bi.out (Lw.under M.out ao.out)) j hlt; subst hA; obtain ⟨fj, x0, x1, x2⟩ := MdN.cells_at h7; have cd := ok_of_all b8.out ht; have em := hI (flat_snoc MdN.txt l j x ht); have V := fl_len bi.out b8.out j b7; have ap := (bi.out.hi x (mem_takeA ht)); obtain ⟨q, AM, b, cM, N, BM, c, dM, O⟩ := x; have db := hI cd; have dc := hI ap; have aq := MdN.ok_iff.1 cd; have fk : q.size ≤ 20 := name_len aq.1; have en : b ≤ 4 := aq.2.1; have eo : c ≤ 4 := aq.2.2.1; have dd := hI (show N.all EqN.ok = true from aq.2.2.2.1); have de := hI (show O.all EdN.ok = true from aq.2.2.2.2); have df := hI (show InL 7 EqN.cells InQ w AM b cM N from ap.hf); have dg := hI (show InL 9 EdN.cells InG w BM c dM O from ap.he); have ep := hI (show N.length = b from ap.hf.hl); have eq := hI (show O.length = c from ap.he.hl); obtain ⟨W, P⟩ := eX (a8 ++ (l.take j).flatMap MdN.txt); have er : W.length ≤ 2000000 := (by rw [P, List.length_append]; omega); rw [← P] at a9; have ce := hI P; have dh : decide ((j : Int) < (a : Int)) = true := decide_eq_true (by omega); have r1 : ¬ 9223372036854775807 < 5 + q.size := (by omega); have r2 : ¬ 9223372036854775807 < 5 + q.size + 3 := (by omega); clear ht ej h7 cd V ap aq P
   go_wp2_with fail
   obtain ⟨w6, Y, au, F6⟩ := aX g 74 #[.string q, .slice AM b cM, .slice BM c dM]; rw [← Y]; clear Y; clear x0 x1 x2 dh; have ch := hI (show g.heap.size ≠ w2.heap.size from Nat.ne_of_gt a9.out.lt); have bq : w6.cell? ⟨g.heap.size, 0, none⟩ = some (.string q) := F6.out.cell 0; have br : w6.cell? ⟨g.heap.size, 1, none⟩ = some (.slice AM b cM) := F6.out.cell 1; have bs : w6.cell? ⟨g.heap.size, 2, none⟩ = some (.slice BM c dM) := F6.out.cell 2
   go_wp2_with fail
   refine (ws_any w2.heap.size w2.heap.size W _ w6 (a9.out.belowW au.out) (by simp only [ByteArray.size_append, sz5, sz3]; omega) (ao.out.belowW au.out).size).mono ?_
   rintro e w7 ⟨rfl, ba, bt⟩; have bu := hI (Blk.kept F6.out bt.out ch.out b4); obtain ⟨af, ci⟩ := eX (W ++ (⟨#[109, 111, 100, 101, 32]⟩ ++ q ++ ⟨#[32, 123, 10]⟩ : ByteArray).data.toList); have es := hI (show Bd w2.heap.size w2.heap.size af w7 by rw [ci]; exact ba.out); have di := hI (show af = W ++ ([109, 111, 100, 101, 32] ++ q.data.toList ++ [32, 123, 10]) by rw [ci, data_app, data_app])
   have fl : af.length ≤ 2000028 := by
    rw [di.out]; simp only [List.length_append, List.length_cons, List.length_nil, length_data]
    omega
   clear ba ci r1 r2; clear bq br bs; have bq : w7.cell? ⟨g.heap.size, 0, none⟩ = some (.string q) := bu.out.cell 0; have br : w7.cell? ⟨g.heap.size, 1, none⟩ = some (.slice AM b cM) := bu.out.cell 1; have bs : w7.cell? ⟨g.heap.size, 2, none⟩ = some (.slice BM c dM) := bu.out.cell 2
   go_wp2_with fail
   go_loopg [35] b (fun k iv wr => ∃ i : Nat, iv = .int .i64 i ∧ i ≤ b ∧ k = b - i ∧ Hid (Bd w2.heap.size w2.heap.size (af ++ (N.take i).flatMap EqN.ft) wr) ∧ Hid (Blk wr g.heap.size 74 #[.string q, .slice AM b cM, .slice BM c dM]) ∧ Hid (Lw w2 wr))
   case atStart => exact ⟨0, rfl, by omega, by omega, by unfold Hid; simpa using es.out, bu.out, ((ao.out.belowW au.out).go bt.out)⟩
   obtain ⟨i, rfl, hi, rfl, r, ag, u⟩ := hrel
   by_cases hlt2 : i < b
   ·
    obtain ⟨eu, o2, y, cj, ah, av, bc⟩ := InQ.len (InQ.list df.out (Lw.under M.out u.out)) i hlt2; subst cj; obtain ⟨ew, y0, y1, y2, y3, y4, y5, y6⟩ := EqN.cells_at bc; have bd := hI av; have bv := EqN.ok_iff.1 (ok_of_all dd.out ah); have ex := hI bv.2; have fm : y.s.size ≤ 20 := name_len bv.1; have zY := (txt20 bv.2).2; have ck := hI (flat_snoc EqN.ft N i y ah); have V := ft_len df.out dd.out i en; obtain ⟨cl, bx⟩ := eX (af ++ (N.take i).flatMap EqN.ft); have fn : cl.length ≤ 2100000 := (by rw [bx, List.length_append]; omega); rw [← bx] at r; have ey := hI bx; have a3 : decide ((i : Int) < (b : Int)) = true := decide_eq_true (by omega); have q1 : ¬ 9223372036854775807 < 1 + y.s.size := (by omega); have q2 : ¬ 9223372036854775807 < 1 + y.s.size + 4 := (by omega); obtain ⟨z, be⟩ := eX (wr); rw [← be] at r ag u y0 y1 y2 y3 y4 y5 y6 bd ⊢; clear ah av bc bv bx V be
    go_wp2_with fail
    obtain ⟨wf, Y, G, cn⟩ := aX z 78 #[.string y.s, .int .i64 y.v.h.kind, .int .i64 y.v.h.n, .int .i64 y.v.h.d, .string y.v.h.name, .int .i64 y.v.h.k, .slice y.v.A y.v.len y.v.cap]; rw [← Y]; clear Y; clear y0 y1 y2 y3 y4 y5 y6 a3; have ez := r.out.b9 G; have e1 := ag.out.b9 G; have bf := u.out.b9 G; have e2 := a7.out.b9 bf; have e3 := bd.out.b9 G; clear G; have a4 := hI (below_dr wf); have Z := cn.out.b9 a4
    refine wp_region_held_drew (S := fun w' => w'.cell? ⟨z.heap.size, 0, none⟩ = some (.string y.s) ∧ w'.cell? ⟨z.heap.size, 1, none⟩ = some (.int .i64 y.v.h.kind) ∧ w'.cell? ⟨z.heap.size, 2, none⟩ = some (.int .i64 y.v.h.n) ∧ w'.cell? ⟨z.heap.size, 3, none⟩ = some (.int .i64 y.v.h.d) ∧ w'.cell? ⟨z.heap.size, 4, none⟩ = some (.string y.v.h.name) ∧ w'.cell? ⟨z.heap.size, 5, none⟩ = some (.int .i64 y.v.h.k) ∧ w'.cell? ⟨z.heap.size, 6, none⟩ = some (.slice y.v.A y.v.len y.v.cap)) (by kernel_rfl) ?_ (fun hHeld => ?_)
    case refine_1 => exact ⟨Z.out.cell 0, Z.out.cell 1, Z.out.cell 2, Z.out.cell 3, Z.out.cell 4, Z.out.cell 5, Z.out.cell 6⟩
    refine tkW 0 ?_
    refine tkW 1 ?_
    refine tkW 2 ?_
    refine tkW 3 ?_
    refine tkW 4 ?_
    refine tkW 5 ?_
    refine wpAnyH_ready (rs := [6]) (by kernel_rfl) (by simp) ?_
    refine AllReadyH.cons rfl (fun K hK => ?_) AllReadyH.nil
    go_simp
    (with_reducible refine (expr20 y.T y.v _ (e3.out.belowW a4.out).e ex.out (e2.out.belowW a4.out)).mono ?_)
    rintro e w52 ⟨X, rfl, B, bz⟩; have dj := hI ((bf.out.belowW a4.out).belowW bz.out); have aa := Z.out.b9 bz; have hX : X.size ≤ 10000 := (by rw [strp_size B.out]; exact zY); have q3 : ¬ 9223372036854775807 < 1 + y.s.size + 4 + X.size := (by omega); have q4 : ¬ 9223372036854775807 < 1 + y.s.size + 4 + X.size + 2 := (by omega)
    have e4 : cl.length + (⟨#[9]⟩ ++ y.s ++ ⟨#[39, 32, 61, 32]⟩ ++ X ++ ⟨#[59, 10]⟩ : ByteArray).size ≤ 140737488355328 := by
     simp only [ByteArray.size_append, sz1, sz2, sz4]
     omega
    have e5 := dj.out.size
    go_wp2_with fail
    clear hHeld
    refine hK.out _ _ ?_ (fun hHeld => ?_)
    case refine_1 => exact ⟨aa.out.cell 0, aa.out.cell 1, aa.out.cell 2, aa.out.cell 3, aa.out.cell 4, aa.out.cell 5, aa.out.cell 6⟩
    clear hK K
    try simp only [setIfInBounds_toArray, set_cons_zero, set_cons_succ]
    refine tkW 7 ?_
    refine tkW 8 ?_
    refine wpAnyH_ready (rs := [9]) (by kernel_rfl) (by simp) ?_
    refine AllReadyH.cons rfl (fun K hK => ?_) AllReadyH.nil
    go_simp
    (with_reducible refine (ws_any w2.heap.size w2.heap.size cl _ _ ((ez.out.belowW a4.out).belowW bz.out) e4 e5).mono ?_)
    rintro e w53 ⟨rfl, e6, co⟩; have ai := hI (Blk.kept aa.out co.out (show z.heap.size ≠ w2.heap.size from Nat.ne_of_gt r.out.lt) dw)
    go_wp2_with fail
    clear hHeld
    refine hK.out _ _ ?_ (fun hHeld => ?_)
    case refine_1 => exact ⟨ai.out.cell 0, ai.out.cell 1, ai.out.cell 2, ai.out.cell 3, ai.out.cell 4, ai.out.cell 5, ai.out.cell 6⟩
    clear hK K
    try simp only [setIfInBounds_toArray, set_cons_zero, set_cons_succ]
    refine wpAnyH_done (by kernel_rfl) ?_ _
    go_wp2_with fail
    go_roundg (b - (i + 1))
    case measure => omega
    refine ⟨i + 1, by go_num, by omega, rfl, ?_, (hI (Blk.kept ((e1.out.belowW a4.out).belowW bz.out) co.out ch.out b4)), (hI (dj.out.go co.out))⟩
    have h := (e6.out); simp only [data_app, B.out] at h
    unfold Hid
    rw [ck.out, ← List.append_assoc, ← ey.out]
    simpa only [EqN.ft, List.append_assoc] using h
   have b0 : i = b := (by omega); have cp := hI (show Bd w2.heap.size w2.heap.size (af ++ N.flatMap EqN.ft) wr by have := r.out; rwa [b0, ← ep.out, List.take_length] at this); have bg := ag; have dl := u; have a3 : decide ((i : Int) < (b : Int)) = false := decide_eq_false (by omega); have e7 : (N.flatMap EqN.ft).length ≤ 40108 := MdN.fl_len dc.out db.out; obtain ⟨bh, b1⟩ := eX (af ++ N.flatMap EqN.ft)
   have fs : bh.length ≤ 2150000 := by
    rw [b1, List.length_append]; omega
   rw [← b1] at cp; have e8 := hI b1; obtain ⟨wp, dm⟩ := eX (wr); rw [← dm] at cp bg dl ⊢; have e9 : decide (i < b) = false := decide_eq_false hlt2; clear b1 r ag u b0 hlt2 e7 dm; clear bq br bs; have bq : wp.cell? ⟨g.heap.size, 0, none⟩ = some (.string q) := bg.out.cell 0; have br : wp.cell? ⟨g.heap.size, 1, none⟩ = some (.slice AM b cM) := bg.out.cell 1; have bs : wp.cell? ⟨g.heap.size, 2, none⟩ = some (.slice BM c dM) := bg.out.cell 2
   go_wp2_with fail
   clear a3 e9
   go_loopg [53] c (fun k iv wr => ∃ i : Nat, iv = .int .i64 i ∧ i ≤ c ∧ k = c - i ∧ Hid (Bd w2.heap.size w2.heap.size (bh ++ (O.take i).flatMap EdN.txt) wr) ∧ Hid (Blk wr g.heap.size 74 #[.string q, .slice AM b cM, .slice BM c dM]) ∧ Hid (Lw w2 wr))
   case atStart => exact ⟨0, rfl, by omega, by omega, by unfold Hid; simpa using cp.out, bg.out, dl.out⟩
   obtain ⟨i, rfl, hi, rfl, r, ag, u⟩ := hrel
   by_cases hlt2 : i < c
   ·
    obtain ⟨eu, o2, y, cj, ah, av, bc⟩ := InG.len (InG.list dg.out (Lw.under M.out u.out)) i hlt2; subst cj; obtain ⟨ew, y0, y1, y2, y3, y4, y5, y6, y7, y8⟩ := EdN.cells_at bc; have bd := hI av; have dn := hI (ok_of_all de.out ah); have zY := EdN.txt_len av dn.out; have ck := hI (flat_snoc EdN.txt O i y ah); have V := et_len dg.out de.out i eo; obtain ⟨dp, b2⟩ := eX (bh ++ (O.take i).flatMap EdN.txt); have fu : dp.length ≤ 2400000 := (by rw [b2, List.length_append]; omega); rw [← b2] at r; have fa := hI b2; have a3 : decide ((i : Int) < (c : Int)) = true := decide_eq_true (by omega); obtain ⟨z, be⟩ := eX (wr); rw [← be] at r ag u y0 y1 y2 y3 y4 y5 y6 y7 y8 bd ⊢; clear ah av bc b2 V be; obtain ⟨TY, ct⟩ := eX (y.txt); rw [← ct] at zY
    go_wp2_with fail
    obtain ⟨wf, Y, G, cn⟩ := aX z 81 #[.int .i64 y.v.h.kind, .int .i64 y.v.h.n, .int .i64 y.v.h.d, .string y.v.h.name, .int .i64 y.v.h.k, .slice y.v.A y.v.len y.v.cap, .int .i64 y.dir, .string y.tn, .slice y.A y.len y.cap]; rw [← Y]; clear Y; clear y0 y1 y2 y3 y4 y5 y6 y7 y8 a3; have bf := u.out.b9 G; obtain ⟨y0, y1, y2, y3, y4, y5, y6, y7, y8⟩ := cn.out.cs9
    go_wp2_with fail
    refine (fedge_p y wf (bd.out.belowW G.out) dn.out (a7.out.belowW bf.out)).mono ?_
    rw [← ct]; rintro e wg ⟨X, rfl, B, cu⟩; have hX : X.size ≤ 50156 := (by rw [strp_size B.out]; exact zY); have dq := bf.out.b9 cu
    go_wp2_with fail
    refine (ws_any w2.heap.size w2.heap.size dp X wg ((r.out.belowW G.out).belowW cu.out) (by omega) dq.out.size).mono ?_
    rintro e wh ⟨rfl, cv, b3⟩
    go_wp2_with fail
    go_roundg (c - (i + 1))
    case measure => omega
    refine ⟨i + 1, by go_num, by omega, rfl, ?_, (hI (Blk.kept ((ag.out.belowW G.out).belowW cu.out) b3.out ch.out b4)), (hI (dq.out.go b3.out))⟩
    have h := cv.out; rw [B.out] at h
    unfold Hid
    rw [ck.out, ← List.append_assoc, ← fa.out, ← ct]
    exact h
   have b0 : i = c := (by omega); have fb := hI (show Bd w2.heap.size w2.heap.size (bh ++ O.flatMap EdN.txt) wr by have := r.out; rwa [b0, ← eq.out, List.take_length] at this); have a3 : decide ((i : Int) < (c : Int)) = false := decide_eq_false (by omega); have fw : (O.flatMap EdN.txt).length ≤ 200624 := MdN.ed_len dc.out db.out
   go_wp2_with fail
   refine (ws_any w2.heap.size w2.heap.size (bh ++ O.flatMap EdN.txt) ⟨#[125, 10]⟩ wr fb.out (by
    rw [List.length_append, sz2]
    omega) u.out.size).mono ?_
   rintro e wz ⟨rfl, cv, b3⟩
   go_wp2_with fail
   go_roundg (a - (j + 1))
   case measure => omega
   refine ⟨j + 1, by go_num, by omega, rfl, ?_, (hI (u.out.go b3.out))⟩
   have h := cv.out
   unfold Hid
   rw [em.out, ← List.append_assoc, ← ce.out]; rw [e8.out, di.out] at h
   simpa only [MdN.txt, MdN.hd, List.append_assoc] using h
  have fc : j = a := (by omega); have dr := hI (show Bd w2.heap.size w2.heap.size (a8 ++ l.flatMap MdN.txt) g by have := a9.out; rwa [fc, ← cy.out, List.take_length] at this); have dh : decide ((j : Int) < (a : Int)) = false := decide_eq_false (by omega); have V := fl_len bi.out b8.out a b7; rw [← cy.out, List.take_length] at V; obtain ⟨W, P⟩ := eX (a8 ++ l.flatMap MdN.txt); have er : W.length ≤ 2000000 := (by rw [P, List.length_append]; omega); rw [← P] at dr; have ce := hI P; clear V P a9; obtain ⟨fx, fy, fz, f0, f1⟩ := (F2.out.belowW ao.out).cs5
  go_wp2_with fail
  refine (textq_at m p (textR m p) g (a7.out.belowW ao.out) ea.out rfl tL tH uL uH).mono ?_
  rintro e w6 ⟨X, rfl, B, au⟩; have hX : X.size ≤ 43 := (by rw [strp_size B.out]; exact zT); have r1 : ¬ 9223372036854775807 < 5 + X.size := (by omega); have r2 : ¬ 9223372036854775807 < 5 + X.size + 2 := (by omega); have O6 := ao.out.b9 au
  go_wp2_with fail
  refine (ws_any w2.heap.size w2.heap.size W _ w6 (dr.out.belowW au.out) (by simp only [ByteArray.size_append, sz5, sz2]; omega) O6.out.size).mono ?_
  rintro e w7 ⟨rfl, ba, bt⟩; have O7 := hI (O6.out.go bt.out); obtain ⟨Q, hf⟩ := eX (W ++ (⟨#[116, 105, 109, 101, 32]⟩ ++ X ++ ⟨#[59, 10]⟩ : ByteArray).data.toList); have dt := hI (show Bd w2.heap.size w2.heap.size Q w7 by rw [hf]; exact ba.out)
  have HF := hI (show PbN.txt ⟨H, C, I, D, J, E, L, F, R, a, U, l, m, p⟩ = Q by
   rw [hf, PbN.txt_eq, data_app, data_app, B.out, ce.out, eh.out])
  clear ba hf r1 r2
  go_wp2_with fail
  refine (blen_any w2.heap.size w2.heap.size Q w7 dt.out).mono ?_
  rintro e w8 ⟨rfl, dv⟩; rw [dv]; clear dv w8
  by_cases hbig : 65536 < Q.length
  ·
   have d9 : decide ((65536 : Int) < (Q.length : Int)) = true := decide_eq_true (by omega); have HE := hI (show PbN.ans ⟨H, C, I, D, J, E, L, F, R, a, U, l, m, p⟩ = ([], 5) by unfold PbN.ans; rw [if_pos b5.out, HF.out, if_pos hbig])
   go_wp2_with fail
   refine bodyPost_ret (v := .tuple #[.string ⟨#[]⟩, .int .i64 5]) (by simp [results, Tryz.results42, go_sem]) rfl ?_
   rw [HE.out]
   exact ⟨_, rfl, hI rfl, (hI (Lw.under M.out O7.out))⟩
  have d9 : decide ((65536 : Int) < (Q.length : Int)) = false := decide_eq_false (by omega); have HE := hI (show PbN.ans ⟨H, C, I, D, J, E, L, F, R, a, U, l, m, p⟩ = (Q, 0) by unfold PbN.ans; rw [if_pos b5.out, HF.out, if_neg hbig])
  go_wp2_with fail
  refine (bstr_any w2.heap.size w2.heap.size Q w7 dt.out O7.out.size).mono ?_
  rintro e w9 ⟨rfl, fe⟩
  go_wp2_with fail
  refine bodyPost_ret (v := .tuple #[.string ⟨Q.toArray⟩, .int .i64 0]) (by simp [results, Tryz.results42, go_sem]) rfl ?_
  rw [HE.out]
  exact ⟨_, rfl, hI rfl, hI (Lw.under M.out (O7.out.go fe.out))⟩
end Go.Proofs.YtkjoohnndobjeaaGreatDoor
