/-
  strings.Builder's methods, and the walk of the texts of declarations.
  The walk of the test whether a problem is great.
  The walk of the text of an edge.
  The walk of format.Problem.
-/
import Derived.Test.YtkjoohnndobjeaaGreatDoorQV
import Derived.Test.YtkjoohnndobjeaaGreatDoorNumShelf2
import Derived.Shelf.Strings.BuilderK
import Derived.Test.YtkjoohnndobjeaaGreatDoorQH
import Derived.Test.YtkjoohnndobjeaaGreatDoorQX
set_option linter.unusedVariables false
set_option maxHeartbeats 16000000
set_option maxRecDepth 100000
namespace Go.Proofs.YtkjoohnndobjeaaGreatDoor
open Go.RowKit Go.Fl Go.Fl.Nm Go.Fl.Dy Go.Fl.Rt Go.Fl.Fm
/-- A builder in block b that holds the bytes l; what it owns lies from B on. -/
def Bd (B b : Nat) (l : List UInt8) (w : World) : Prop := Lib.IsBuilderF 87 5 B b (Lib.byteCells l) w
/-- What a write leaves as it was. -/
structure Kept (B b : Nat) (w w' : World) : Prop where
  below : Below B w w'
  others : Lib.OthersKept 5 (some b) w w'
theorem Kept.refl (B b : Nat) (w : World) : Kept B b w w := ⟨Below.refl _ _, Lib.OthersKept.refl _ _ _⟩
theorem Kept.trans {B b : Nat} {a c d : World} (h : Kept B b a c) (k : Kept B b c d) : Kept B b a d := ⟨h.below.trans k.below, h.others.trans k.others⟩
theorem Kept.of {B b : Nat} {w w' : World} (h : Below w.heap.size w w') (hB : B ≤ w.heap.size) : Kept B b w w' :=
 ⟨h.mono hB, fun k o hk _ _ => (h.block k (Array.getElem?_eq_some_iff.1 hk).1).trans hk⟩
theorem Kept.size {B b : Nat} {w w' : World} (h : Kept B b w w') : w.heap.size ≤ w'.heap.size := h.below.size
theorem Blk.kept {B b g : Nat} {t : TypeId} {cs : Array Value} {w w' : World} (h : Blk w g t cs) (k : Kept B b w w') (hg : g ≠ b) (ht : t ≠ 5) : Blk w' g t cs :=
 k.others g _ h (fun e => hg (Option.some.inj e)) (fun c fz e => ht (by injection e))
theorem BdAt.belowW {B b : Nat} {p : Value} {bs : List Value} {w w' : World} (h : Lib.BuilderAtF 87 5 B b p bs w) (hb : Below w.heap.size w w') : Lib.BuilderAtF 87 5 B b p bs w' := by
 obtain ⟨hB, v, hk, hown, hne⟩ := h
 refine ⟨hB, v, (hb.block b (Array.getElem?_eq_some_iff.1 hk).1).trans hk, hown.kept (row := none) ⟨hb.os, hb.tape, hb.output, hb.size, fun k hk _ => hb.block k hk⟩ ?_, hne⟩
 cases v.ownBlock with
 | none => exact .inl rfl
 | some k => exact .inr (by simp)
theorem BdAt.b9 {B b : Nat} {p : Value} {bs : List Value} {w w' : World} (h : Lib.BuilderAtF 87 5 B b p bs w) (hb : Go.RowKit.Hid (Go.RowKit.Below w.heap.size w w')) : Go.RowKit.Hid (Lib.BuilderAtF 87 5 B b p bs w') := hI (BdAt.belowW h hb.out)
theorem Bd.belowW {B b : Nat} {l : List UInt8} {w w' : World} (h : Bd B b l w) (hb : Below w.heap.size w w') : Bd B b l w' := by
 rcases h with h | h
 ·
  exact .inl (BdAt.belowW h hb)
 exact .inr (BdAt.belowW h hb)
theorem Bd.b9 {B b : Nat} {l : List UInt8} {w w' : World} (h : Bd B b l w) (hb : Go.RowKit.Hid (Go.RowKit.Below w.heap.size w w')) : Go.RowKit.Hid (Bd B b l w') := hI (Bd.belowW h hb.out)
theorem Bd.fresh (w : World) : Bd w.heap.size w.heap.size [] (w.alloc (.cells #[.pointer none, .slice none 0 0] 87)) := Lib.IsBuilderF.of (Lib.fresh_isBuilder _ _ w)
theorem ws_any (B b : Nat) (l : List UInt8) (T : ByteArray) (w : World) (hb : Bd B b l w) (hl : l.length + T.size ≤ 140737488355328) (hB : B ≤ w.heap.size) :
    Calls Tryz.prog 36 #[.pointer (some ⟨b, 0, none⟩), .string T] w fun e w' => e = .returned (.tuple #[.int .i64 T.size, .nilIface]) ∧ Hid (Bd B b (l ++ T.data.toList) w') ∧ Hid (Kept B b w w') :=
  (Any.Builder_WriteString_k { Tryz.lays156 with } Tryz.Builder_Extra_156 B b (Lib.byteCells l) T w hb (by rw [Lib.byteCells_length]; exact hl) hB).mono (by
    rintro e w' ⟨rfl, h1, h2, h3⟩
    refine ⟨rfl, ?_, hI ⟨h2, h3⟩⟩
    unfold Hid Bd
    rw [Lib.byteCells_append]
    exact .inr h1)
theorem bstr_any (B b : Nat) (l : List UInt8) (w : World) (hb : Bd B b l w) (hB : B ≤ w.heap.size) :
    Calls Tryz.prog 38 #[.pointer (some ⟨b, 0, none⟩)] w fun e w' => e = .returned (.string ⟨l.toArray⟩) ∧ Hid (Kept B b w w') :=
  (Any.Builder_String_any_k { Tryz.lays156 with } Tryz.Builder_Extra_156 B b l w hb hB).mono (by
    rintro e w' ⟨rfl, h1, h2, h3⟩
    exact ⟨rfl, hI ⟨h2, h3⟩⟩)
theorem blen_any (B b : Nat) (l : List UInt8) (w : World) (hb : Bd B b l w) :
 Calls Tryz.prog 37 #[.pointer (some ⟨b, 0, none⟩)] w fun e w' => e = .returned (.int .i64 (l.length : Nat)) ∧ w' = w := by
 obtain ⟨p, hB, v, hbk, hown, hne⟩ : ∃ p, Lib.BuilderAtF 87 5 B b p (Lib.byteCells l) w := by
  rcases hb with h | h
  ·
   exact ⟨_, h⟩
  exact ⟨_, h⟩
 rw [Lib.byteCells_length] at hown
 obtain ⟨ao, cap, rfl⟩ : ∃ ao cap, v = .slice ao l.length cap := by
  rcases hown.2 with ⟨hv, h0⟩ | ⟨g, cap, cur, fz, hv, _⟩
  ·
   exact ⟨none, 0, by rw [hv, h0]⟩
  exact ⟨_, _, hv⟩
 have c1 : w.cell? ⟨b, 1, none⟩ = some (.slice ao l.length cap) := by rw [Lib.cell_of_heap hbk]; rfl
 clear hbk hown hne
 go_enter Tryz.func37, Tryz.ntmps37
 go_wp2_with fail
 go_ret
 exact ⟨rfl, rfl⟩
/-- What format.decls writes. -/
def dclT (word : List UInt8) (x : DcN) : List UInt8 := word ++ ([32] ++ x.txt)
theorem dcl_len {word : List UInt8} (hw : word.length ≤ 10) (zs : List DcN) (h : zs.all DcN.ok = true) : (zs.flatMap (dclT word)).length ≤ 127 * zs.length :=
 flat_len _ zs 127 (fun x hx => by
  have := DcN.txt_len (List.all_eq_true.1 h x hx)
  unfold dclT
  simp only [List.length_append, List.length_cons, List.length_nil]; omega)
theorem all_take {α : Type} {p : α → Bool} {l : List α} (h : l.all p = true) (j : Nat) : (l.take j).all p = true := List.all_eq_true.2 (fun x hx => List.all_eq_true.1 h x (List.mem_of_mem_take hx))
theorem take_le {α : Type} (l : List α) (j : Nat) : (l.take j).length ≤ l.length := by rw [List.length_take]; exact Nat.min_le_right _ _
theorem fdecls_p (B b : Nat) (l : List UInt8) (word : ByteArray) (A : Option Addr) (len cap : Nat) (zs : List DcN) (w0 w : World) (hx : InL 5 DcN.cells InD w0 A len cap zs) (hw : Below w0.heap.size w0 w) (hB : B = w0.heap.size) (hb : Bd B b l w) (hT : RB w0)
 (hok : zs.all DcN.ok = true) (h4 : len ≤ 4) (hwd : word.size ≤ 10) (hl : l.length ≤ 10000000) :
 Calls Tryz.prog 83 #[.pointer (some ⟨b, 0, none⟩), .string word, .slice A len cap] w fun e w' => e = .returned (.tuple #[]) ∧ Hid (Bd B b (l ++ zs.flatMap (dclT word.data.toList)) w') ∧ Hid (Kept B b w w') := by
 have L := hI hx
 have M := hI hw
 have N := hI hT
 have O := hI hb
 have u := hI hok
 have y := hI hx.hl
 have z := hI hB
 have P : word.data.toList.length ≤ 10 := hwd
 clear hx hw hT hb hok
 go_enter Tryz.func83, Tryz.ntmps83
 go_wp2_with fail
 go_loopg [12] len (fun k iv wr => ∃ j : Nat, iv = .int .i64 j ∧ j ≤ len ∧ k = len - j ∧ Hid (Bd B b (l ++ (zs.take j).flatMap (dclT word.data.toList)) wr) ∧ Hid (Kept B b w wr))
 case atStart => exact ⟨0, rfl, by omega, by omega, by simpa using O, Kept.refl _ _ _⟩
 obtain ⟨j, rfl, hj, rfl, m, g⟩ := hrel
 have i := hI (show Below w0.heap.size w0 wr from M.out.trans (by rw [← z.out]; exact g.out.below))
 have am := g.out.size
 have C : B ≤ wr.heap.size := by rw [z.out]; exact i.out.size
 by_cases hlt : j < len
 ·
  obtain ⟨bb, o, x, Q, n, D, E⟩ := InD.len (InD.list L.out i.out) j hlt; subst Q; obtain ⟨ao, R, T, U, V, W⟩ := DcN.cells_at E; have X := hI D; have hok := ok_of_all u.out n; have Y := hI (DcN.ok_iff.1 hok).2; have ap : x.s.size ≤ 20 := name_len (DcN.ok_iff.1 hok).1; have Z := range_len (DcN.ok_iff.1 hok).2; have aa := hI (flat_snoc (dclT word.data.toList) zs j x n)
  have ab : (l ++ (zs.take j).flatMap (dclT word.data.toList)).length ≤ 20000000 := by
   have h1 := dcl_len P (zs.take j) (all_take u.out j); have h2 := take_le zs j; rw [y.out] at h2; rw [List.length_append]
   omega
  obtain ⟨ad, p⟩ := eX (l ++ (zs.take j).flatMap (dclT word.data.toList)); rw [← p] at ab m; have ae := hI p; have F : decide ((j : Int) < (len : Int)) = true := decide_eq_true (by omega); clear n D E p hok
  go_wp2_with fail
  obtain ⟨w1, G, H, F1⟩ := aX wr 76 #[.string x.s, .int .i64 x.a, .int .i64 x.b, .int .i64 x.c, .int .i64 x.d]; rw [← G]; clear G R T U V W F
  refine (range_yes x.a x.b x.c x.d w1 X.out.r (N.out.belowW (i.out.trans (H.out.mono i.out.size))) Y.out).mono ?_
  rintro e w2 ⟨S, rfl, I, J⟩; have hS : S.size ≤ 90 := (by rw [strp_size I.out]; exact Z); have q := H.out.t J; obtain ⟨au, av, aw, ax, ay⟩ := (F1.out.belowW J.out).cs5; have s1 : ¬ 9223372036854775807 < word.size + 1 := (by omega); have s2 : ¬ 9223372036854775807 < word.size + 1 + x.s.size := (by omega); have s3 : ¬ 9223372036854775807 < word.size + 1 + x.s.size + 4 := (by omega); have s4 : ¬ 9223372036854775807 < word.size + 1 + x.s.size + 4 + S.size := (by omega); have s5 : ¬ 9223372036854775807 < word.size + 1 + x.s.size + 4 + S.size + 2 := (by omega)
  go_wp2_with fail
  refine (ws_any B b ad _ w2 (m.out.belowW q.out) (by
   simp only [ByteArray.size_append]; rw [show (⟨#[32]⟩ : ByteArray).size = 1 from rfl, show (⟨#[32, 105, 110, 32]⟩ : ByteArray).size = 4 from rfl, show (⟨#[59, 10]⟩ : ByteArray).size = 2 from rfl]
   omega) (Nat.le_trans C q.out.size)).mono ?_
  rintro e w3 ⟨rfl, ah, ai⟩
  go_wp2_with fail
  go_roundg (len - (j + 1))
  case measure => omega
  refine ⟨j + 1, by go_num, by omega, rfl, ?_, (hI (g.out.trans ((Kept.of q.out C).trans ai.out)))⟩
  have h := ah.out; simp only [data_app, I.out] at h; rw [ae.out] at h
  unfold Hid
  rw [aa.out]; rw [show dclT word.data.toList x = word.data.toList ++ ([32] ++ (x.s.data.toList ++ ([32, 105, 110, 32] ++ (rangeT x.a x.b x.c x.d ++ [59, 10])))) from rfl]
  simpa only [List.append_assoc] using h
 have aj : j = len := by omega
 have HF := hI (show Bd B b (l ++ zs.flatMap (dclT word.data.toList)) wr by have := m.out; rwa [aj, ← y.out, List.take_length] at this)
 have F : decide ((j : Int) < (len : Int)) = false := decide_eq_false (by omega)
 go_wp2_with fail
 refine bodyPost_end (v := .tuple #[]) (by simp [results, Tryz.results83, go_sem]) rfl ?_
 exact ⟨rfl, HF, g⟩
end Go.Proofs.YtkjoohnndobjeaaGreatDoor
namespace Go.Proofs.YtkjoohnndobjeaaGreatDoor
open Go.RowKit Go.Fl Go.Fl.Nm Go.Fl.Dy Go.Fl.Rt Go.Fl.Fm
end Go.Proofs.YtkjoohnndobjeaaGreatDoor
namespace Go.Proofs.YtkjoohnndobjeaaGreatDoor
open Go.RowKit Go.Fl Go.Fl.Nm Go.Fl.Dy Go.Fl.Rt Go.Fl.Fm
open List (setIfInBounds_toArray set_cons_zero set_cons_succ getElem_toArray getElem_cons_zero getElem_cons_succ)
theorem expr20 (T : TE) (v : Nd) (w : World) (hin : InE w T v) (hok : okE T = true) (hT : RB w) : Calls Tryz.prog 55 #[v.val] w (StrP (txt 20 T) w) :=
 expr_at 20 T v w hin (txt20 hok).1 (by have := (txt20 hok).2; omega) hT
def EdRel (w : World) (hd : List UInt8) (rs : List EqN) (len : Nat) (k : Nat) (sv iv : Value) (wr : World) : Prop :=
  ∃ (j : Nat) (S : ByteArray), sv = .string S ∧ iv = .int .i64 j ∧ j ≤ len ∧ k = len - j ∧ S.size ≤ 20000 + 10029 * j ∧ Hid (S.data.toList = hd ++ resT (rs.take j)) ∧ Hid (Below w.heap.size w wr)

theorem fedge_p (x0 : EdN) (w : World) (hx : InG w x0) (hok : x0.ok = true) (hT : RB w) : Calls Tryz.prog 84 #[x0.val] w (StrP x0.txt w) := by
 obtain ⟨l, G, R, C, Y, b, Z, c⟩ := x0
 have HT := hI hT
 have bw := hI hx.e
 have U := EdN.ok_iff.1 hok
 have bi : C.size ≤ 20 := name_len U.2.2.1
 have h4 : b ≤ 4 := U.2.2.2.1
 have bj := hI (show c.all EqN.ok = true from U.2.2.2.2)
 have bk := hI (show InL 7 EqN.cells InQ w Y b Z c from hx.hr)
 have ar := hI (show c.length = b from hx.hr.hl)
 have z0 := (txt20 U.1).2
 have HE := hI (show EdN.txt ⟨l, G, R, C, Y, b, Z, c⟩ = [9, 119, 104, 101, 110, 32] ++ (txt 20 G ++ ((if R = 2 then [32, 102, 97, 108, 108, 115, 32, 103, 111, 116, 111, 32] else [32, 114, 105, 115, 101, 115, 32, 103, 111, 116, 111, 32]) ++ (C.data.toList ++ (resT c ++ [59, 10])))) from rfl)
 obtain ⟨TX, au⟩ := eX (txt 20 G)
 have KX := hI (fun (a : World) (hb : Below w.heap.size w a) => show Calls Tryz.prog 55 #[l.val] a (StrP TX a) from by rw [au]; exact expr20 G l a (bw.out.go hb) (show okE G = true from U.1) (HT.out.belowW hb))
 rw [← au] at HE
 have bo : TX.length ≤ 10000 := by rw [au]; exact z0
 clear hx hok hT U z0 au
 obtain ⟨dd, av⟩ : ∃ n, (R == 2) = n := ⟨_, rfl⟩
 simp only [EdN.val]
 go_enter Tryz.func84, Tryz.ntmps84
 go_upto_region 1 with (fail)
 obtain ⟨a, bp, bq, F1⟩ := aX w 81 #[.int .i64 l.h.kind, .int .i64 l.h.n, .int .i64 l.h.d, .string l.h.name, .int .i64 l.h.k, .slice l.A l.len l.cap, .int .i64 R, .string C, .slice Y b Z]
 rw [← bp]
 clear bp
 obtain ⟨aw, ax, ay, az, a0, a1, a2, a3, a4⟩ := F1.out.cs9
 go_wp2_with fail
 refine (KX.out a bq.out).mono ?_
 rintro e w2 ⟨S, rfl, HS, a5⟩
 have hS : S.size ≤ 10000 := by rw [strp_size HS.out]; exact bo
 have V := bq.out.t a5
 have F2 := F1.out.b9 a5
 clear aw ax ay az a0 a1 a2 a3 a4
 obtain ⟨aw, ax, ay, az, a0, a1, a2, a3, a4⟩ := F2.out.cs9
 have F : ¬ 9223372036854775807 < 6 + S.size := by omega
 have W : ¬ 9223372036854775807 < 6 + S.size + 12 := by omega
 cases dd with
 | false =>
  have H : ¬ 9223372036854775807 < 6 + S.size + 12 + C.size := by omega
  go_wp2_with fail
  obtain ⟨D, E⟩ : ∃ s : ByteArray, s = ⟨#[9, 119, 104, 101, 110, 32]⟩ ++ S ++ ⟨#[32, 114, 105, 115, 101, 115, 32, 103, 111, 116, 111, 32]⟩ ++ C := ⟨_, rfl⟩
  have HD := hI (show EdN.txt ⟨l, G, R, C, Y, b, Z, c⟩ = D.data.toList ++ (resT c ++ [59, 10]) by
   rw [HE.out, if_neg (by simpa using av), E]
   simp only [data_app, HS.out, List.append_assoc])
  have bz : D.size ≤ 20000 := by
   rw [E]; simp only [ByteArray.size_append]; rw [show (⟨#[9, 119, 104, 101, 110, 32]⟩ : ByteArray).size = 6 from rfl, show (⟨#[32, 114, 105, 115, 101, 115, 32, 103, 111, 116, 111, 32]⟩ : ByteArray).size = 12 from rfl]
   omega
  rw [← E]; clear E H av; clear bi F W; clear a5; obtain ⟨hd, I⟩ := eX (D.data.toList); have HH := hI I.symm; rw [← I] at HD; clear I
  go_loopg [3, 26] b (fun k sv iv wr => EdRel w2 hd c b k sv iv wr)
  case atStart => exact ⟨0, D, rfl, rfl, by omega, by omega, by omega, by unfold Hid; rw [HH.out]; simp [resT], Below.refl _ _⟩
  obtain ⟨j, m, rfl, rfl, hj, rfl, b1, J, q⟩ := hrel; have TR := hI (HT.out.belowW (V.out.trans (q.out.mono V.out.size)))
  by_cases hlt : j < b
  ·
   obtain ⟨bb, o, x, hA, L, ad, h7⟩ := InQ.len (InQ.list (InQ.list bk.out V.out) q.out) j hlt; subst hA; obtain ⟨b3, x0, x1, x2, x3, x4, x5, x6⟩ := EqN.cells_at h7; have al := hI ad; have hok := EqN.ok_iff.1 (ok_of_all bj.out L); have HV := hI hok.2; have b4 : x.s.size ≤ 20 := name_len hok.1; have M := (txt20 hok.2).2; have am := hI (take_snocA c j x L)
   obtain ⟨N, p⟩ : ∃ t, txt 20 x.T = t := ⟨_, rfl⟩
   have an := hI (fun (a : World) (h1 : InE a x.T x.v) (h2 : RB a) => show Calls Tryz.prog 55 #[x.v.val] a (StrP N a) from by rw [← p]; exact expr20 x.T x.v a h1 HV.out h2); rw [p] at M; have d5 : decide ((j : Int) < (b : Int)) = true := decide_eq_true (by omega); clear L ad h7 hok
   by_cases h0 : j = 0
   ·
    skip
    have d6 : ((j : Int) == 0) = true := (by rw [h0]; rfl); have HN := hI (show c.take j = [] by rw [h0]; rfl); have O := hI (show resT (c.take (j + 1)) = [32, 119, 105, 116, 104, 32] ++ (x.s.data.toList ++ ([32, 61, 32] ++ N)) by rw [am.out, HN.out]; simp [resT, EqN.rt, p]); clear h0; clear p; have F : ¬ 9223372036854775807 < m.size + 6 := (by omega); have W : ¬ 9223372036854775807 < x.s.size + 3 := (by omega)
    go_wp2_with fail
    obtain ⟨a, r, i, P⟩ := aX wr 82 #[.string x.s, .int .i64 x.v.h.kind, .int .i64 x.v.h.n, .int .i64 x.v.h.d, .string x.v.h.name, .int .i64 x.v.h.k, .slice x.v.A x.v.len x.v.cap]; rw [← r]; clear r; have u := q.out.t i; clear x0 x1 x2 x3 x4 x5 x6; have g := hI (below_dr a); have y := P.out.b9 g
    refine wp_region_held_drew (S := fun w' => cz7 w' wr.heap.size (.string x.s) (.int .i64 x.v.h.kind) (.int .i64 x.v.h.n) (.int .i64 x.v.h.d) (.string x.v.h.name) (.int .i64 x.v.h.k) (.slice x.v.A x.v.len x.v.cap)) (by kernel_rfl) y.out.cz7 fun hHeld => ?_
    refine tkW 0 ?_
    refine tkW 1 ?_
    refine tkW 2 ?_
    refine tkW 3 ?_
    refine tkW 4 ?_
    refine tkW 5 ?_
    refine wr1 6 fun K hK => ?_
    go_simp
    (with_reducible refine (an.out _ ((al.out.belowW i.out).belowW g.out).e ((TR.out.belowW i.out).belowW g.out)).mono ?_)
    rintro e w3 ⟨X, rfl, z, B⟩; have Q := y.out.b9 B; have hX : X.size ≤ 10000 := (by rw [strp_size z.out]; exact M); have H : ¬ 9223372036854775807 < x.s.size + 3 + X.size := (by omega); have s4 : ¬ 9223372036854775807 < m.size + 6 + (x.s.size + 3 + X.size) := (by omega)
    go_wp2_with fail
    clear hHeld
    refine hK.out _ _ Q.out.cz7 fun hHeld => ?_
    clear hK K
    try simp only [setIfInBounds_toArray, set_cons_zero, set_cons_succ]
    refine tkW 7 ?_
    refine tkW 8 ?_
    refine tkW 9 ?_
    refine wpAnyH_done (by kernel_rfl) ?_ _
    go_wp2_with fail
    go_roundg (b - (j + 1))
    case measure => omega
    refine ⟨j + 1, _, rfl, by go_num, by omega, rfl, ?_, ?_, (hI (u.out.trans ((g.out.trans (B.out.mono g.out.size)).mono u.out.size)))⟩
    ·
     simp only [ByteArray.size_append]; rw [show (⟨#[32, 119, 105, 116, 104, 32]⟩ : ByteArray).size = 6 from rfl, show (⟨#[32, 61, 32]⟩ : ByteArray).size = 3 from rfl]
     omega
    unfold Hid
    rw [O.out]; simp only [data_app, J.out, z.out, List.append_assoc, HN.out, resT, List.nil_append]
   skip
   have d6 : ((j : Int) == 0) = false := by simpa using h0
   have O := hI (show resT (c.take (j + 1)) = resT (c.take j) ++ ([44, 32] ++ (x.s.data.toList ++ ([32, 61, 32] ++ N))) by
    rw [am.out, resT_snoc _ _ (by
     intro h
     have := congrArg List.length h
     rw [List.length_take, ar.out, List.length_nil] at this
     omega)]
    simp [EqN.rt, p])
   clear p; have F : ¬ 9223372036854775807 < m.size + 2 := (by omega); have W : ¬ 9223372036854775807 < x.s.size + 3 := (by omega)
   go_wp2_with fail
   obtain ⟨a, r, i, P⟩ := aX wr 82 #[.string x.s, .int .i64 x.v.h.kind, .int .i64 x.v.h.n, .int .i64 x.v.h.d, .string x.v.h.name, .int .i64 x.v.h.k, .slice x.v.A x.v.len x.v.cap]; rw [← r]; clear r; have u := q.out.t i; clear x0 x1 x2 x3 x4 x5 x6; have g := hI (below_dr a); have y := P.out.b9 g
   refine wp_region_held_drew (S := fun w' => cz7 w' wr.heap.size (.string x.s) (.int .i64 x.v.h.kind) (.int .i64 x.v.h.n) (.int .i64 x.v.h.d) (.string x.v.h.name) (.int .i64 x.v.h.k) (.slice x.v.A x.v.len x.v.cap)) (by kernel_rfl) y.out.cz7 fun hHeld => ?_
   refine tkW 0 ?_
   refine tkW 1 ?_
   refine tkW 2 ?_
   refine tkW 3 ?_
   refine tkW 4 ?_
   refine tkW 5 ?_
   refine wr1 6 fun K hK => ?_
   go_simp
   (with_reducible refine (an.out _ ((al.out.belowW i.out).belowW g.out).e ((TR.out.belowW i.out).belowW g.out)).mono ?_)
   rintro e w3 ⟨X, rfl, z, B⟩; have Q := y.out.b9 B; have hX : X.size ≤ 10000 := (by rw [strp_size z.out]; exact M); have H : ¬ 9223372036854775807 < x.s.size + 3 + X.size := (by omega); have s4 : ¬ 9223372036854775807 < m.size + 2 + (x.s.size + 3 + X.size) := (by omega)
   go_wp2_with fail
   clear hHeld
   refine hK.out _ _ Q.out.cz7 fun hHeld => ?_
   clear hK K
   try simp only [setIfInBounds_toArray, set_cons_zero, set_cons_succ]
   refine tkW 7 ?_
   refine tkW 8 ?_
   refine tkW 9 ?_
   refine wpAnyH_done (by kernel_rfl) ?_ _
   go_wp2_with fail
   go_roundg (b - (j + 1))
   case measure => omega
   refine ⟨j + 1, _, rfl, by go_num, by omega, rfl, ?_, ?_, (hI (u.out.trans ((g.out.trans (B.out.mono g.out.size)).mono u.out.size)))⟩
   ·
    simp only [ByteArray.size_append]; rw [show (⟨#[44, 32]⟩ : ByteArray).size = 2 from rfl, show (⟨#[32, 61, 32]⟩ : ByteArray).size = 3 from rfl]
    omega
   unfold Hid
   rw [O.out]; simp only [data_app, J.out, z.out, List.append_assoc]
  have bg : j = b := (by omega); have HF := hI (show m.data.toList = hd ++ resT c by have := J.out; rwa [bg, ← ar.out, List.take_length] at this); have d5 : decide ((j : Int) < (b : Int)) = false := decide_eq_false (by omega); have F : ¬ 9223372036854775807 < m.size + 2 := (by omega)
  go_wp2_with fail
  go_ret
  exact ⟨_, rfl, hI (by rw [data_app, HF.out, HD.out, List.append_assoc]), V.out.t q⟩
 | true =>
  go_wp2_with fail
  refine (KX.out w2 V.out).mono ?_
  rintro e w3 ⟨S9, rfl, bu, bv⟩; have b8 : S9.size ≤ 10000 := (by rw [strp_size bu.out]; exact bo); have a6 := V.out.t bv; clear aw ax ay az a0 a1 a2 a3 a4; obtain ⟨aw, ax, ay, az, a0, a1, a2, a3, a4⟩ := (F2.out.belowW bv.out).cs9; have s4 : ¬ 9223372036854775807 < 6 + S9.size := (by omega); have s5 : ¬ 9223372036854775807 < 6 + S9.size + 12 := (by omega); have H : ¬ 9223372036854775807 < 6 + S9.size + 12 + C.size := (by omega)
  go_wp2_with fail
  obtain ⟨D, E⟩ : ∃ s : ByteArray, s = ⟨#[9, 119, 104, 101, 110, 32]⟩ ++ S9 ++ ⟨#[32, 102, 97, 108, 108, 115, 32, 103, 111, 116, 111, 32]⟩ ++ C := ⟨_, rfl⟩
  have HD := hI (show EdN.txt ⟨l, G, R, C, Y, b, Z, c⟩ = D.data.toList ++ (resT c ++ [59, 10]) by
   rw [HE.out, if_pos (by simpa using av), E]
   simp only [data_app, bu.out, List.append_assoc])
  have bz : D.size ≤ 20000 := by
   rw [E]; simp only [ByteArray.size_append]; rw [show (⟨#[9, 119, 104, 101, 110, 32]⟩ : ByteArray).size = 6 from rfl, show (⟨#[32, 102, 97, 108, 108, 115, 32, 103, 111, 116, 111, 32]⟩ : ByteArray).size = 12 from rfl]
   omega
  rw [← E]; clear E H s4 s5 av; clear bi F W; clear a5; obtain ⟨hd, I⟩ := eX (D.data.toList); have HH := hI I.symm; rw [← I] at HD; clear I
  go_loopg [3, 26] b (fun k sv iv wr => EdRel w3 hd c b k sv iv wr)
  case atStart => exact ⟨0, D, rfl, rfl, by omega, by omega, by omega, by unfold Hid; rw [HH.out]; simp [resT], Below.refl _ _⟩
  obtain ⟨j, m, rfl, rfl, hj, rfl, b1, J, q⟩ := hrel; have TR := hI (HT.out.belowW (a6.out.trans (q.out.mono a6.out.size)))
  by_cases hlt : j < b
  ·
   obtain ⟨bb, o, x, hA, L, ad, h7⟩ := InQ.len (InQ.list (InQ.list bk.out a6.out) q.out) j hlt; subst hA; obtain ⟨b3, x0, x1, x2, x3, x4, x5, x6⟩ := EqN.cells_at h7; have al := hI ad; have hok := EqN.ok_iff.1 (ok_of_all bj.out L); have HV := hI hok.2; have b4 : x.s.size ≤ 20 := name_len hok.1; have M := (txt20 hok.2).2; have am := hI (take_snocA c j x L)
   obtain ⟨N, p⟩ : ∃ t, txt 20 x.T = t := ⟨_, rfl⟩
   have an := hI (fun (a : World) (h1 : InE a x.T x.v) (h2 : RB a) => show Calls Tryz.prog 55 #[x.v.val] a (StrP N a) from by rw [← p]; exact expr20 x.T x.v a h1 HV.out h2); rw [p] at M; have d5 : decide ((j : Int) < (b : Int)) = true := decide_eq_true (by omega); clear L ad h7 hok
   by_cases h0 : j = 0
   ·
    skip
    have d6 : ((j : Int) == 0) = true := (by rw [h0]; rfl); have HN := hI (show c.take j = [] by rw [h0]; rfl); have O := hI (show resT (c.take (j + 1)) = [32, 119, 105, 116, 104, 32] ++ (x.s.data.toList ++ ([32, 61, 32] ++ N)) by rw [am.out, HN.out]; simp [resT, EqN.rt, p]); clear h0; clear p; have F : ¬ 9223372036854775807 < m.size + 6 := (by omega); have W : ¬ 9223372036854775807 < x.s.size + 3 := (by omega)
    go_wp2_with fail
    obtain ⟨a, r, i, P⟩ := aX wr 82 #[.string x.s, .int .i64 x.v.h.kind, .int .i64 x.v.h.n, .int .i64 x.v.h.d, .string x.v.h.name, .int .i64 x.v.h.k, .slice x.v.A x.v.len x.v.cap]; rw [← r]; clear r; have u := q.out.t i; clear x0 x1 x2 x3 x4 x5 x6; have g := hI (below_dr a); have y := P.out.b9 g
    refine wp_region_held_drew (S := fun w' => cz7 w' wr.heap.size (.string x.s) (.int .i64 x.v.h.kind) (.int .i64 x.v.h.n) (.int .i64 x.v.h.d) (.string x.v.h.name) (.int .i64 x.v.h.k) (.slice x.v.A x.v.len x.v.cap)) (by kernel_rfl) y.out.cz7 fun hHeld => ?_
    refine tkW 0 ?_
    refine tkW 1 ?_
    refine tkW 2 ?_
    refine tkW 3 ?_
    refine tkW 4 ?_
    refine tkW 5 ?_
    refine wr1 6 fun K hK => ?_
    go_simp
    (with_reducible refine (an.out _ ((al.out.belowW i.out).belowW g.out).e ((TR.out.belowW i.out).belowW g.out)).mono ?_)
    rintro e w3 ⟨X, rfl, z, B⟩; have Q := y.out.b9 B; have hX : X.size ≤ 10000 := (by rw [strp_size z.out]; exact M); have H : ¬ 9223372036854775807 < x.s.size + 3 + X.size := (by omega); have s4 : ¬ 9223372036854775807 < m.size + 6 + (x.s.size + 3 + X.size) := (by omega)
    go_wp2_with fail
    clear hHeld
    refine hK.out _ _ Q.out.cz7 fun hHeld => ?_
    clear hK K
    try simp only [setIfInBounds_toArray, set_cons_zero, set_cons_succ]
    refine tkW 7 ?_
    refine tkW 8 ?_
    refine tkW 9 ?_
    refine wpAnyH_done (by kernel_rfl) ?_ _
    go_wp2_with fail
    go_roundg (b - (j + 1))
    case measure => omega
    refine ⟨j + 1, _, rfl, by go_num, by omega, rfl, ?_, ?_, (hI (u.out.trans ((g.out.trans (B.out.mono g.out.size)).mono u.out.size)))⟩
    ·
     simp only [ByteArray.size_append]; rw [show (⟨#[32, 119, 105, 116, 104, 32]⟩ : ByteArray).size = 6 from rfl, show (⟨#[32, 61, 32]⟩ : ByteArray).size = 3 from rfl]
     omega
    unfold Hid
    rw [O.out]; simp only [data_app, J.out, z.out, List.append_assoc, HN.out, resT, List.nil_append]
   skip
   have d6 : ((j : Int) == 0) = false := by simpa using h0
   have O := hI (show resT (c.take (j + 1)) = resT (c.take j) ++ ([44, 32] ++ (x.s.data.toList ++ ([32, 61, 32] ++ N))) by
    rw [am.out, resT_snoc _ _ (by
     intro h
     have := congrArg List.length h
     rw [List.length_take, ar.out, List.length_nil] at this
     omega)]
    simp [EqN.rt, p])
   clear p; have F : ¬ 9223372036854775807 < m.size + 2 := (by omega); have W : ¬ 9223372036854775807 < x.s.size + 3 := (by omega)
   go_wp2_with fail
   obtain ⟨a, r, i, P⟩ := aX wr 82 #[.string x.s, .int .i64 x.v.h.kind, .int .i64 x.v.h.n, .int .i64 x.v.h.d, .string x.v.h.name, .int .i64 x.v.h.k, .slice x.v.A x.v.len x.v.cap]; rw [← r]; clear r; have u := q.out.t i; clear x0 x1 x2 x3 x4 x5 x6; have g := hI (below_dr a); have y := P.out.b9 g
   refine wp_region_held_drew (S := fun w' => cz7 w' wr.heap.size (.string x.s) (.int .i64 x.v.h.kind) (.int .i64 x.v.h.n) (.int .i64 x.v.h.d) (.string x.v.h.name) (.int .i64 x.v.h.k) (.slice x.v.A x.v.len x.v.cap)) (by kernel_rfl) y.out.cz7 fun hHeld => ?_
   refine tkW 0 ?_
   refine tkW 1 ?_
   refine tkW 2 ?_
   refine tkW 3 ?_
   refine tkW 4 ?_
   refine tkW 5 ?_
   refine wr1 6 fun K hK => ?_
   go_simp
   (with_reducible refine (an.out _ ((al.out.belowW i.out).belowW g.out).e ((TR.out.belowW i.out).belowW g.out)).mono ?_)
   rintro e w3 ⟨X, rfl, z, B⟩; have Q := y.out.b9 B; have hX : X.size ≤ 10000 := (by rw [strp_size z.out]; exact M); have H : ¬ 9223372036854775807 < x.s.size + 3 + X.size := (by omega); have s4 : ¬ 9223372036854775807 < m.size + 2 + (x.s.size + 3 + X.size) := (by omega)
   go_wp2_with fail
   clear hHeld
   refine hK.out _ _ Q.out.cz7 fun hHeld => ?_
   clear hK K
   try simp only [setIfInBounds_toArray, set_cons_zero, set_cons_succ]
   refine tkW 7 ?_
   refine tkW 8 ?_
   refine tkW 9 ?_
   refine wpAnyH_done (by kernel_rfl) ?_ _
   go_wp2_with fail
   go_roundg (b - (j + 1))
   case measure => omega
   refine ⟨j + 1, _, rfl, by go_num, by omega, rfl, ?_, ?_, (hI (u.out.trans ((g.out.trans (B.out.mono g.out.size)).mono u.out.size)))⟩
   ·
    simp only [ByteArray.size_append]; rw [show (⟨#[44, 32]⟩ : ByteArray).size = 2 from rfl, show (⟨#[32, 61, 32]⟩ : ByteArray).size = 3 from rfl]
    omega
   unfold Hid
   rw [O.out]; simp only [data_app, J.out, z.out, List.append_assoc]
  have bg : j = b := (by omega); have HF := hI (show m.data.toList = hd ++ resT c by have := J.out; rwa [bg, ← ar.out, List.take_length] at this); have d5 : decide ((j : Int) < (b : Int)) = false := decide_eq_false (by omega); have F : ¬ 9223372036854775807 < m.size + 2 := (by omega)
  go_wp2_with fail
  go_ret
  exact ⟨_, rfl, hI (by rw [data_app, HF.out, HD.out, List.append_assoc]), a6.out.t q⟩
end Go.Proofs.YtkjoohnndobjeaaGreatDoor
namespace Go.Proofs.YtkjoohnndobjeaaGreatDoor
open Go.RowKit Go.Fl Go.Fl.Nm Go.Fl.Dy Go.Fl.Rt Go.Fl.Fm
open List (setIfInBounds_toArray set_cons_zero set_cons_succ getElem_toArray getElem_cons_zero getElem_cons_succ)
def Lw (a w : World) : Prop := Below a.heap.size a w
theorem Lw.belowW {a w w' : World} (h : Lw a w) (hb : Below w.heap.size w w') : Lw a w' := Below.trans h (hb.mono (Below.size h))
theorem Lw.b9 {a w w' : World} (h : Lw a w) (hb : Go.RowKit.Hid (Go.RowKit.Below w.heap.size w w')) : Go.RowKit.Hid (Lw a w') := hI (Lw.belowW h hb.out)
theorem Lw.go {a w w' : World} {b : Nat} (h : Lw a w) (hk : Kept a.heap.size b w w') : Lw a w' := Below.trans h hk.below
theorem Lw.under {a c w : World} (h : Below a.heap.size a c) (k : Lw c w) : Below a.heap.size a w := h.trans (Below.mono k h.size)
theorem Lw.size {a w : World} (h : Lw a w) : a.heap.size ≤ w.heap.size := Below.size h
theorem Bd.lt {B b : Nat} {l : List UInt8} {w : World} (h : Bd B b l w) : b < w.heap.size := by
 rcases h with h | h <;> exact h.lt
theorem fl_len {w : World} {A : Option Addr} {len cap : Nat} {zs : List MdN} (h : InL 3 MdN.cells InM w A len cap zs) (hok : zs.all MdN.ok = true) (j : Nat) (h8 : len ≤ 8) : ((zs.take j).flatMap MdN.txt).length ≤ 1926096 := by
 have h1 := flat_len MdN.txt (zs.take j) 240762 (fun y hy => MdN.txt_len (h.hi y (List.mem_of_mem_take hy)) (List.all_eq_true.1 hok y (List.mem_of_mem_take hy)))
 have h2 := take_le zs j
 have := h.hl
 omega
theorem ft_len {w : World} {A : Option Addr} {len cap : Nat} {zs : List EqN} (h : InL 7 EqN.cells InQ w A len cap zs) (hok : zs.all EqN.ok = true) (j : Nat) (h8 : len ≤ 4) : ((zs.take j).flatMap EqN.ft).length ≤ 40108 := by
 have h1 := flat_len EqN.ft (zs.take j) 10027 (fun y hy => EqN.ft_len (List.all_eq_true.1 hok y (List.mem_of_mem_take hy)))
 have h2 := take_le zs j
 have := h.hl
 omega
theorem et_len {w : World} {A : Option Addr} {len cap : Nat} {zs : List EdN} (h : InL 9 EdN.cells InG w A len cap zs) (hok : zs.all EdN.ok = true) (j : Nat) (h8 : len ≤ 4) : ((zs.take j).flatMap EdN.txt).length ≤ 200624 := by
 have h1 := flat_len EdN.txt (zs.take j) 50156 (fun y hy => EdN.txt_len (h.hi y (List.mem_of_mem_take hy)) (List.all_eq_true.1 hok y (List.mem_of_mem_take hy)))
 have h2 := take_le zs j
 have := h.hl
 omega
theorem sz1 (n : UInt8) : (⟨#[n]⟩ : ByteArray).size = 1 := rfl
theorem sz2 (n m : UInt8) : (⟨#[n, m]⟩ : ByteArray).size = 2 := rfl
theorem sz3 (n m a : UInt8) : (⟨#[n, m, a]⟩ : ByteArray).size = 3 := rfl
theorem sz4 (n m a b : UInt8) : (⟨#[n, m, a, b]⟩ : ByteArray).size = 4 := rfl
theorem sz5 (n m a b c : UInt8) : (⟨#[n, m, a, b, c]⟩ : ByteArray).size = 5 := rfl
/-- The text of a problem, cut as it is written. -/
def preT (st pa : List DcN) : List UInt8 := [] ++ st.flatMap (dclT (⟨#[115, 116, 97, 116, 101]⟩ : ByteArray).data.toList) ++ pa.flatMap (dclT (⟨#[112, 97, 114, 97, 109]⟩ : ByteArray).data.toList)
theorem PbN.txt_eq (x : PbN) : x.txt = preT x.st x.pa ++ x.ms.flatMap MdN.txt ++ ([116, 105, 109, 101, 32] ++ textR x.t x.u ++ [59, 10]) := by
 unfold PbN.txt preT
 rw [show stT = dclT (⟨#[115, 116, 97, 116, 101]⟩ : ByteArray).data.toList from rfl, show paT = dclT (⟨#[112, 97, 114, 97, 109]⟩ : ByteArray).data.toList from rfl]
 simp only [List.nil_append, List.append_assoc]
theorem pre1_len {st : List DcN} (h1 : st.all DcN.ok = true) (h3 : st.length ≤ 4) : ([] ++ st.flatMap (dclT (⟨#[115, 116, 97, 116, 101]⟩ : ByteArray).data.toList)).length ≤ 1000 := by
 have a1 := dcl_len (word := (⟨#[115, 116, 97, 116, 101]⟩ : ByteArray).data.toList) (by decide) st h1
 rw [List.length_append, List.length_nil]
 omega
theorem preT_len {st pa : List DcN} (h1 : st.all DcN.ok = true) (h2 : pa.all DcN.ok = true) (h3 : st.length ≤ 4) (h4 : pa.length ≤ 4) : (preT st pa).length ≤ 2000 := by
 have a1 := dcl_len (word := (⟨#[115, 116, 97, 116, 101]⟩ : ByteArray).data.toList) (by decide) st h1
 have a2 := dcl_len (word := (⟨#[112, 97, 114, 97, 109]⟩ : ByteArray).data.toList) (by decide) pa h2
 unfold preT
 rw [List.length_append, List.length_append, List.length_nil]
 omega

theorem fproblem_p (x0 : PbN) (w : World) (hx : InP w x0) (hT : RB w) : Calls Tryz.prog 42 #[x0.val] w (StrE x0.ans.1 x0.ans.2 w) := by
 have b1 : 74 ≠ 5 := by decide
 have dv : 78 ≠ 5 := by decide
 have z := hI hx
 have HT := hI hT
 obtain ⟨G, B, H, C, I, D, J, E, Q, a, R, l, m, p⟩ := x0
 have dx := hI (show InL 5 DcN.cells InD w G B H C from hx.hs)
 have dy := hI (show InL 5 DcN.cells InD w I D J E from hx.hp)
 have bf := hI (show InL 3 MdN.cells InM w Q a R l from hx.hm)
 have tL : -9223372036854775808 ≤ m := hx.t1
 have tH : m ≤ 9223372036854775807 := hx.t2
 have uL : -9223372036854775808 ≤ p := hx.u1
 have uH : p ≤ 9223372036854775807 := hx.u2
 have cv := hI (show l.length = a from hx.hm.hl)
 have ff : C.length = B := hx.hs.hl
 have fg : E.length = D := hx.hp.hl
 obtain ⟨ok, bg⟩ : ∃ n, PbN.ok ⟨G, B, H, C, I, D, J, E, Q, a, R, l, m, p⟩ = n := ⟨_, rfl⟩
 have b2 := hI bg
 clear hx hT
 simp only [PbN.val]
 go_enter Tryz.func42, Tryz.ntmps42
 go_upto_region 1 with (fail)
 obtain ⟨w1, cw, b3, F1⟩ := aX w 68 #[.slice G B H, .slice I D J, .slice Q a R, .int .i64 m, .int .i64 p]
 rw [← cw]
 clear cw
 obtain ⟨af, ag, ah, ai, aj⟩ := F1.out.cs5
 go_wp2_with fail
 refine (tproblem_p ⟨G, B, H, C, I, D, J, E, Q, a, R, l, m, p⟩ w1 (z.out.belowW b3.out)).mono ?_
 rw [b2.out]
 rintro e w2 ⟨rfl, cy⟩
 have L := hI (show Below w.heap.size w w2 from b3.out.trans (cy.out.mono b3.out.size))
 cases ok with
 | false =>
  have HE := hI (show PbN.ans ⟨G, B, H, C, I, D, J, E, Q, a, R, l, m, p⟩ = ([], 1) by unfold PbN.ans; rw [bg]; rfl)
  go_wp2_with fail
  refine bodyPost_ret (v := .tuple #[.string ⟨#[]⟩, .int .i64 1]) (by simp [results, Tryz.results42, go_sem]) rfl ?_
  rw [HE.out]
  exact ⟨_, rfl, hI rfl, L⟩
 | true =>
  obtain ⟨⟨d5, cz, c1, d6, b4⟩, ha, hb, hc, hv⟩ := PbN.ok_iff.1 bg; simp only at d5 cz c1 d6 b4 ha hb hc hv; have zT := textR_len (vB_iff.1 hv); have d8 := hI hv; have b5 := hI hc; have ea := hI ha; have eb := hI hb; have ec := preT_len ha hb (by omega) (by omega); have ed := pre1_len ha (by omega); clear bg ha hb hc hv; have F2 := F1.out.b9 cy; have a3 := HT.out.b9 L; clear af ag ah ai aj; obtain ⟨af, ag, ah, ai, aj⟩ := (F2.out.belowW (below_box w2 (Obj.cells #[.pointer none, .slice none 0 0] 87))).cs5
  go_wp2_with fail
  clear af ag ah ai aj; obtain ⟨w3, b6, c3, _⟩ := aX w2 87 #[.pointer none, .slice none 0 0]; have c4 := hI (show Bd w2.heap.size w2.heap.size [] w3 by rw [b6]; exact Bd.fresh w2); rw [← b6]; clear b6
  refine (fdecls_p w2.heap.size w2.heap.size [] ⟨#[115, 116, 97, 116, 101]⟩ G B H C w2 w3 (InD.list dx.out L.out) c3.out rfl c4.out a3.out ea.out cz (by decide) (by decide)).mono ?_
  rintro e w4 ⟨rfl, c5, ee⟩; have O4 := hI (show Lw w2 w4 from c3.out.trans ee.out.below); obtain ⟨af, ag, ah, ai, aj⟩ := (F2.out.belowW O4.out).cs5
  go_wp2_with fail
  refine (fdecls_p w2.heap.size w2.heap.size _ ⟨#[112, 97, 114, 97, 109]⟩ I D J E w2 w4 (InD.list dy.out L.out) O4.out rfl c5.out a3.out eb.out c1 (by decide) (Nat.le_trans ed (by decide))).mono ?_
  rintro e w5 ⟨rfl, b8, ef⟩; have O5 := hI (O4.out.go ef.out); obtain ⟨a4, bk⟩ := eX (preT C E); rw [← bk] at ec; have eg := hI bk; have b8 := hI (show Bd w2.heap.size w2.heap.size a4 w5 by rw [bk]; exact b8.out); clear c4 c5 bk; clear af ag ah ai aj; obtain ⟨af, ag, ah, ai, aj⟩ := (F2.out.belowW O5.out).cs5
  go_wp2_with fail
  go_loopg [23] a (fun k iv wr => ∃ j : Nat, iv = .int .i64 j ∧ j ≤ a ∧ k = a - j ∧ Hid (Bd w2.heap.size w2.heap.size (a4 ++ (l.take j).flatMap MdN.txt) wr) ∧ Hid (Lw w2 wr))
  case atStart => exact ⟨0, rfl, by omega, by omega, by unfold Hid; simpa using b8.out, O5.out⟩
  obtain ⟨j, rfl, hj, rfl, a5, ak⟩ := hrel; obtain ⟨g, rfl⟩ := eX (wr)
  by_cases hlt : j < a
  ·
   obtain ⟨bb, o, x, hA, ht, ei, h7⟩ := InM.len (InM.list bf.out (Lw.under L.out ak.out)) j hlt; subst hA; obtain ⟨fj, x0, x1, x2⟩ := MdN.cells_at h7; have ca := ok_of_all b5.out ht; have el := hI (flat_snoc MdN.txt l j x ht); have U := fl_len bf.out b5.out j b4; have al := (bf.out.hi x (mem_takeA ht)); obtain ⟨q, Y, b, Z, M, BM, c, dM, N⟩ := x; have c8 := hI ca; have c9 := hI al; have am := MdN.ok_iff.1 ca; have fk : q.size ≤ 20 := name_len am.1; have em : b ≤ 4 := am.2.1; have en : c ≤ 4 := am.2.2.1; have da := hI (show M.all EqN.ok = true from am.2.2.2.1); have db := hI (show N.all EdN.ok = true from am.2.2.2.2); have dc := hI (show InL 7 EqN.cells InQ w Y b Z M from al.hf); have dd := hI (show InL 9 EdN.cells InG w BM c dM N from al.he); have eo := hI (show M.length = b from al.hf.hl); have ep := hI (show N.length = c from al.he.hl); obtain ⟨V, O⟩ := eX (a4 ++ (l.take j).flatMap MdN.txt); have eq : V.length ≤ 2000000 := (by rw [O, List.length_append]; omega); rw [← O] at a5; have cb := hI O; have de : decide ((j : Int) < (a : Int)) = true := decide_eq_true (by omega); have r1 : ¬ 9223372036854775807 < 5 + q.size := (by omega); have r2 : ¬ 9223372036854775807 < 5 + q.size + 3 := (by omega); clear ht ei h7 ca U al am O
   go_wp2_with fail
   obtain ⟨w6, W, ao, F6⟩ := aX g 74 #[.string q, .slice Y b Z, .slice BM c dM]; rw [← W]; clear W; clear x0 x1 x2 de; have ce := hI (show g.heap.size ≠ w2.heap.size from Nat.ne_of_gt a5.out.lt); have bn : w6.cell? ⟨g.heap.size, 0, none⟩ = some (.string q) := F6.out.cell 0; have bo : w6.cell? ⟨g.heap.size, 1, none⟩ = some (.slice Y b Z) := F6.out.cell 1; have bp : w6.cell? ⟨g.heap.size, 2, none⟩ = some (.slice BM c dM) := F6.out.cell 2
   go_wp2_with fail
   refine (ws_any w2.heap.size w2.heap.size V _ w6 (a5.out.belowW ao.out) (by simp only [ByteArray.size_append, sz5, sz3]; omega) (ak.out.belowW ao.out).size).mono ?_
   rintro e w7 ⟨rfl, a6, bq⟩; have br := hI (Blk.kept F6.out bq.out ce.out b1); obtain ⟨ac, cf⟩ := eX (V ++ (⟨#[109, 111, 100, 101, 32]⟩ ++ q ++ ⟨#[32, 123, 10]⟩ : ByteArray).data.toList); have er := hI (show Bd w2.heap.size w2.heap.size ac w7 by rw [cf]; exact a6.out); have df := hI (show ac = V ++ ([109, 111, 100, 101, 32] ++ q.data.toList ++ [32, 123, 10]) by rw [cf, data_app, data_app])
   have fl : ac.length ≤ 2000028 := by
    rw [df.out]; simp only [List.length_append, List.length_cons, List.length_nil, length_data]
    omega
   clear a6 cf r1 r2; clear bn bo bp; have bn : w7.cell? ⟨g.heap.size, 0, none⟩ = some (.string q) := br.out.cell 0; have bo : w7.cell? ⟨g.heap.size, 1, none⟩ = some (.slice Y b Z) := br.out.cell 1; have bp : w7.cell? ⟨g.heap.size, 2, none⟩ = some (.slice BM c dM) := br.out.cell 2
   go_wp2_with fail
   go_loopg [35] b (fun k iv wr => ∃ i : Nat, iv = .int .i64 i ∧ i ≤ b ∧ k = b - i ∧ Hid (Bd w2.heap.size w2.heap.size (ac ++ (M.take i).flatMap EqN.ft) wr) ∧ Hid (Blk wr g.heap.size 74 #[.string q, .slice Y b Z, .slice BM c dM]) ∧ Hid (Lw w2 wr))
   case atStart => exact ⟨0, rfl, by omega, by omega, by unfold Hid; simpa using er.out, br.out, ((ak.out.belowW ao.out).go bq.out)⟩
   obtain ⟨i, rfl, hi, rfl, r, ad, u⟩ := hrel
   by_cases hlt2 : i < b
   ·
    obtain ⟨et, o2, y, cg, ae, ap, a7⟩ := InQ.len (InQ.list dc.out (Lw.under L.out u.out)) i hlt2; subst cg; obtain ⟨ev, y0, y1, y2, y3, y4, y5, y6⟩ := EqN.cells_at a7; have a8 := hI ap; have bs := EqN.ok_iff.1 (ok_of_all da.out ae); have ew := hI bs.2; have fm : y.s.size ≤ 20 := name_len bs.1; have zY := (txt20 bs.2).2; have ch := hI (flat_snoc EqN.ft M i y ae); have U := ft_len dc.out da.out i em; obtain ⟨ci, bu⟩ := eX (ac ++ (M.take i).flatMap EqN.ft); have fn : ci.length ≤ 2100000 := (by rw [bu, List.length_append]; omega); rw [← bu] at r; have ex := hI bu; have az : decide ((i : Int) < (b : Int)) = true := decide_eq_true (by omega); have q1 : ¬ 9223372036854775807 < 1 + y.s.size := (by omega); have q2 : ¬ 9223372036854775807 < 1 + y.s.size + 4 := (by omega); obtain ⟨wq, ba⟩ := eX (wr); rw [← ba] at r ad u y0 y1 y2 y3 y4 y5 y6 a8 ⊢; clear ae ap a7 bs bu U ba
    go_wp2_with fail
    obtain ⟨wf, W, F, ck⟩ := aX wq 78 #[.string y.s, .int .i64 y.v.h.kind, .int .i64 y.v.h.n, .int .i64 y.v.h.d, .string y.v.h.name, .int .i64 y.v.h.k, .slice y.v.A y.v.len y.v.cap]; rw [← W]; clear W; clear y0 y1 y2 y3 y4 y5 y6 az; have ey := r.out.b9 F; have ez := ad.out.b9 F; have bc := u.out.b9 F; have e1 := a3.out.b9 bc; have e2 := a8.out.b9 F; clear F; have a0 := hI (below_dr wf); have dg := ck.out.b9 a0
    refine wp_region_held_drew (S := fun w' => cz7 w' wq.heap.size (.string y.s) (.int .i64 y.v.h.kind) (.int .i64 y.v.h.n) (.int .i64 y.v.h.d) (.string y.v.h.name) (.int .i64 y.v.h.k) (.slice y.v.A y.v.len y.v.cap)) (by kernel_rfl) dg.out.cz7 fun hHeld => ?_
    refine tkW 0 ?_
    refine tkW 1 ?_
    refine tkW 2 ?_
    refine tkW 3 ?_
    refine tkW 4 ?_
    refine tkW 5 ?_
    refine wr1 6 fun K hK => ?_
    go_simp
    (with_reducible refine (expr20 y.T y.v _ (e2.out.belowW a0.out).e ew.out (e1.out.belowW a0.out)).mono ?_)
    rintro e w52 ⟨X, rfl, z, bv⟩; have dh := hI ((bc.out.belowW a0.out).belowW bv.out); have di := dg.out.b9 bv; have hX : X.size ≤ 10000 := (by rw [strp_size z.out]; exact zY); have q3 : ¬ 9223372036854775807 < 1 + y.s.size + 4 + X.size := (by omega); have q4 : ¬ 9223372036854775807 < 1 + y.s.size + 4 + X.size + 2 := (by omega)
    have e3 : ci.length + (⟨#[9]⟩ ++ y.s ++ ⟨#[39, 32, 61, 32]⟩ ++ X ++ ⟨#[59, 10]⟩ : ByteArray).size ≤ 140737488355328 := by
     simp only [ByteArray.size_append, sz1, sz2, sz4]
     omega
    have e4 := dh.out.size
    go_wp2_with fail
    clear hHeld
    refine hK.out _ _ di.out.cz7 fun hHeld => ?_
    clear hK K
    try simp only [setIfInBounds_toArray, set_cons_zero, set_cons_succ]
    refine tkW 7 ?_
    refine tkW 8 ?_
    refine wr1 9 fun K hK => ?_
    go_simp
    (with_reducible refine (ws_any w2.heap.size w2.heap.size ci _ _ ((ey.out.belowW a0.out).belowW bv.out) e3 e4).mono ?_)
    rintro e w53 ⟨rfl, e5, cl⟩; have e6 := hI (Blk.kept di.out cl.out (show wq.heap.size ≠ w2.heap.size from Nat.ne_of_gt r.out.lt) dv)
    go_wp2_with fail
    clear hHeld
    refine hK.out _ _ e6.out.cz7 fun hHeld => ?_
    clear hK K
    try simp only [setIfInBounds_toArray, set_cons_zero, set_cons_succ]
    refine wpAnyH_done (by kernel_rfl) ?_ _
    go_wp2_with fail
    go_roundg (b - (i + 1))
    case measure => omega
    refine ⟨i + 1, by go_num, by omega, rfl, ?_, (hI (Blk.kept ((ez.out.belowW a0.out).belowW bv.out) cl.out ce.out b1)), (hI (dh.out.go cl.out))⟩
    have h := (e5.out); simp only [data_app, z.out] at h
    unfold Hid
    rw [ch.out, ← List.append_assoc, ← ex.out]
    simpa only [EqN.ft, List.append_assoc] using h
   have bw : i = b := (by omega); have cm := hI (show Bd w2.heap.size w2.heap.size (ac ++ M.flatMap EqN.ft) wr by have := r.out; rwa [bw, ← eo.out, List.take_length] at this); have bd := ad; have dk := u; have az : decide ((i : Int) < (b : Int)) = false := decide_eq_false (by omega); have e7 : (M.flatMap EqN.ft).length ≤ 40108 := MdN.fl_len c9.out c8.out; obtain ⟨be, bx⟩ := eX (ac ++ M.flatMap EqN.ft)
   have fs : be.length ≤ 2150000 := by
    rw [bx, List.length_append]; omega
   rw [← bx] at cm; have e8 := hI bx; obtain ⟨wp, dl⟩ := eX (wr); rw [← dl] at cm bd dk ⊢; have e9 : decide (i < b) = false := decide_eq_false hlt2; clear bx r ad u bw hlt2 e7 dl; clear bn bo bp; have bn : wp.cell? ⟨g.heap.size, 0, none⟩ = some (.string q) := bd.out.cell 0; have bo : wp.cell? ⟨g.heap.size, 1, none⟩ = some (.slice Y b Z) := bd.out.cell 1; have bp : wp.cell? ⟨g.heap.size, 2, none⟩ = some (.slice BM c dM) := bd.out.cell 2
   go_wp2_with fail
   clear az e9
   go_loopg [53] c (fun k iv wr => ∃ i : Nat, iv = .int .i64 i ∧ i ≤ c ∧ k = c - i ∧ Hid (Bd w2.heap.size w2.heap.size (be ++ (N.take i).flatMap EdN.txt) wr) ∧ Hid (Blk wr g.heap.size 74 #[.string q, .slice Y b Z, .slice BM c dM]) ∧ Hid (Lw w2 wr))
   case atStart => exact ⟨0, rfl, by omega, by omega, by unfold Hid; simpa using cm.out, bd.out, dk.out⟩
   obtain ⟨i, rfl, hi, rfl, r, ad, u⟩ := hrel
   by_cases hlt2 : i < c
   ·
    obtain ⟨et, o2, y, cg, ae, ap, a7⟩ := InG.len (InG.list dd.out (Lw.under L.out u.out)) i hlt2; subst cg; obtain ⟨ev, y0, y1, y2, y3, y4, y5, y6, y7, y8⟩ := EdN.cells_at a7; have a8 := hI ap; have dm := hI (ok_of_all db.out ae); have zY := EdN.txt_len ap dm.out; have ch := hI (flat_snoc EdN.txt N i y ae); have U := et_len dd.out db.out i en; obtain ⟨dn, bz⟩ := eX (be ++ (N.take i).flatMap EdN.txt); have fu : dn.length ≤ 2400000 := (by rw [bz, List.length_append]; omega); rw [← bz] at r; have fa := hI bz; have az : decide ((i : Int) < (c : Int)) = true := decide_eq_true (by omega); obtain ⟨wq, ba⟩ := eX (wr); rw [← ba] at r ad u y0 y1 y2 y3 y4 y5 y6 y7 y8 a8 ⊢; clear ae ap a7 bz U ba; obtain ⟨TY, cq⟩ := eX (y.txt); rw [← cq] at zY
    go_wp2_with fail
    obtain ⟨wf, W, F, ck⟩ := aX wq 81 #[.int .i64 y.v.h.kind, .int .i64 y.v.h.n, .int .i64 y.v.h.d, .string y.v.h.name, .int .i64 y.v.h.k, .slice y.v.A y.v.len y.v.cap, .int .i64 y.dir, .string y.tn, .slice y.A y.len y.cap]; rw [← W]; clear W; clear y0 y1 y2 y3 y4 y5 y6 y7 y8 az; have bc := u.out.b9 F; obtain ⟨y0, y1, y2, y3, y4, y5, y6, y7, y8⟩ := ck.out.cs9
    go_wp2_with fail
    refine (fedge_p y wf (a8.out.belowW F.out) dm.out (a3.out.belowW bc.out)).mono ?_
    rw [← cq]; rintro e wg ⟨X, rfl, z, cr⟩; have hX : X.size ≤ 50156 := (by rw [strp_size z.out]; exact zY); have dp := bc.out.b9 cr
    go_wp2_with fail
    refine (ws_any w2.heap.size w2.heap.size dn X wg ((r.out.belowW F.out).belowW cr.out) (by omega) dp.out.size).mono ?_
    rintro e wh ⟨rfl, cs, b0⟩
    go_wp2_with fail
    go_roundg (c - (i + 1))
    case measure => omega
    refine ⟨i + 1, by go_num, by omega, rfl, ?_, (hI (Blk.kept ((ad.out.belowW F.out).belowW cr.out) b0.out ce.out b1)), (hI (dp.out.go b0.out))⟩
    have h := cs.out; rw [z.out] at h
    unfold Hid
    rw [ch.out, ← List.append_assoc, ← fa.out, ← cq]
    exact h
   have bw : i = c := (by omega); have fb := hI (show Bd w2.heap.size w2.heap.size (be ++ N.flatMap EdN.txt) wr by have := r.out; rwa [bw, ← ep.out, List.take_length] at this); have az : decide ((i : Int) < (c : Int)) = false := decide_eq_false (by omega); have fw : (N.flatMap EdN.txt).length ≤ 200624 := MdN.ed_len c9.out c8.out
   go_wp2_with fail
   refine (ws_any w2.heap.size w2.heap.size (be ++ N.flatMap EdN.txt) ⟨#[125, 10]⟩ wr fb.out (by
    rw [List.length_append, sz2]
    omega) u.out.size).mono ?_
   rintro e wz ⟨rfl, cs, b0⟩
   go_wp2_with fail
   go_roundg (a - (j + 1))
   case measure => omega
   refine ⟨j + 1, by go_num, by omega, rfl, ?_, (hI (u.out.go b0.out))⟩
   have h := cs.out
   unfold Hid
   rw [el.out, ← List.append_assoc, ← cb.out]; rw [e8.out, df.out] at h
   simpa only [MdN.txt, MdN.hd, List.append_assoc] using h
  have fc : j = a := (by omega); have dq := hI (show Bd w2.heap.size w2.heap.size (a4 ++ l.flatMap MdN.txt) g by have := a5.out; rwa [fc, ← cv.out, List.take_length] at this); have de : decide ((j : Int) < (a : Int)) = false := decide_eq_false (by omega); have U := fl_len bf.out b5.out a b4; rw [← cv.out, List.take_length] at U; obtain ⟨V, O⟩ := eX (a4 ++ l.flatMap MdN.txt); have eq : V.length ≤ 2000000 := (by rw [O, List.length_append]; omega); rw [← O] at dq; have cb := hI O; clear U O a5; obtain ⟨fx, fy, fz, f0, f1⟩ := (F2.out.belowW ak.out).cs5
  go_wp2_with fail
  refine (textq_at m p (textR m p) g (a3.out.belowW ak.out) d8.out rfl tL tH uL uH).mono ?_
  rintro e w6 ⟨X, rfl, z, ao⟩; have hX : X.size ≤ 43 := (by rw [strp_size z.out]; exact zT); have r1 : ¬ 9223372036854775807 < 5 + X.size := (by omega); have r2 : ¬ 9223372036854775807 < 5 + X.size + 2 := (by omega); have O6 := ak.out.b9 ao
  go_wp2_with fail
  refine (ws_any w2.heap.size w2.heap.size V _ w6 (dq.out.belowW ao.out) (by simp only [ByteArray.size_append, sz5, sz2]; omega) O6.out.size).mono ?_
  rintro e w7 ⟨rfl, a6, bq⟩; have O7 := hI (O6.out.go bq.out); obtain ⟨P, hf⟩ := eX (V ++ (⟨#[116, 105, 109, 101, 32]⟩ ++ X ++ ⟨#[59, 10]⟩ : ByteArray).data.toList); have ds := hI (show Bd w2.heap.size w2.heap.size P w7 by rw [hf]; exact a6.out)
  have HF := hI (show PbN.txt ⟨G, B, H, C, I, D, J, E, Q, a, R, l, m, p⟩ = P by
   rw [hf, PbN.txt_eq, data_app, data_app, z.out, cb.out, eg.out])
  clear a6 hf r1 r2
  go_wp2_with fail
  refine (blen_any w2.heap.size w2.heap.size P w7 ds.out).mono ?_
  rintro e w8 ⟨rfl, du⟩; rw [du]; clear du w8
  by_cases hbig : 65536 < P.length
  ·
   have d9 : decide ((65536 : Int) < (P.length : Int)) = true := decide_eq_true (by omega); have HE := hI (show PbN.ans ⟨G, B, H, C, I, D, J, E, Q, a, R, l, m, p⟩ = ([], 5) by unfold PbN.ans; rw [if_pos b2.out, HF.out, if_pos hbig])
   go_wp2_with fail
   refine bodyPost_ret (v := .tuple #[.string ⟨#[]⟩, .int .i64 5]) (by simp [results, Tryz.results42, go_sem]) rfl ?_
   rw [HE.out]
   exact ⟨_, rfl, hI rfl, (hI (Lw.under L.out O7.out))⟩
  have d9 : decide ((65536 : Int) < (P.length : Int)) = false := decide_eq_false (by omega); have HE := hI (show PbN.ans ⟨G, B, H, C, I, D, J, E, Q, a, R, l, m, p⟩ = (P, 0) by unfold PbN.ans; rw [if_pos b2.out, HF.out, if_neg hbig])
  go_wp2_with fail
  refine (bstr_any w2.heap.size w2.heap.size P w7 ds.out O7.out.size).mono ?_
  rintro e w9 ⟨rfl, fe⟩
  go_wp2_with fail
  refine bodyPost_ret (v := .tuple #[.string ⟨P.toArray⟩, .int .i64 0]) (by simp [results, Tryz.results42, go_sem]) rfl ?_
  rw [HE.out]
  exact ⟨_, rfl, hI rfl, hI (Lw.under L.out (O7.out.go fe.out))⟩
end Go.Proofs.YtkjoohnndobjeaaGreatDoor
