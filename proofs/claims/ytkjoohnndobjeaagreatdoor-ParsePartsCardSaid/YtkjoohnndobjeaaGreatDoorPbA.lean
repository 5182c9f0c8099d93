/-
 The walks of the parser's values, ranges and declarations.
-/
import Derived.Test.YtkjoohnndobjeaaGreatDoorQS
import Derived.Test.YtkjoohnndobjeaaGreatDoorQJ
set_option linter.unusedVariables false
set_option maxHeartbeats 4000000
set_option maxRecDepth 100000
namespace Go.Proofs.YtkjoohnndobjeaaGreatDoor
open Go.RowKit Go.Fl Go.Fl.Lx Go.Fl.Nm Go.Fl.Fm Go.Fl.Rt Go.Fl.Pa
open List (setIfInBounds_toArray set_cons_zero set_cons_succ getElem_toArray getElem_cons_zero getElem_cons_succ)
/-- What a rule answers: P tells the value. -/
def PRP {α : Type} (P : α → World → Ending → World → Prop) (w0 : World) (g : Nat) (A : Option Addr) (len cap : Nat) (ts : List Tok) (m : Nat) (r : PR α) (w : World) (e : Ending) (w' : World) : Prop :=
 match r with
 | .ok a k1 => P a w e w' ∧ Hid (w.grownBy w' (some g)) ∧ Hid (Env w0 g A len cap ts k1 m w')
 | .bad ln co er => e = pan ln co er ∧ Hid (w.grownBy w' (some g))
 | .out => False
section
variable {α : Type} {P : α → World → Ending → World → Prop} {w0 : World} {g : Nat} {A : Option Addr} {len cap : Nat} {ts : List Tok} {m : Nat} {w w' : World}
theorem prp_bad {ln co er : Nat} (hg : Hid (w.grownBy w' (some g))) : PRP P w0 g A len cap ts m (.bad ln co er) w (pan ln co er) w' := ⟨rfl, hg⟩
theorem prp_unex {k : Nat} {e : Ending} (he : e = panU ts k) (hg : Hid (w.grownBy w' (some g))) : PRP P w0 g A len cap ts m (unex ts k) w e w' := by
 unfold unex failP
 unfold panU at he
 split
 ·
  rename_i h
  rw [if_pos h] at he
  exact ⟨he, hg⟩
 ·
  rename_i h
  rw [if_neg h] at he
  exact ⟨he, hg⟩
end
/-- What want, value, span, decl answer. -/
def UniV (_ : Unit) (_ : World) (e : Ending) (_ : World) : Prop := e = .returned (.tuple #[])
def RatV (a : Int × Int) (_ : World) (e : Ending) (_ : World) : Prop := e = .returned (.agg #[.int .i64 a.1, .int .i64 a.2])
def RgV (r : RgP) (_ : World) (e : Ending) (_ : World) : Prop := e = .returned (.agg #[.int .i64 r.lo.1, .int .i64 r.lo.2, .int .i64 r.hi.1, .int .i64 r.hi.2])
def DcV (d : DcP) (_ : World) (e : Ending) (_ : World) : Prop := e = .returned (.agg #[.string ⟨d.s.toArray⟩, .int .i64 d.r.lo.1, .int .i64 d.r.lo.2, .int .i64 d.r.hi.1, .int .i64 d.r.hi.2])
theorem rat_prp {w0 : World} {g : Nat} {A : Option Addr} {len cap : Nat} {ts : List Tok} {m : Nat} {r : PR (Int × Int)} {w w' : World} {e : Ending} (h : RtP w0 g A len cap ts m r w e w') : PRP RatV w0 g A len cap ts m r w e w' := by
 cases r <;> exact h
def NmV (s : List UInt8) (_ : World) (e : Ending) (_ : World) : Prop := e = .returned (.string ⟨s.toArray⟩)
theorem pNm {w0 w : World} {g : Nat} {A : Option Addr} {len cap : Nat} {ts : List Tok} {k m : Nat} (h : Env w0 g A len cap ts k m w) (hk : k ≤ 110000) : Calls Tryz.prog 142 #[.pointer (some ⟨g, 0, none⟩)] w (PRP NmV w0 g A len cap ts m (nmR nameP ts k) w) :=
 (pName h hk).mono fun e w' hx => by
  have e : nameR ts k = nmR nameP ts k := rfl
  rw [e] at hx
  revert hx
  cases nmR nameP ts k <;> exact fun hx => hx
theorem pWant {w0 w : World} {g : Nat} {A : Option Addr} {len cap : Nat} {ts : List Tok} {k m : Nat} (h : Env w0 g A len cap ts k m w) (hk : k ≤ 140000) (s : List UInt8) (kw : Bool) (hkw : kwP s = kw) : Calls Tryz.prog 110 #[.pointer (some ⟨g, 0, none⟩), .string ⟨s.toArray⟩] w (PRP UniV w0 g A len cap ts m (wantP ts kw s k) w) := by
 subst hkw
 unfold wantP
 cases hs : isS (kwP s) ts k s with
 | true => exact (pWantY h hk ⟨s.toArray⟩ hs).mono fun e w' hx => hx
 | false => exact (pWantN h hk ⟨s.toArray⟩ hs).mono fun e w' hx => prp_unex hx.1 hx.2
section
variable {w : World} {g : Nat} {t : TypeId}
theorem pst5 {a b c d e : Value} (hB : Blk w g t #[a, b, c, d, e]) (a' b' c' d' e' : Value) :
  ((((w.setCell ⟨g, 0, none⟩ a').setCell ⟨g, 1, none⟩ b').setCell ⟨g, 2, none⟩ c').setCell ⟨g, 3, none⟩ d').setCell ⟨g, 4, none⟩ e' = putB w g t #[a', b', c', d', e'] := by
 rw [hB.setCell_eq 0 a', (hB.put _).setCell_eq 1 b', putB_putB, (hB.put _).setCell_eq 2 c', putB_putB, (hB.put _).setCell_eq 3 d', putB_putB, (hB.put _).setCell_eq 4 e', putB_putB]
 rfl
theorem pst14 {a b c d e : Value} (hB : Blk w g t #[a, b, c, d, e]) (b' c' d' e' : Value) :
  (((w.setCell ⟨g, 1, none⟩ b').setCell ⟨g, 2, none⟩ c').setCell ⟨g, 3, none⟩ d').setCell ⟨g, 4, none⟩ e' = putB w g t #[a, b', c', d', e'] := by
 rw [hB.setCell_eq 1 b', (hB.put _).setCell_eq 2 c', putB_putB, (hB.put _).setCell_eq 3 d', putB_putB, (hB.put _).setCell_eq 4 e', putB_putB]
 rfl
end

theorem pValue {w0 w : World} {g : Nat} {A : Option Addr} {len cap : Nat} {ts : List Tok} {k m : Nat} (h : Env w0 g A len cap ts k m w) (hk : k ≤ 120000) (hR : RX w0) : Calls Tryz.prog 109 #[.pointer (some ⟨g, 0, none⟩)] w (PRP RatV w0 g A len cap ts m (valP ts k) w) := by
 have S := hI h
 obtain ⟨i, p⟩ := eX (valP ts k)
 have F := hI p
 rw [← p]
 clear p
 have T : ts.length ≤ 100000 := by have := h.t.hl; have := h.t.hs; omega
 go_enter Tryz.func109, Tryz.ntmps109
 go_upto_region 1 with (fail)
 obtain ⟨G, n⟩ := eX (w.alloc (Obj.cells #[.int .i64 0, .int .i64 0] 26))
 have H := hI (show Below w.heap.size w G by rw [n]; exact below_box _ _)
 have I := hI (show Blk G w.heap.size 26 #[.int .i64 0, .int .i64 0] by rw [n]; exact Blk.new _ _ _)
 rw [← n]
 clear n
 have q := hI (show some w.heap.size ≠ some g from fun e => by have := h.gl; injection e with e; omega)
 have J : w.heap.size ≠ g := fun e => q.out (by rw [e])
 have L : w0.heap.size ≤ w.heap.size := h.b.size
 have s := hI (h.belowW H.out)
 have M := hI (grown_of (some g) H.out)
 clear h
 have o := hI (pFraction s.out (by omega))
 cases hb : fracP ts k with
 | false =>
  have j := hI (show i = numP ts k by rw [F.out]; unfold valP; rw [hb]; rfl)
  rw [hb] at o
  clear hb
  go_wp2_with fail
  refine o.out.mono ?_
  rintro e w2 ⟨rfl, HB⟩
  have u := hI (s.out.belowW HB.out)
  have x := hI (I.out.belowW HB.out)
  have l := hI (grown_tr M.out (grown_of (some g) HB.out))
  have c := hI ((pNumber u.out (by omega) hR).mono fun e w' hx => rat_prp hx)
  cases hn1 : numP ts k with
  | out =>
   rw [hn1] at c
   clear hn1
   go_wp2_with fail
   refine c.out.mono ?_
   rintro e w9 hx
   exact hx.elim
  | bad ln co er =>
   rw [hn1] at c
   have y := hI (show i = .bad ln co er by rw [j.out, hn1] <;> rfl)
   clear hn1
   go_wp2_with fail
   refine c.out.mono ?_
   rintro e w9 ⟨rfl, HG9⟩
   go_wp2_with fail
   rw [y.out]
   exact ⟨rfl, prp_bad (hI (grown_tr l.out HG9.out))⟩
  | ok a k1 =>
   rw [hn1] at c
   have N := (fun a k1 h => numP_ok (ts := ts) (k := k) (k1 := k1) (r := a) h) _ _ hn1
   have z := hI (show i = .ok a k1 by rw [j.out, hn1] <;> rfl)
   clear hn1
   go_wp2_with fail
   refine c.out.mono ?_
   rintro e wq1 ⟨hx, HGq1, HVq1⟩
   cases hx
   have B := hI (grown_tr l.out HGq1.out)
   have d := hI (x.out.grown HGq1.out q.out)
   obtain ⟨O, P, Q, R⟩ := d.out.all2
   go_wp2_with fail
   rw [pst2 d.out]
   have C := hI (d.out.put #[.int .i64 a.1, .int .i64 a.2])
   obtain ⟨D, _, E, _⟩ := C.out.all2
   refine bodyPost_ret (v := .agg #[.int .i64 a.1, .int .i64 a.2]) (by simp [results, Tryz.results109, go_sem, D, E]) rfl ?_
   rw [z.out]
   exact ⟨rfl, hI (grown_new B.out (Nat.le_refl _) _ _), hI (HVq1.out.far J L _ _)⟩
 | true =>
  have j := hI (show i = quotP ts k by rw [F.out]; unfold valP; rw [hb]; rfl)
  rw [hb] at o
  clear hb
  go_wp2_with fail
  refine o.out.mono ?_
  rintro e w2 ⟨rfl, HB⟩
  have u := hI (s.out.belowW HB.out)
  have x := hI (I.out.belowW HB.out)
  have l := hI (grown_tr M.out (grown_of (some g) HB.out))
  have c := hI ((pQuotient u.out (by omega) hR).mono fun e w' hx => rat_prp hx)
  cases hn1 : quotP ts k with
  | out =>
   rw [hn1] at c
   clear hn1
   go_wp2_with fail
   refine c.out.mono ?_
   rintro e w9 hx
   exact hx.elim
  | bad ln co er =>
   rw [hn1] at c
   have y := hI (show i = .bad ln co er by rw [j.out, hn1] <;> rfl)
   clear hn1
   go_wp2_with fail
   refine c.out.mono ?_
   rintro e w9 ⟨rfl, HG9⟩
   go_wp2_with fail
   rw [y.out]
   exact ⟨rfl, prp_bad (hI (grown_tr l.out HG9.out))⟩
  | ok a k1 =>
   rw [hn1] at c
   have N := (fun a k1 h => quotP_ok (ts := ts) (k := k) (k1 := k1) (r := a) h) _ _ hn1
   have z := hI (show i = .ok a k1 by rw [j.out, hn1] <;> rfl)
   clear hn1
   go_wp2_with fail
   refine c.out.mono ?_
   rintro e wq1 ⟨hx, HGq1, HVq1⟩
   cases hx
   have B := hI (grown_tr l.out HGq1.out)
   have d := hI (x.out.grown HGq1.out q.out)
   obtain ⟨O, P, Q, R⟩ := d.out.all2
   go_wp2_with fail
   rw [pst2 d.out]
   have C := hI (d.out.put #[.int .i64 a.1, .int .i64 a.2])
   obtain ⟨D, _, E, _⟩ := C.out.all2
   refine bodyPost_ret (v := .agg #[.int .i64 a.1, .int .i64 a.2]) (by simp [results, Tryz.results109, go_sem, D, E]) rfl ?_
   rw [z.out]
   exact ⟨rfl, hI (grown_new B.out (Nat.le_refl _) _ _), hI (HVq1.out.far J L _ _)⟩

theorem pSpan {w0 w : World} {g : Nat} {A : Option Addr} {len cap : Nat} {ts : List Tok} {k m : Nat} (h : Env w0 g A len cap ts k m w) (hk : k ≤ 110000) (hR : RX w0) : Calls Tryz.prog 67 #[.pointer (some ⟨g, 0, none⟩)] w (PRP RgV w0 g A len cap ts m (spanP ts k) w) := by
 have a9 := hI h
 obtain ⟨d, F⟩ := eX (spanP ts k)
 have R := hI F
 rw [← F]
 clear F
 have ba : ts.length ≤ 100000 := by have := h.t.hl; have := h.t.hs; omega
 go_enter Tryz.func67, Tryz.ntmps67
 go_upto_region 1 with (fail)
 obtain ⟨S, z⟩ := eX (w.alloc (Obj.cells #[.int .i64 0, .int .i64 0, .int .i64 0, .int .i64 0] 62))
 have T := hI (show Below w.heap.size w S by rw [z]; exact below_box _ _)
 have U := hI (show Blk S w.heap.size 62 #[.int .i64 0, .int .i64 0, .int .i64 0, .int .i64 0] by rw [z]; exact Blk.new _ _ _)
 rw [← z]
 clear z
 have j := hI (show some w.heap.size ≠ some g from fun e => by have := h.gl; injection e with e; omega)
 have V : w.heap.size ≠ g := fun e => j.out (by rw [e])
 have W : w0.heap.size ≤ w.heap.size := h.b.size
 have ag := hI (h.belowW T.out)
 have X := hI (grown_of (some g) T.out)
 clear h
 have o := hI (pAccept ag.out (by omega) ⟨#[91]⟩)
 rw [show kwP (⟨#[91]⟩ : ByteArray).data.toList = false by decide, show (⟨#[91]⟩ : ByteArray).data.toList = [91] from rfl] at o
 cases hb : isS false ts k [91] with
 | false =>
  have p := hI (show d = (valP ts k).bind fun v k1 => .ok ⟨v, v⟩ k1 by rw [R.out]; unfold spanP; rw [hb]; rfl)
  rw [hb] at o
  clear hb
  go_wp2_with fail
  refine o.out.mono ?_
  rintro e w2 ⟨rfl, HG2, HV2⟩
  simp only [Bool.false_eq_true, if_false] at HV2
  have G := hI (U.out.grown HG2.out j.out)
  have q := hI (grown_tr X.out HG2.out)
  have a := hI (pValue HV2.out (by omega) hR)
  cases hn1 : valP ts k with
  | out =>
   rw [hn1] at a
   clear hn1
   go_wp2_with fail
   refine a.out.mono ?_
   rintro e w9 hx
   exact hx.elim
  | bad ln co er =>
   rw [hn1] at a
   have i := hI (show d = .bad ln co er by rw [p.out, hn1] <;> rfl)
   clear hn1
   go_wp2_with fail
   refine a.out.mono ?_
   rintro e w9 ⟨rfl, HG9⟩
   go_wp2_with fail
   rw [i.out]
   exact ⟨rfl, prp_bad (hI (grown_tr q.out HG9.out))⟩
  | ok v k1 =>
   rw [hn1] at a
   have ah := (val_fw (ts := ts) k) _ _ hn1
   have B := hI (show d = .ok ⟨v, v⟩ k1 by rw [p.out, hn1] <;> rfl)
   clear hn1
   go_wp2_with fail
   refine a.out.mono ?_
   rintro e wq1 ⟨hx, HGq1, HVq1⟩
   cases hx
   have H := hI (grown_tr q.out HGq1.out)
   have r := hI (G.out.grown HGq1.out j.out)
   go_upto_region 3 with (fail)
   obtain ⟨s, c⟩ := eX (wq1.alloc (Obj.cells #[.int .i64 v.1, .int .i64 v.2] 26))
   have l := hI (show Below wq1.heap.size wq1 s by rw [c]; exact below_box _ _)
   have u := hI (show Blk s wq1.heap.size 26 #[.int .i64 v.1, .int .i64 v.2] by rw [c]; exact Blk.new _ _ _)
   rw [← c]
   clear c
   obtain ⟨x, n⟩ := eX (wq1.heap.size)
   have C := hI (show some x ≠ some g from fun e => by have := HVq1.out.gl; injection e with e; omega)
   have ai : w.heap.size < x := by rw [n]; exact r.out.lt
   rw [← n] at u ⊢
   clear n
   have I := hI (HVq1.out.belowW l.out)
   have D := hI (grown_tr H.out (grown_of (some g) l.out))
   have y := hI (r.out.belowW l.out)
   obtain ⟨aj, ak, al, am, an, ao, ap, aq⟩ := y.out.all4
   obtain ⟨ar, au, av, aw⟩ := u.out.all2
   go_wp2_with fail
   rw [pst4 y.out]
   have J := hI (y.out.put #[.int .i64 v.1, .int .i64 v.2, .int .i64 v.1, .int .i64 v.2])
   obtain ⟨L, _, M, _, N, _, O, _⟩ := J.out.all4
   refine bodyPost_ret (v := .agg #[.int .i64 v.1, .int .i64 v.2, .int .i64 v.1, .int .i64 v.2]) (by simp [results, Tryz.results67, go_sem, L, M, N, O]) rfl ?_
   rw [B.out]
   exact ⟨rfl, hI (grown_new D.out (Nat.le_refl _) _ _), hI (I.out.far V W _ _)⟩
 | true =>
  have bb := isS_lt hb
  have p := hI (show d = (valP ts (k + 1)).bind fun lo k1 => (wantP ts false [44] k1).bind fun _ k2 => (valP ts k2).bind fun hi k3 => (wantP ts false [93] k3).bind fun _ k4 => .ok ⟨lo, hi⟩ k4 by rw [R.out]; unfold spanP; rw [hb]; rfl)
  rw [hb] at o
  clear hb
  go_wp2_with fail
  refine o.out.mono ?_
  rintro e w2 ⟨rfl, HG2, HV2⟩
  simp only [if_true] at HV2
  have G := hI (U.out.grown HG2.out j.out)
  have q := hI (grown_tr X.out HG2.out)
  have a := hI (pValue HV2.out (by omega) hR)
  cases hn1 : valP ts (k + 1) with
  | out =>
   rw [hn1] at a
   clear hn1
   go_wp2_with fail
   refine a.out.mono ?_
   rintro e w9 hx
   exact hx.elim
  | bad ln co er =>
   rw [hn1] at a
   have i := hI (show d = .bad ln co er by rw [p.out, hn1] <;> rfl)
   clear hn1
   go_wp2_with fail
   refine a.out.mono ?_
   rintro e w9 ⟨rfl, HG9⟩
   go_wp2_with fail
   rw [i.out]
   exact ⟨rfl, prp_bad (hI (grown_tr q.out HG9.out))⟩
  | ok lo k1 =>
   rw [hn1] at a
   have ah := (val_fw (ts := ts) (k + 1)) _ _ hn1
   have B := hI (show d = (wantP ts false [44] k1).bind fun _ k2 => (valP ts k2).bind fun hi k3 => (wantP ts false [93] k3).bind fun _ k4 => .ok ⟨lo, hi⟩ k4 by rw [p.out, hn1] <;> rfl)
   clear hn1
   go_wp2_with fail
   refine a.out.mono ?_
   rintro e wq1 ⟨hx, HGq1, HVq1⟩
   cases hx
   have H := hI (grown_tr q.out HGq1.out)
   have r := hI (G.out.grown HGq1.out j.out)
   go_upto_region 5 with (fail)
   obtain ⟨s, c⟩ := eX (wq1.alloc (Obj.cells #[.int .i64 lo.1, .int .i64 lo.2] 26))
   have l := hI (show Below wq1.heap.size wq1 s by rw [c]; exact below_box _ _)
   have u := hI (show Blk s wq1.heap.size 26 #[.int .i64 lo.1, .int .i64 lo.2] by rw [c]; exact Blk.new _ _ _)
   rw [← c]
   clear c
   obtain ⟨x, n⟩ := eX (wq1.heap.size)
   have C := hI (show some x ≠ some g from fun e => by have := HVq1.out.gl; injection e with e; omega)
   have ai : w.heap.size < x := by rw [n]; exact r.out.lt
   rw [← n] at u ⊢
   clear n
   have I := hI (HVq1.out.belowW l.out)
   have D := hI (grown_tr H.out (grown_of (some g) l.out))
   have y := hI (r.out.belowW l.out)
   have a := hI (pWant I.out (by omega) [44] false (by decide))
   cases hn3 : wantP ts false [44] k1 with
   | out =>
    rw [hn3] at a
    clear hn3
    go_wp2_with fail
    refine a.out.mono ?_
    rintro e w9 hx
    exact hx.elim
   | bad ln co er =>
    rw [hn3] at a
    have i := hI (show d = .bad ln co er by rw [B.out, hn3] <;> rfl)
    clear hn3
    go_wp2_with fail
    refine a.out.mono ?_
    rintro e w9 ⟨rfl, HG9⟩
    go_wp2_with fail
    rw [i.out]
    exact ⟨rfl, prp_bad (hI (grown_tr D.out HG9.out))⟩
   | ok u1 k2 =>
    rw [hn3] at a
    have bc := (want_fw (ts := ts) false [44] k1) _ _ hn3
    have Y := hI (show d = (valP ts k2).bind fun hi k3 => (wantP ts false [93] k3).bind fun _ k4 => .ok ⟨lo, hi⟩ k4 by rw [B.out, hn3] <;> rfl)
    clear hn3
    go_wp2_with fail
    refine a.out.mono ?_
    rintro e wq3 ⟨hx, HGq3, HVq3⟩
    cases hx
    have Z := hI (grown_tr D.out HGq3.out)
    have ax := hI (y.out.grown HGq3.out j.out)
    have ay := hI (u.out.grown HGq3.out C.out)
    have a := hI (pValue HVq3.out (by omega) hR)
    cases hn4 : valP ts k2 with
    | out =>
     rw [hn4] at a
     clear hn4
     go_wp2_with fail
     refine a.out.mono ?_
     rintro e w9 hx
     exact hx.elim
    | bad ln co er =>
     rw [hn4] at a
     have i := hI (show d = .bad ln co er by rw [Y.out, hn4] <;> rfl)
     clear hn4
     go_wp2_with fail
     refine a.out.mono ?_
     rintro e w9 ⟨rfl, HG9⟩
     go_wp2_with fail
     rw [i.out]
     exact ⟨rfl, prp_bad (hI (grown_tr Z.out HG9.out))⟩
    | ok hi k3 =>
     rw [hn4] at a
     have bd := (val_fw (ts := ts) k2) _ _ hn4
     have aa := hI (show d = (wantP ts false [93] k3).bind fun _ k4 => .ok ⟨lo, hi⟩ k4 by rw [Y.out, hn4] <;> rfl)
     clear hn4
     go_wp2_with fail
     refine a.out.mono ?_
     rintro e wq4 ⟨hx, HGq4, HVq4⟩
     cases hx
     have az := hI (grown_tr Z.out HGq4.out)
     have ab := hI (ax.out.grown HGq4.out j.out)
     have a0 := hI (ay.out.grown HGq4.out C.out)
     go_upto_region 7 with (fail)
     obtain ⟨ac, c⟩ := eX (wq4.alloc (Obj.cells #[.int .i64 hi.1, .int .i64 hi.2] 26))
     have E := hI (show Below wq4.heap.size wq4 ac by rw [c]; exact below_box _ _)
     have ad := hI (show Blk ac wq4.heap.size 26 #[.int .i64 hi.1, .int .i64 hi.2] by rw [c]; exact Blk.new _ _ _)
     rw [← c]
     clear c
     obtain ⟨gb, P⟩ := eX (wq4.heap.size)
     have a1 := hI (show some gb ≠ some g from fun e => by have := HVq4.out.gl; injection e with e; omega)
     have be : w.heap.size < gb := by rw [P]; exact ab.out.lt
     rw [← P] at ad ⊢
     clear P
     have a2 := hI (HVq4.out.belowW E.out)
     have af := hI (grown_tr az.out (grown_of (some g) E.out))
     have a3 := hI (ab.out.belowW E.out)
     have a4 := hI (a0.out.belowW E.out)
     have a := hI (pWant a2.out (by omega) [93] false (by decide))
     cases hn6 : wantP ts false [93] k3 with
     | out =>
      rw [hn6] at a
      clear hn6
      go_wp2_with fail
      refine a.out.mono ?_
      rintro e w9 hx
      exact hx.elim
     | bad ln co er =>
      rw [hn6] at a
      have i := hI (show d = .bad ln co er by rw [aa.out, hn6] <;> rfl)
      clear hn6
      go_wp2_with fail
      refine a.out.mono ?_
      rintro e w9 ⟨rfl, HG9⟩
      go_wp2_with fail
      rw [i.out]
      exact ⟨rfl, prp_bad (hI (grown_tr af.out HG9.out))⟩
     | ok u2 k4 =>
      rw [hn6] at a
      have bf := (want_fw (ts := ts) false [93] k3) _ _ hn6
      have a5 := hI (show d = .ok ⟨lo, hi⟩ k4 by rw [aa.out, hn6] <;> rfl)
      clear hn6
      go_wp2_with fail
      refine a.out.mono ?_
      rintro e wq6 ⟨hx, HGq6, HVq6⟩
      cases hx
      have a6 := hI (grown_tr af.out HGq6.out)
      have Q := hI (a3.out.grown HGq6.out j.out)
      have a7 := hI (a4.out.grown HGq6.out C.out)
      have a8 := hI (ad.out.grown HGq6.out a1.out)
      obtain ⟨aj, ak, al, am, an, ao, ap, aq⟩ := Q.out.all4
      obtain ⟨ar, au, av, aw⟩ := a7.out.all2
      obtain ⟨bg, bh, bi, bj⟩ := a8.out.all2
      go_wp2_with fail
      rw [pst4 Q.out]
      have J := hI (Q.out.put #[.int .i64 lo.1, .int .i64 lo.2, .int .i64 hi.1, .int .i64 hi.2])
      obtain ⟨L, _, M, _, N, _, O, _⟩ := J.out.all4
      refine bodyPost_ret (v := .agg #[.int .i64 lo.1, .int .i64 lo.2, .int .i64 hi.1, .int .i64 hi.2]) (by simp [results, Tryz.results67, go_sem, L, M, N, O]) rfl ?_
      rw [a5.out]
      exact ⟨rfl, hI (grown_new a6.out (Nat.le_refl _) _ _), hI (HVq6.out.far V W _ _)⟩

theorem pDecl {w0 w : World} {g : Nat} {A : Option Addr} {len cap : Nat} {ts : List Tok} {k m : Nat} (h : Env w0 g A len cap ts k m w) (hk : k ≤ 105000) (hR : RX w0) : Calls Tryz.prog 111 #[.pointer (some ⟨g, 0, none⟩)] w (PRP DcV w0 g A len cap ts m (declP nameP ts k) w) := by
 have az := hI h
 obtain ⟨c, q⟩ := eX (declP nameP ts k)
 have ad := hI q
 rw [← q]
 clear q
 have a0 : ts.length ≤ 100000 := by have := h.t.hl; have := h.t.hs; omega
 go_enter Tryz.func111, Tryz.ntmps111
 go_upto_region 1 with (fail)
 obtain ⟨C, l⟩ := eX (w.alloc (Obj.cells #[.string ⟨#[]⟩, .int .i64 0, .int .i64 0, .int .i64 0, .int .i64 0] 76))
 have D := hI (show Below w.heap.size w C by rw [l]; exact below_box _ _)
 have F1 := hI (show Blk C w.heap.size 76 #[.string ⟨#[]⟩, .int .i64 0, .int .i64 0, .int .i64 0, .int .i64 0] by rw [l]; exact Blk.new _ _ _)
 rw [← l]
 clear l
 have j := hI (show some w.heap.size ≠ some g from fun e => by have := h.gl; injection e with e; omega)
 have af : w.heap.size ≠ g := fun e => j.out (by rw [e])
 have E : w0.heap.size ≤ w.heap.size := h.b.size
 have ag := hI (h.belowW D.out)
 have F := hI (grown_of (some g) D.out)
 clear h
 have G := hI (show c = (nmR nameP ts k).bind fun n k1 => (wantP ts true kIn k1).bind fun _ k2 => (spanP ts k2).bind fun r k3 => (wantP ts false [59] k3).bind fun _ k4 => .ok ⟨n, r⟩ k4 from ad.out)
 have a := hI (pNm ag.out (by omega))
 cases hn1 : nmR nameP ts k with
 | out =>
  rw [hn1] at a
  clear hn1
  go_wp2_with fail
  refine a.out.mono ?_
  rintro e w9 hx
  exact hx.elim
 | bad ln co er =>
  rw [hn1] at a
  have d := hI (show c = .bad ln co er by rw [G.out, hn1] <;> rfl)
  clear hn1
  go_wp2_with fail
  refine a.out.mono ?_
  rintro e w9 ⟨rfl, HG9⟩
  go_wp2_with fail
  rw [d.out]
  exact ⟨rfl, prp_bad (hI (grown_tr F.out HG9.out))⟩
 | ok n k1 =>
  rw [hn1] at a
  have a1 := (nmR_fw (nm := nameP) (ts := ts) k) _ _ hn1
  have H := hI (show c = (wantP ts true kIn k1).bind fun _ k2 => (spanP ts k2).bind fun r k3 => (wantP ts false [59] k3).bind fun _ k4 => .ok ⟨n, r⟩ k4 by rw [G.out, hn1] <;> rfl)
  clear hn1
  go_wp2_with fail
  refine a.out.mono ?_
  rintro e wq1 ⟨hx, HGq1, HVq1⟩
  cases hx
  have ah := hI (grown_tr F.out HGq1.out)
  have I := hI (F1.out.grown HGq1.out j.out)
  go_upto_region 2 with (fail)
  obtain ⟨J, i⟩ := eX (wq1.alloc (Obj.cells #[.string ⟨n.toArray⟩, .int .i64 0, .int .i64 0, .int .i64 0, .int .i64 0] 76))
  have s := hI (show Below wq1.heap.size wq1 J by rw [i]; exact below_box _ _)
  have L := hI (show Blk J wq1.heap.size 76 #[.string ⟨n.toArray⟩, .int .i64 0, .int .i64 0, .int .i64 0, .int .i64 0] by rw [i]; exact Blk.new _ _ _)
  rw [← i]
  clear i
  obtain ⟨o, u⟩ := eX (wq1.heap.size)
  have p := hI (show some o ≠ some g from fun e => by have := HVq1.out.gl; injection e with e; omega)
  have x : w.heap.size < o := by rw [u]; exact I.out.lt
  rw [← u] at L ⊢
  clear u
  have ai := hI (HVq1.out.belowW s.out)
  have M := hI (grown_tr ah.out (grown_of (some g) s.out))
  have aj := hI (I.out.belowW s.out)
  have a := hI (pWant ai.out (by omega) kIn true (by decide))
  cases hn3 : wantP ts true kIn k1 with
  | out =>
   rw [hn3] at a
   clear hn3
   go_wp2_with fail
   refine a.out.mono ?_
   rintro e w9 hx
   exact hx.elim
  | bad ln co er =>
   rw [hn3] at a
   have d := hI (show c = .bad ln co er by rw [H.out, hn3] <;> rfl)
   clear hn3
   go_wp2_with fail
   refine a.out.mono ?_
   rintro e w9 ⟨rfl, HG9⟩
   go_wp2_with fail
   rw [d.out]
   exact ⟨rfl, prp_bad (hI (grown_tr M.out HG9.out))⟩
  | ok u1 k2 =>
   rw [hn3] at a
   have a2 := (want_fw (ts := ts) true kIn k1) _ _ hn3
   have N := hI (show c = (spanP ts k2).bind fun r k3 => (wantP ts false [59] k3).bind fun _ k4 => .ok ⟨n, r⟩ k4 by rw [H.out, hn3] <;> rfl)
   clear hn3
   go_wp2_with fail
   refine a.out.mono ?_
   rintro e wq3 ⟨hx, HGq3, HVq3⟩
   cases hx
   have O := hI (grown_tr M.out HGq3.out)
   have ak := hI (aj.out.grown HGq3.out j.out)
   have al := hI (L.out.grown HGq3.out p.out)
   have a := hI (pSpan HVq3.out (by omega) hR)
   cases hn4 : spanP ts k2 with
   | out =>
    rw [hn4] at a
    clear hn4
    go_wp2_with fail
    refine a.out.mono ?_
    rintro e w9 hx
    exact hx.elim
   | bad ln co er =>
    rw [hn4] at a
    have d := hI (show c = .bad ln co er by rw [N.out, hn4] <;> rfl)
    clear hn4
    go_wp2_with fail
    refine a.out.mono ?_
    rintro e w9 ⟨rfl, HG9⟩
    go_wp2_with fail
    rw [d.out]
    exact ⟨rfl, prp_bad (hI (grown_tr O.out HG9.out))⟩
   | ok r k3 =>
    rw [hn4] at a
    have a3 := (span_fw (ts := ts) k2) _ _ hn4
    have P := hI (show c = (wantP ts false [59] k3).bind fun _ k4 => .ok ⟨n, r⟩ k4 by rw [N.out, hn4] <;> rfl)
    clear hn4
    go_wp2_with fail
    refine a.out.mono ?_
    rintro e wq4 ⟨hx, HGq4, HVq4⟩
    cases hx
    have am := hI (grown_tr O.out HGq4.out)
    have an := hI (ak.out.grown HGq4.out j.out)
    have y := hI (al.out.grown HGq4.out p.out)
    obtain ⟨Q, R, S, T, U, V, W, X, Y, Z⟩ := y.out.all5
    go_upto_region 4 with (fail)
    rw [pst14 y.out]
    have aa := hI (y.out.put #[.string ⟨n.toArray⟩, .int .i64 r.lo.1, .int .i64 r.lo.2, .int .i64 r.hi.1, .int .i64 r.hi.2])
    have z := hI (grown_new am.out (Nat.le_of_lt x) 76 #[.string ⟨n.toArray⟩, .int .i64 r.lo.1, .int .i64 r.lo.2, .int .i64 r.hi.1, .int .i64 r.hi.2])
    have ab := hI (HVq4.out.far (r := o) (fun e => p.out (by rw [e])) (Nat.le_trans E (Nat.le_of_lt x)) 76 #[.string ⟨n.toArray⟩, .int .i64 r.lo.1, .int .i64 r.lo.2, .int .i64 r.hi.1, .int .i64 r.hi.2])
    have ac := hI (an.out.far (t' := 76) (Nat.ne_of_lt x) #[.string ⟨n.toArray⟩, .int .i64 r.lo.1, .int .i64 r.lo.2, .int .i64 r.hi.1, .int .i64 r.hi.2])
    obtain ⟨a4, i⟩ := eX (putB wq4 o 76 #[.string ⟨n.toArray⟩, .int .i64 r.lo.1, .int .i64 r.lo.2, .int .i64 r.hi.1, .int .i64 r.hi.2])
    rw [← i] at z ab ac aa ⊢
    clear i Q R S T U V W X Y Z
    have a := hI (pWant ab.out (by omega) [59] false (by decide))
    cases hn6 : wantP ts false [59] k3 with
    | out =>
     rw [hn6] at a
     clear hn6
     go_wp2_with fail
     refine a.out.mono ?_
     rintro e w9 hx
     exact hx.elim
    | bad ln co er =>
     rw [hn6] at a
     have d := hI (show c = .bad ln co er by rw [P.out, hn6] <;> rfl)
     clear hn6
     go_wp2_with fail
     refine a.out.mono ?_
     rintro e w9 ⟨rfl, HG9⟩
     go_wp2_with fail
     rw [d.out]
     exact ⟨rfl, prp_bad (hI (grown_tr z.out HG9.out))⟩
    | ok u2 k4 =>
     rw [hn6] at a
     have a5 := (want_fw (ts := ts) false [59] k3) _ _ hn6
     have ao := hI (show c = .ok ⟨n, r⟩ k4 by rw [P.out, hn6] <;> rfl)
     clear hn6
     go_wp2_with fail
     refine a.out.mono ?_
     rintro e wq6 ⟨hx, HGq6, HVq6⟩
     cases hx
     have ap := hI (grown_tr z.out HGq6.out)
     have B := hI (ac.out.grown HGq6.out j.out)
     have aq := hI (aa.out.grown HGq6.out p.out)
     obtain ⟨a6, a7, a8, a9, ba, bb, bc, bd, be, bf⟩ := B.out.all5
     obtain ⟨Q, R, S, T, U, V, W, X, Y, Z⟩ := aq.out.all5
     go_wp2_with fail
     rw [pst5 B.out]
     have FZ := hI (B.out.put #[.string ⟨n.toArray⟩, .int .i64 r.lo.1, .int .i64 r.lo.2, .int .i64 r.hi.1, .int .i64 r.hi.2])
     obtain ⟨z0, _, z1, _, z2, _, z3, _, z4, _⟩ := FZ.out.all5
     refine bodyPost_ret (v := .agg #[.string ⟨n.toArray⟩, .int .i64 r.lo.1, .int .i64 r.lo.2, .int .i64 r.hi.1, .int .i64 r.hi.2]) (by simp [results, Tryz.results111, go_sem, z0, z1, z2, z3, z4]) rfl ?_
     rw [ao.out]
     exact ⟨rfl, hI (grown_new ap.out (Nat.le_refl _) _ _), hI (HVq6.out.far af E _ _)⟩
end Go.Proofs.YtkjoohnndobjeaaGreatDoor
