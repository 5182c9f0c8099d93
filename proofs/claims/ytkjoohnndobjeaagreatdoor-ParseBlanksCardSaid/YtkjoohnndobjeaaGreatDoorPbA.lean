/-
  The walks of the parser's values, ranges and declarations.
-/
import Derived.Test.YtkjoohnndobjeaaGreatDoorQS
import Derived.Test.YtkjoohnndobjeaaGreatDoorQJ
set_option linter.unusedVariables false
set_option maxHeartbeats 4000000
set_option maxRecDepth 100000
namespace Go.Proofs.YtkjoohnndobjeaaGreatDoor
open Go.RowKit Go.Fl Go.Fl.Lx Go.Fl.Nm Go.Fl.Fm Go.Fl.Rt Go.Fl.Pa
open List (setIfInBounds_toArray set_cons_zero set_cons_succ getElem_toArray getElem_cons_zero getElem_cons_succ)
/-- What a rule answers: P tells the value. -/
def PRP {α : Type} (P : α → World → Ending → World → Prop) (w0 : World) (g : Nat) (A : Option Addr) (len cap : Nat) (ts : List Tok) (m : Nat) (r : PR α) (w : World) (e : Ending) (w' : World) : Prop :=
  match r with
  | .ok a k1 => P a w e w' ∧ Hid (w.grownBy w' (some g)) ∧ Hid (Env w0 g A len cap ts k1 m w')
  | .bad ln co er => e = pan ln co er ∧ Hid (w.grownBy w' (some g))
  | .out => False
section
variable {α : Type} {P : α → World → Ending → World → Prop} {w0 : World} {g : Nat} {A : Option Addr} {len cap : Nat} {ts : List Tok} {m : Nat} {w w' : World}
theorem prp_bad {ln co er : Nat} (hg : Hid (w.grownBy w' (some g))) : PRP P w0 g A len cap ts m (.bad ln co er) w (pan ln co er) w' := ⟨rfl, hg⟩
theorem prp_unex {k : Nat} {e : Ending} (he : e = panU ts k) (hg : Hid (w.grownBy w' (some g))) : PRP P w0 g A len cap ts m (unex ts k) w e w' := by
 unfold unex failP
 unfold panU at he
 split
 ·
  rename_i h
  rw [if_pos h] at he
  exact ⟨he, hg⟩
 rename_i h
 rw [if_neg h] at he
 exact ⟨he, hg⟩
end
/-- What want, value, span, decl answer. -/
def UniV (_ : Unit) (_ : World) (e : Ending) (_ : World) : Prop := e = .returned (.tuple #[])
def RatV (a : Int × Int) (_ : World) (e : Ending) (_ : World) : Prop := e = .returned (.agg #[.int .i64 a.1, .int .i64 a.2])
def RgV (r : RgP) (_ : World) (e : Ending) (_ : World) : Prop := e = .returned (.agg #[.int .i64 r.lo.1, .int .i64 r.lo.2, .int .i64 r.hi.1, .int .i64 r.hi.2])
def DcV (d : DcP) (_ : World) (e : Ending) (_ : World) : Prop := e = .returned (.agg #[.string ⟨d.s.toArray⟩, .int .i64 d.r.lo.1, .int .i64 d.r.lo.2, .int .i64 d.r.hi.1, .int .i64 d.r.hi.2])
theorem rat_prp {w0 : World} {g : Nat} {A : Option Addr} {len cap : Nat} {ts : List Tok} {m : Nat} {r : PR (Int × Int)} {w w' : World} {e : Ending} (h : RtP w0 g A len cap ts m r w e w') : PRP RatV w0 g A len cap ts m r w e w' := by
 cases r <;> exact h
def NmV (s : List UInt8) (_ : World) (e : Ending) (_ : World) : Prop := e = .returned (.string ⟨s.toArray⟩)
theorem pNm {w0 w : World} {g : Nat} {A : Option Addr} {len cap : Nat} {ts : List Tok} {k m : Nat} (h : Env w0 g A len cap ts k m w) (hk : k ≤ 110000) : Calls Tryz.prog 142 #[.pointer (some ⟨g, 0, none⟩)] w (PRP NmV w0 g A len cap ts m (nmR nameP ts k) w) :=
 (pName h hk).mono fun e w' hx => by
  have e : nameR ts k = nmR nameP ts k := rfl
  rw [e] at hx
  revert hx
  cases nmR nameP ts k <;> exact fun hx => hx
theorem pWant {w0 w : World} {g : Nat} {A : Option Addr} {len cap : Nat} {ts : List Tok} {k m : Nat} (h : Env w0 g A len cap ts k m w) (hk : k ≤ 140000) (s : List UInt8) (kw : Bool) (hkw : kwP s = kw) : Calls Tryz.prog 110 #[.pointer (some ⟨g, 0, none⟩), .string ⟨s.toArray⟩] w (PRP UniV w0 g A len cap ts m (wantP ts kw s k) w) := by
 subst hkw
 unfold wantP
 cases hs : isS (kwP s) ts k s with
 | true => exact (pWantY h hk ⟨s.toArray⟩ hs).mono fun e w' hx => hx
 | false => exact (pWantN h hk ⟨s.toArray⟩ hs).mono fun e w' hx => prp_unex hx.1 hx.2
section
variable {w : World} {g : Nat} {t : TypeId}
theorem pst5 {a b c d e : Value} (hB : Blk w g t #[a, b, c, d, e]) (a' b' c' d' e' : Value) :
 ((((w.setCell ⟨g, 0, none⟩ a').setCell ⟨g, 1, none⟩ b').setCell ⟨g, 2, none⟩ c').setCell ⟨g, 3, none⟩ d').setCell ⟨g, 4, none⟩ e' = putB w g t #[a', b', c', d', e'] := by
 rw [hB.setCell_eq 0 a', (hB.put _).setCell_eq 1 b', putB_putB, (hB.put _).setCell_eq 2 c', putB_putB, (hB.put _).setCell_eq 3 d', putB_putB, (hB.put _).setCell_eq 4 e', putB_putB]
 rfl
theorem pst14 {a b c d e : Value} (hB : Blk w g t #[a, b, c, d, e]) (b' c' d' e' : Value) :
 (((w.setCell ⟨g, 1, none⟩ b').setCell ⟨g, 2, none⟩ c').setCell ⟨g, 3, none⟩ d').setCell ⟨g, 4, none⟩ e' = putB w g t #[a, b', c', d', e'] := by
 rw [hB.setCell_eq 1 b', (hB.put _).setCell_eq 2 c', putB_putB, (hB.put _).setCell_eq 3 d', putB_putB, (hB.put _).setCell_eq 4 e', putB_putB]
 rfl
end

theorem pValue {w0 w : World} {g : Nat} {A : Option Addr} {len cap : Nat} {ts : List Tok} {k m : Nat} (h : Env w0 g A len cap ts k m w) (hk : k ≤ 120000) (hR : RX w0) : Calls Tryz.prog 109 #[.pointer (some ⟨g, 0, none⟩)] w (PRP RatV w0 g A len cap ts m (valP ts k) w) := by
 obtain ⟨j, q⟩ := eX (valP ts k)
 have E := hI q
 rw [← q]
 clear q
 have R : ts.length ≤ 100000 := by have := h.t.hl; have := h.t.hs; omega
 go_enter Tryz.func109, Tryz.ntmps109
 go_upto_region 1 with (fail)
 obtain ⟨S, F, G, H⟩ := aX w 26 #[.int .i64 0, .int .i64 0]
 rw [← F]
 clear F
 have s := hI (show some w.heap.size ≠ some g from fun e => by have := h.gl; injection e with e; omega)
 have I : w.heap.size ≠ g := fun e => s.out (by rw [e])
 have J : w0.heap.size ≤ w.heap.size := h.b.size
 have u := hI (h.belowW G.out)
 have L := hI (grown_of (some g) G.out)
 clear h
 have p := hI (pFraction u.out (by omega))
 cases hb : fracP ts k with
 | false =>
  have l := hI (show j = numP ts k by rw [E.out]; unfold valP; rw [hb]; rfl); rw [hb] at p; clear hb
  go_wp2_with fail
  refine p.out.mono ?_
  rintro e w2 ⟨rfl, d⟩; have n := hI (grown_tr L.out (grown_of (some g) d.out)); have c := hI ((pNumber (u.out.belowW d.out) (by omega) hR).mono fun e w' hx => rat_prp hx)
  cases hn1 : numP ts k with
  | out =>
   rw [hn1] at c; clear hn1
   go_wp2_with fail
   refine c.out.mono ?_
   rintro e w9 hx
   exact hx.elim
  | bad ln co er =>
   rw [hn1] at c; have x := hI (show j = .bad ln co er by rw [l.out, hn1] <;> rfl); clear hn1
   go_wp2_with fail
   refine c.out.mono ?_
   rintro e w9 ⟨rfl, y⟩
   go_wp2_with fail
   rw [x.out]
   exact ⟨rfl, prp_bad (hI (grown_tr n.out y.out))⟩
  | ok a k1 =>
   rw [hn1] at c; have M := (fun a k1 h => numP_ok (ts := ts) (k := k) (k1 := k1) (r := a) h) _ _ hn1; have z := hI (show j = .ok a k1 by rw [l.out, hn1] <;> rfl); clear hn1
   go_wp2_with fail
   refine c.out.mono ?_
   rintro e wq1 ⟨hx, o, B⟩
   cases hx
   have i := hI ((H.out.belowW d.out).grown o.out s.out); obtain ⟨N, O, P, Q⟩ := i.out.all2
   go_wp2_with fail
   rw [pst2 i.out]; obtain ⟨C, _, D, _⟩ := (i.out.put #[.int .i64 a.1, .int .i64 a.2]).all2
   refine bodyPost_ret (v := .agg #[.int .i64 a.1, .int .i64 a.2]) (by simp [results, Tryz.results109, go_sem, C, D]) rfl ?_
   rw [z.out]
   exact ⟨rfl, hI (grown_new (grown_tr n.out o.out) (Nat.le_refl _) _ _), hI (B.out.far I J _ _)⟩
 | true =>
  have l := hI (show j = quotP ts k by rw [E.out]; unfold valP; rw [hb]; rfl); rw [hb] at p; clear hb
  go_wp2_with fail
  refine p.out.mono ?_
  rintro e w2 ⟨rfl, d⟩; have n := hI (grown_tr L.out (grown_of (some g) d.out)); have c := hI ((pQuotient (u.out.belowW d.out) (by omega) hR).mono fun e w' hx => rat_prp hx)
  cases hn1 : quotP ts k with
  | out =>
   rw [hn1] at c; clear hn1
   go_wp2_with fail
   refine c.out.mono ?_
   rintro e w9 hx
   exact hx.elim
  | bad ln co er =>
   rw [hn1] at c; have x := hI (show j = .bad ln co er by rw [l.out, hn1] <;> rfl); clear hn1
   go_wp2_with fail
   refine c.out.mono ?_
   rintro e w9 ⟨rfl, y⟩
   go_wp2_with fail
   rw [x.out]
   exact ⟨rfl, prp_bad (hI (grown_tr n.out y.out))⟩
  | ok a k1 =>
   rw [hn1] at c; have M := (fun a k1 h => quotP_ok (ts := ts) (k := k) (k1 := k1) (r := a) h) _ _ hn1; have z := hI (show j = .ok a k1 by rw [l.out, hn1] <;> rfl); clear hn1
   go_wp2_with fail
   refine c.out.mono ?_
   rintro e wq1 ⟨hx, o, B⟩
   cases hx
   have i := hI ((H.out.belowW d.out).grown o.out s.out); obtain ⟨N, O, P, Q⟩ := i.out.all2
   go_wp2_with fail
   rw [pst2 i.out]; obtain ⟨C, _, D, _⟩ := (i.out.put #[.int .i64 a.1, .int .i64 a.2]).all2
   refine bodyPost_ret (v := .agg #[.int .i64 a.1, .int .i64 a.2]) (by simp [results, Tryz.results109, go_sem, C, D]) rfl ?_
   rw [z.out]
   exact ⟨rfl, hI (grown_new (grown_tr n.out o.out) (Nat.le_refl _) _ _), hI (B.out.far I J _ _)⟩

theorem pSpan {w0 w : World} {g : Nat} {A : Option Addr} {len cap : Nat} {ts : List Tok} {k m : Nat} (h : Env w0 g A len cap ts k m w) (hk : k ≤ 110000) (hR : RX w0) : Calls Tryz.prog 67 #[.pointer (some ⟨g, 0, none⟩)] w (PRP RgV w0 g A len cap ts m (spanP ts k) w) := by
 obtain ⟨d, H⟩ := eX (spanP ts k)
 have U := hI H
 rw [← H]
 clear H
 have a6 : ts.length ≤ 100000 := by have := h.t.hl; have := h.t.hs; omega
 go_enter Tryz.func67, Tryz.ntmps67
 go_upto_region 1 with (fail)
 obtain ⟨w1, V, W, X⟩ := aX w 62 #[.int .i64 0, .int .i64 0, .int .i64 0, .int .i64 0]
 rw [← V]
 clear V
 have l := hI (show some w.heap.size ≠ some g from fun e => by have := h.gl; injection e with e; omega)
 have Y : w.heap.size ≠ g := fun e => l.out (by rw [e])
 have Z : w0.heap.size ≤ w.heap.size := h.b.size
 have ak := hI (h.belowW W.out)
 have aa := hI (grown_of (some g) W.out)
 clear h
 have q := hI (pAccept ak.out (by omega) ⟨#[91]⟩)
 rw [show kwP (⟨#[91]⟩ : ByteArray).data.toList = false by decide, show (⟨#[91]⟩ : ByteArray).data.toList = [91] from rfl] at q
 cases hb : isS false ts k [91] with
 | false =>
  have r := hI (show d = (valP ts k).bind fun v k1 => .ok ⟨v, v⟩ k1 by rw [U.out]; unfold spanP; rw [hb]; rfl); rw [hb] at q; clear hb
  go_wp2_with fail
  refine q.out.mono ?_
  rintro e w2 ⟨rfl, s, u⟩; simp only [Bool.false_eq_true, if_false] at u; have I := hI (X.out.grown s.out l.out); have x := hI (grown_tr aa.out s.out); have a := hI (pValue u.out (by omega) hR)
  cases hn1 : valP ts k with
  | out =>
   rw [hn1] at a; clear hn1
   go_wp2_with fail
   refine a.out.mono ?_
   rintro e w9 c
   exact c.elim
  | bad ln co er =>
   rw [hn1] at a; have i := hI (show d = .bad ln co er by rw [r.out, hn1] <;> rfl); clear hn1
   go_wp2_with fail
   refine a.out.mono ?_
   rintro e w9 ⟨rfl, j⟩
   go_wp2_with fail
   rw [i.out]
   exact ⟨rfl, prp_bad (hI (grown_tr x.out j.out))⟩
  | ok v k1 =>
   rw [hn1] at a; have al := (val_fw (ts := ts) k) _ _ hn1; have C := hI (show d = .ok ⟨v, v⟩ k1 by rw [r.out, hn1] <;> rfl); clear hn1
   go_wp2_with fail
   refine a.out.mono ?_
   rintro e wq1 ⟨c, y, D⟩
   cases c
   have z := hI (I.out.grown y.out l.out)
   go_upto_region 3 with (fail)
   obtain ⟨am, n, o, B⟩ := aX wq1 26 #[.int .i64 v.1, .int .i64 v.2]; rw [← n]; clear n; obtain ⟨E, p⟩ := eX (wq1.heap.size); have an : w.heap.size < E := (by rw [p]; exact z.out.lt); rw [← p] at B ⊢; clear p; have J := z.out.b9 o; obtain ⟨ao, ap, aq, ar, au, av, aw, ax⟩ := J.out.all4; obtain ⟨ay, az, a0, a1⟩ := B.out.all2
   go_wp2_with fail
   rw [pst4 J.out]; obtain ⟨L, _, M, _, N, _, O, _⟩ := (J.out.put #[.int .i64 v.1, .int .i64 v.2, .int .i64 v.1, .int .i64 v.2]).all4
   refine bodyPost_ret (v := .agg #[.int .i64 v.1, .int .i64 v.2, .int .i64 v.1, .int .i64 v.2]) (by simp [results, Tryz.results67, go_sem, L, M, N, O]) rfl ?_
   rw [C.out]
   exact ⟨rfl, hI (grown_new (grown_tr (grown_tr x.out y.out) (grown_of (some g) o.out)) (Nat.le_refl _) _ _), hI ((D.out.belowW o.out).far Y Z _ _)⟩
 | true =>
  have a8 := isS_lt hb; have r := hI (show d = (valP ts (k + 1)).bind fun lo k1 => (wantP ts false [44] k1).bind fun _ k2 => (valP ts k2).bind fun hi k3 => (wantP ts false [93] k3).bind fun _ k4 => .ok ⟨lo, hi⟩ k4 by rw [U.out]; unfold spanP; rw [hb]; rfl); rw [hb] at q; clear hb
  go_wp2_with fail
  refine q.out.mono ?_
  rintro e w2 ⟨rfl, s, u⟩; simp only [if_true] at u; have I := hI (X.out.grown s.out l.out); have x := hI (grown_tr aa.out s.out); have a := hI (pValue u.out (by omega) hR)
  cases hn1 : valP ts (k + 1) with
  | out =>
   rw [hn1] at a; clear hn1
   go_wp2_with fail
   refine a.out.mono ?_
   rintro e w9 c
   exact c.elim
  | bad ln co er =>
   rw [hn1] at a; have i := hI (show d = .bad ln co er by rw [r.out, hn1] <;> rfl); clear hn1
   go_wp2_with fail
   refine a.out.mono ?_
   rintro e w9 ⟨rfl, j⟩
   go_wp2_with fail
   rw [i.out]
   exact ⟨rfl, prp_bad (hI (grown_tr x.out j.out))⟩
  | ok lo k1 =>
   rw [hn1] at a; have al := (val_fw (ts := ts) (k + 1)) _ _ hn1; have C := hI (show d = (wantP ts false [44] k1).bind fun _ k2 => (valP ts k2).bind fun hi k3 => (wantP ts false [93] k3).bind fun _ k4 => .ok ⟨lo, hi⟩ k4 by rw [r.out, hn1] <;> rfl); clear hn1
   go_wp2_with fail
   refine a.out.mono ?_
   rintro e wq1 ⟨c, y, D⟩
   cases c
   have z := hI (I.out.grown y.out l.out)
   go_upto_region 5 with (fail)
   obtain ⟨am, n, o, B⟩ := aX wq1 26 #[.int .i64 lo.1, .int .i64 lo.2]; rw [← n]; clear n; obtain ⟨E, p⟩ := eX (wq1.heap.size); have P := hI (show some E ≠ some g from fun e => by have := D.out.gl; injection e with e; omega); have an : w.heap.size < E := (by rw [p]; exact z.out.lt); rw [← p] at B ⊢; clear p; have ab := hI (grown_tr (grown_tr x.out y.out) (grown_of (some g) o.out)); have a := hI (pWant (D.out.belowW o.out) (by omega) [44] false (by decide))
   cases hn3 : wantP ts false [44] k1 with
   | out =>
    rw [hn3] at a; clear hn3
    go_wp2_with fail
    refine a.out.mono ?_
    rintro e w9 c
    exact c.elim
   | bad ln co er =>
    rw [hn3] at a; have i := hI (show d = .bad ln co er by rw [C.out, hn3] <;> rfl); clear hn3
    go_wp2_with fail
    refine a.out.mono ?_
    rintro e w9 ⟨rfl, j⟩
    go_wp2_with fail
    rw [i.out]
    exact ⟨rfl, prp_bad (hI (grown_tr ab.out j.out))⟩
   | ok u1 k2 =>
    rw [hn3] at a; have a9 := (want_fw (ts := ts) false [44] k1) _ _ hn3; have ac := hI (show d = (valP ts k2).bind fun hi k3 => (wantP ts false [93] k3).bind fun _ k4 => .ok ⟨lo, hi⟩ k4 by rw [C.out, hn3] <;> rfl); clear hn3
    go_wp2_with fail
    refine a.out.mono ?_
    rintro e wq3 ⟨c, Q, a2⟩
    cases c
    have ad := hI (grown_tr ab.out Q.out); have a := hI (pValue a2.out (by omega) hR)
    cases hn4 : valP ts k2 with
    | out =>
     rw [hn4] at a; clear hn4
     go_wp2_with fail
     refine a.out.mono ?_
     rintro e w9 c
     exact c.elim
    | bad ln co er =>
     rw [hn4] at a; have i := hI (show d = .bad ln co er by rw [ac.out, hn4] <;> rfl); clear hn4
     go_wp2_with fail
     refine a.out.mono ?_
     rintro e w9 ⟨rfl, j⟩
     go_wp2_with fail
     rw [i.out]
     exact ⟨rfl, prp_bad (hI (grown_tr ad.out j.out))⟩
    | ok hi k3 =>
     rw [hn4] at a; have ba := (val_fw (ts := ts) k2) _ _ hn4; have ae := hI (show d = (wantP ts false [93] k3).bind fun _ k4 => .ok ⟨lo, hi⟩ k4 by rw [ac.out, hn4] <;> rfl); clear hn4
     go_wp2_with fail
     refine a.out.mono ?_
     rintro e wq4 ⟨c, R, af⟩
     cases c
     have ag := hI (((z.out.belowW o.out).grown Q.out l.out).grown R.out l.out)
     go_upto_region 7 with (fail)
     obtain ⟨bb, n, F, ah⟩ := aX wq4 26 #[.int .i64 hi.1, .int .i64 hi.2]; rw [← n]; clear n; obtain ⟨gb, S⟩ := eX (wq4.heap.size); have a3 := hI (show some gb ≠ some g from fun e => by have := af.out.gl; injection e with e; omega); have bc : w.heap.size < gb := (by rw [S]; exact ag.out.lt); rw [← S] at ah ⊢; clear S; have aj := hI (grown_tr (grown_tr ad.out R.out) (grown_of (some g) F.out)); have a := hI (pWant (af.out.belowW F.out) (by omega) [93] false (by decide))
     cases hn6 : wantP ts false [93] k3 with
     | out =>
      rw [hn6] at a; clear hn6
      go_wp2_with fail
      refine a.out.mono ?_
      rintro e w9 c
      exact c.elim
     | bad ln co er =>
      rw [hn6] at a; have i := hI (show d = .bad ln co er by rw [ae.out, hn6] <;> rfl); clear hn6
      go_wp2_with fail
      refine a.out.mono ?_
      rintro e w9 ⟨rfl, j⟩
      go_wp2_with fail
      rw [i.out]
      exact ⟨rfl, prp_bad (hI (grown_tr aj.out j.out))⟩
     | ok u2 k4 =>
      rw [hn6] at a; have bd := (want_fw (ts := ts) false [93] k3) _ _ hn6; have a4 := hI (show d = .ok ⟨lo, hi⟩ k4 by rw [ae.out, hn6] <;> rfl); clear hn6
      go_wp2_with fail
      refine a.out.mono ?_
      rintro e wq6 ⟨c, G, a5⟩
      cases c
      have T := hI ((ag.out.belowW F.out).grown G.out l.out); obtain ⟨ao, ap, aq, ar, au, av, aw, ax⟩ := T.out.all4; obtain ⟨ay, az, a0, a1⟩ := ((((B.out.grown Q.out P.out).grown R.out P.out).belowW F.out).grown G.out P.out).all2; obtain ⟨be, bf, bg, bh⟩ := (ah.out.grown G.out a3.out).all2
      go_wp2_with fail
      rw [pst4 T.out]; obtain ⟨L, _, M, _, N, _, O, _⟩ := (T.out.put #[.int .i64 lo.1, .int .i64 lo.2, .int .i64 hi.1, .int .i64 hi.2]).all4
      refine bodyPost_ret (v := .agg #[.int .i64 lo.1, .int .i64 lo.2, .int .i64 hi.1, .int .i64 hi.2]) (by simp [results, Tryz.results67, go_sem, L, M, N, O]) rfl ?_
      rw [a4.out]
      exact ⟨rfl, hI (grown_new (grown_tr aj.out G.out) (Nat.le_refl _) _ _), hI (a5.out.far Y Z _ _)⟩

theorem pDecl {w0 w : World} {g : Nat} {A : Option Addr} {len cap : Nat} {ts : List Tok} {k m : Nat} (h : Env w0 g A len cap ts k m w) (hk : k ≤ 105000) (hR : RX w0) : Calls Tryz.prog 111 #[.pointer (some ⟨g, 0, none⟩)] w (PRP DcV w0 g A len cap ts m (declP nameP ts k) w) := by
 obtain ⟨d, s⟩ := eX (declP nameP ts k)
 have ai := hI s
 rw [← s]
 clear s
 have ax : ts.length ≤ 100000 := by have := h.t.hl; have := h.t.hs; omega
 go_enter Tryz.func111, Tryz.ntmps111
 go_upto_region 1 with (fail)
 obtain ⟨w1, G, H, F1⟩ := aX w 76 #[.string ⟨#[]⟩, .int .i64 0, .int .i64 0, .int .i64 0, .int .i64 0]
 rw [← G]
 clear G
 have l := hI (show some w.heap.size ≠ some g from fun e => by have := h.gl; injection e with e; omega)
 have ak : w.heap.size ≠ g := fun e => l.out (by rw [e])
 have I : w0.heap.size ≤ w.heap.size := h.b.size
 have al := hI (h.belowW H.out)
 have J := hI (grown_of (some g) H.out)
 clear h
 have L := hI (show d = (nmR nameP ts k).bind fun n k1 => (wantP ts true kIn k1).bind fun _ k2 => (spanP ts k2).bind fun r k3 => (wantP ts false [59] k3).bind fun _ k4 => .ok ⟨n, r⟩ k4 from ai.out)
 have a := hI (pNm al.out (by omega))
 cases hn1 : nmR nameP ts k with
 | out =>
  rw [hn1] at a; clear hn1
  go_wp2_with fail
  refine a.out.mono ?_
  rintro e w9 c
  exact c.elim
 | bad ln co er =>
  rw [hn1] at a; have i := hI (show d = .bad ln co er by rw [L.out, hn1] <;> rfl); clear hn1
  go_wp2_with fail
  refine a.out.mono ?_
  rintro e w9 ⟨rfl, j⟩
  go_wp2_with fail
  rw [i.out]
  exact ⟨rfl, prp_bad (hI (grown_tr J.out j.out))⟩
 | ok n k1 =>
  rw [hn1] at a; have az := (nmR_fw (nm := nameP) (ts := ts) k) _ _ hn1; have M := hI (show d = (wantP ts true kIn k1).bind fun _ k2 => (spanP ts k2).bind fun r k3 => (wantP ts false [59] k3).bind fun _ k4 => .ok ⟨n, r⟩ k4 by rw [L.out, hn1] <;> rfl); clear hn1
  go_wp2_with fail
  refine a.out.mono ?_
  rintro e wq1 ⟨c, N, O⟩
  cases c
  have P := hI (F1.out.grown N.out l.out)
  go_upto_region 2 with (fail)
  obtain ⟨a0, o, u, Q⟩ := aX wq1 76 #[.string ⟨n.toArray⟩, .int .i64 0, .int .i64 0, .int .i64 0, .int .i64 0]; rw [← o]; clear o; obtain ⟨p, x⟩ := eX (wq1.heap.size); have q := hI (show some p ≠ some g from fun e => by have := O.out.gl; injection e with e; omega); have y : w.heap.size < p := (by rw [x]; exact P.out.lt); rw [← x] at Q ⊢; clear x; have R := hI (grown_tr (grown_tr J.out N.out) (grown_of (some g) u.out)); have a := hI (pWant (O.out.belowW u.out) (by omega) kIn true (by decide))
  cases hn3 : wantP ts true kIn k1 with
  | out =>
   rw [hn3] at a; clear hn3
   go_wp2_with fail
   refine a.out.mono ?_
   rintro e w9 c
   exact c.elim
  | bad ln co er =>
   rw [hn3] at a; have i := hI (show d = .bad ln co er by rw [M.out, hn3] <;> rfl); clear hn3
   go_wp2_with fail
   refine a.out.mono ?_
   rintro e w9 ⟨rfl, j⟩
   go_wp2_with fail
   rw [i.out]
   exact ⟨rfl, prp_bad (hI (grown_tr R.out j.out))⟩
  | ok u1 k2 =>
   rw [hn3] at a; have a1 := (want_fw (ts := ts) true kIn k1) _ _ hn3; have S := hI (show d = (spanP ts k2).bind fun r k3 => (wantP ts false [59] k3).bind fun _ k4 => .ok ⟨n, r⟩ k4 by rw [M.out, hn3] <;> rfl); clear hn3
   go_wp2_with fail
   refine a.out.mono ?_
   rintro e wq3 ⟨c, z, am⟩
   cases c
   have T := hI (grown_tr R.out z.out); have a := hI (pSpan am.out (by omega) hR)
   cases hn4 : spanP ts k2 with
   | out =>
    rw [hn4] at a; clear hn4
    go_wp2_with fail
    refine a.out.mono ?_
    rintro e w9 c
    exact c.elim
   | bad ln co er =>
    rw [hn4] at a; have i := hI (show d = .bad ln co er by rw [S.out, hn4] <;> rfl); clear hn4
    go_wp2_with fail
    refine a.out.mono ?_
    rintro e w9 ⟨rfl, j⟩
    go_wp2_with fail
    rw [i.out]
    exact ⟨rfl, prp_bad (hI (grown_tr T.out j.out))⟩
   | ok r k3 =>
    rw [hn4] at a; have a2 := (span_fw (ts := ts) k2) _ _ hn4; have U := hI (show d = (wantP ts false [59] k3).bind fun _ k4 => .ok ⟨n, r⟩ k4 by rw [S.out, hn4] <;> rfl); clear hn4
    go_wp2_with fail
    refine a.out.mono ?_
    rintro e wq4 ⟨c, B, an⟩
    cases c
    have C := hI ((Q.out.grown z.out q.out).grown B.out q.out); obtain ⟨V, W, X, Y, Z, aa, ab, ac, ad, ae⟩ := C.out.all5
    go_upto_region 4 with (fail)
    rw [pst14 C.out]; have af := hI (C.out.put #[.string ⟨n.toArray⟩, .int .i64 r.lo.1, .int .i64 r.lo.2, .int .i64 r.hi.1, .int .i64 r.hi.2]); have D := hI (grown_new (grown_tr T.out B.out) (Nat.le_of_lt y) 76 #[.string ⟨n.toArray⟩, .int .i64 r.lo.1, .int .i64 r.lo.2, .int .i64 r.hi.1, .int .i64 r.hi.2]); have ag := hI (an.out.far (r := p) (fun e => q.out (by rw [e])) (Nat.le_trans I (Nat.le_of_lt y)) 76 #[.string ⟨n.toArray⟩, .int .i64 r.lo.1, .int .i64 r.lo.2, .int .i64 r.hi.1, .int .i64 r.hi.2]); have ah := hI ((((P.out.belowW u.out).grown z.out l.out).grown B.out l.out).far (t' := 76) (Nat.ne_of_lt y) #[.string ⟨n.toArray⟩, .int .i64 r.lo.1, .int .i64 r.lo.2, .int .i64 r.hi.1, .int .i64 r.hi.2]); obtain ⟨a3, o⟩ := eX (putB wq4 p 76 #[.string ⟨n.toArray⟩, .int .i64 r.lo.1, .int .i64 r.lo.2, .int .i64 r.hi.1, .int .i64 r.hi.2]); rw [← o] at D ag ah af ⊢; clear o V W X Y Z aa ab ac ad ae; have a := hI (pWant ag.out (by omega) [59] false (by decide))
    cases hn6 : wantP ts false [59] k3 with
    | out =>
     rw [hn6] at a; clear hn6
     go_wp2_with fail
     refine a.out.mono ?_
     rintro e w9 c
     exact c.elim
    | bad ln co er =>
     rw [hn6] at a; have i := hI (show d = .bad ln co er by rw [U.out, hn6] <;> rfl); clear hn6
     go_wp2_with fail
     refine a.out.mono ?_
     rintro e w9 ⟨rfl, j⟩
     go_wp2_with fail
     rw [i.out]
     exact ⟨rfl, prp_bad (hI (grown_tr D.out j.out))⟩
    | ok u2 k4 =>
     rw [hn6] at a; have a4 := (want_fw (ts := ts) false [59] k3) _ _ hn6; have ao := hI (show d = .ok ⟨n, r⟩ k4 by rw [U.out, hn6] <;> rfl); clear hn6
     go_wp2_with fail
     refine a.out.mono ?_
     rintro e wq6 ⟨c, E, ap⟩
     cases c
     have F := hI (ah.out.grown E.out l.out); obtain ⟨a5, a6, a7, a8, a9, ba, bb, bc, bd, be⟩ := F.out.all5; obtain ⟨V, W, X, Y, Z, aa, ab, ac, ad, ae⟩ := (af.out.grown E.out q.out).all5
     go_wp2_with fail
     rw [pst5 F.out]; obtain ⟨z0, _, z1, _, z2, _, z3, _, z4, _⟩ := (F.out.put #[.string ⟨n.toArray⟩, .int .i64 r.lo.1, .int .i64 r.lo.2, .int .i64 r.hi.1, .int .i64 r.hi.2]).all5
     refine bodyPost_ret (v := .agg #[.string ⟨n.toArray⟩, .int .i64 r.lo.1, .int .i64 r.lo.2, .int .i64 r.hi.1, .int .i64 r.hi.2]) (by simp [results, Tryz.results111, go_sem, z0, z1, z2, z3, z4]) rfl ?_
     rw [ao.out]
     exact ⟨rfl, hI (grown_new (grown_tr D.out E.out) (Nat.le_refl _) _ _), hI (ap.out.far ak I _ _)⟩
end Go.Proofs.YtkjoohnndobjeaaGreatDoor
