/-
  The walk of the law's problems.
-/
import Derived.Test.YtkjoohnndobjeaaGreatDoorPbM
import Derived.Test.YtkjoohnndobjeaaGreatDoorPbF
import Derived.Laws.EntriesVeiled
set_option linter.unusedVariables false
set_option maxHeartbeats 4000000
set_option maxRecDepth 100000
namespace Go.Proofs.YtkjoohnndobjeaaGreatDoor
open Go.RowKit Go.Fl Go.Fl.Lx Go.Fl.Nm Go.Fl.Fm Go.Fl.Rt Go.Fl.Pa
open List (setIfInBounds_toArray set_cons_zero set_cons_succ getElem_toArray getElem_cons_zero getElem_cons_succ)

theorem probs_any (x y : PbN) (w : World) (hx : InP w x) (hy : InP w y) : Calls Tryz.prog 39 #[x.val, y.val] w (EqR x.pl y.pl w) := by
 have R := hI hx
 have S := hI hy
 clear hx hy
 obtain ⟨c1, ag⟩ : ∃ c, ((x.t == y.t) && (x.u == y.u)) = c := ⟨_, rfl⟩
 have ba := run_eq_rat
 have bb : ∀ (fn : Fn) (first cap : Array Value) (w : World), (Instr.makeFunc fn first cap).run Tryz.prog w = .ok (.func fn first cap) w := fun _ _ _ _ => rfl
 have J := hI (show x.pl = y.pl ↔ x.st.map DcN.pl = y.st.map DcN.pl ∧ x.pa.map DcN.pl = y.pa.map DcN.pl ∧ x.ms.map MdN.pl = y.ms.map MdN.pl ∧ c1 = true from ⟨fun e => by
  injection e with e1 e2 e3 e4; injection e4 with e4 e5
  exact ⟨e1, e2, e3, by rw [← ag, e4, e5]; simp⟩, fun e => by
  obtain ⟨st, pa, ms, T⟩ := e; rw [← ag, Bool.and_eq_true, beq_iff_eq, beq_iff_eq] at T
  unfold PbN.pl
  rw [st, pa, ms, T.1, T.2]⟩)
 go_enter Tryz.func39, Tryz.ntmps39
 go_upto_region 1 with (fail)
 obtain ⟨a, L⟩ := eX ((w.alloc (Obj.cells #[.slice x.A x.n x.c, .slice x.B x.m x.d, .slice x.C x.k x.e, .int .i64 x.t, .int .i64 x.u] 68)).alloc (Obj.cells #[.slice y.A y.n y.c, .slice y.B y.m y.d, .slice y.C y.k y.e, .int .i64 y.t, .int .i64 y.u] 68))
 have HW := hI (show Below w.heap.size w a by rw [L]; exact (below_box _ _).trans ((below_box _ _).mono (by simp)))
 have E1 := hI (show Blk a w.heap.size 68 #[.slice x.A x.n x.c, .slice x.B x.m x.d, .slice x.C x.k x.e, .int .i64 x.t, .int .i64 x.u] by rw [L]; exact (Blk.new w 68 #[.slice x.A x.n x.c, .slice x.B x.m x.d, .slice x.C x.k x.e, .int .i64 x.t, .int .i64 x.u]).belowW (below_box _ _))
 have E2 := hI (show Blk a (w.heap.size + 1) 68 #[.slice y.A y.n y.c, .slice y.B y.m y.d, .slice y.C y.k y.e, .int .i64 y.t, .int .i64 y.u] by rw [L]; exact (by have := Blk.new (w.alloc (Obj.cells #[.slice x.A x.n x.c, .slice x.B x.m x.d, .slice x.C x.k x.e, .int .i64 x.t, .int .i64 x.u] 68)) 68 #[.slice y.A y.n y.c, .slice y.B y.m y.d, .slice y.C y.k y.e, .int .i64 y.t, .int .i64 y.u]; simpa using this))
 rw [← L]
 clear L
 obtain ⟨b, _, g, _, i, _, j, _, l, _⟩ := E1.out.all5
 obtain ⟨o, _, p, _, q, _, r, _, s, _⟩ := E2.out.all5
 go_upto_region 5 with (fail)
 obtain ⟨U, V⟩ := eX (a.heap.size)
 obtain ⟨M, W⟩ := eX (U)
 obtain ⟨v, X⟩ := eX (U + 1)
 obtain ⟨N, Y⟩ := eX (U + 1 + 1)
 have O : a.heap.size = M ∧ (a.alloc (Obj.cells #[.func (.func 72) #[] #[]] 123)).heap.size = v ∧ ((a.alloc (Obj.cells #[.func (.func 72) #[] #[]] 123)).alloc (Obj.cells #[.func (.func 73) #[] #[]] 124)).heap.size = N := by refine ⟨?_, ?_, ?_⟩ <;> simp only [World.size_alloc, ← V, X, W, Y]
 try rw [← V]
 try simp only [← Y]
 try simp only [← X]
 try simp only [← W]
 obtain ⟨w9, z⟩ := eX ((((a.alloc (Obj.cells #[.func (.func 72) #[] #[]] 123)).alloc (Obj.cells #[.func (.func 73) #[] #[]] 124)).alloc (Obj.cells #[.func (.func 74) #[] #[.pointer (some ⟨v, 0, none⟩)]] 126)))
 have Z := hI (show Below a.heap.size a w9 by rw [z]; exact ((below_box _ _).trans ((below_box _ _).mono (by simp))).trans ((below_box _ _).mono (by simp; omega)))
 have aj := hI (show Blk w9 M 123 #[.func (.func 72) #[] #[]] by rw [z, ← O.1]; exact ((Blk.new a 123 #[.func (.func 72) #[] #[]]).belowW (below_box _ _)).belowW (below_box _ _))
 have ak := hI (show Blk w9 v 124 #[.func (.func 73) #[] #[]] by rw [z, ← O.2.1]; exact (Blk.new (a.alloc (Obj.cells #[.func (.func 72) #[] #[]] 123)) 124 #[.func (.func 73) #[] #[]]).belowW (below_box _ _))
 have al := hI (show Blk w9 N 126 #[.func (.func 74) #[] #[.pointer (some ⟨v, 0, none⟩)]] by rw [z, ← O.2.2]; exact Blk.new ((a.alloc (Obj.cells #[.func (.func 72) #[] #[]] 123)).alloc (Obj.cells #[.func (.func 73) #[] #[]] 124)) 126 #[.func (.func 74) #[] #[.pointer (some ⟨v, 0, none⟩)]])
 rw [← z]
 have aa := HW.out.t Z
 have am := E1.out.b9 Z
 have an := E2.out.b9 Z
 clear z O X Y W V b o g p i q j r l s
 obtain ⟨b, _, g, _, i, _, j, _, l, _⟩ := am.out.all5
 obtain ⟨o, _, p, _, q, _, r, _, s, _⟩ := an.out.all5
 obtain ⟨D, _⟩ := ak.out.all1
 obtain ⟨E, _⟩ := aj.out.all1
 obtain ⟨F, _⟩ := al.out.all1
 go_wp2_with fail
 refine (eqd_any x.A x.n x.c x.st y.A y.n y.c y.st w9 (InD.list R.out.hs aa.out) (InD.list S.out.hs aa.out)).mono ?_
 rintro e w21 ⟨a4, rfl, ao, G⟩
 have P := aa.out.t G
 have ap := am.out.b9 G
 have aq := an.out.b9 G
 have ar := ak.out.b9 G
 have au := aj.out.b9 G
 have av := al.out.b9 G
 clear b o g p i q j r l s D E F
 obtain ⟨b, _, g, _, i, _, j, _, l, _⟩ := ap.out.all5
 obtain ⟨o, _, p, _, q, _, r, _, s, _⟩ := aq.out.all5
 obtain ⟨D, _⟩ := ar.out.all1
 obtain ⟨E, _⟩ := au.out.all1
 obtain ⟨F, _⟩ := av.out.all1
 cases a4 with
 | false =>
  go_wp2_with fail
  go_ret
  exact ⟨_, rfl, hI ⟨fun h => (by cases h), fun h => (by have := ao.out.2 ((J.out.1 h).1); cases this)⟩, P⟩
 | true =>
  have a5 := hI (ao.out.1 rfl)
  go_wp2_with fail
  refine (eqd_any x.B x.m x.d x.pa y.B y.m y.d y.pa w21 (InD.list R.out.hp P.out) (InD.list S.out.hp P.out)).mono ?_
  rintro e w22 ⟨a6, rfl, aw, H⟩; have Q := P.out.t H; have ax := ap.out.b9 H; have ay := aq.out.b9 H; have ab := ar.out.b9 H; have ac := au.out.b9 H; have ad := av.out.b9 H; clear b o g p i q j r l s D E F; obtain ⟨b, _, g, _, i, _, j, _, l, _⟩ := ax.out.all5; obtain ⟨o, _, p, _, q, _, r, _, s, _⟩ := ay.out.all5; obtain ⟨D, _⟩ := ab.out.all1; obtain ⟨E, _⟩ := ac.out.all1; obtain ⟨F, _⟩ := ad.out.all1
  cases a6 with
  | false =>
   go_wp2_with fail
   go_ret
   exact ⟨_, rfl, hI ⟨fun h => (by cases h), fun h => (by have := aw.out.2 ((J.out.1 h).2.1); cases this)⟩, Q⟩
  | true =>
   have a7 := hI (aw.out.1 rfl)
   go_wp2_with fail
   refine (pem_eqf M N x.C x.k x.e x.ms y.C y.k y.e y.ms w22 (InM.list R.out.hm Q.out) (InM.list S.out.hm Q.out) (fun x y w' hb hx hy => pem_el v M N x y w' hx hy (ab.out.belowW hb) (ac.out.belowW hb) (ad.out.belowW hb))).mono ?_
   rintro e w23 ⟨a8, rfl, az, I⟩; have ae := Q.out.t I; clear b o g p i q j r l s D E F; obtain ⟨b, _, g, _, i, _, j, _, l, _⟩ := (ax.out.belowW I.out).all5; obtain ⟨o, _, p, _, q, _, r, _, s, _⟩ := (ay.out.belowW I.out).all5; obtain ⟨D, _⟩ := (ab.out.belowW I.out).all1; obtain ⟨E, _⟩ := (ac.out.belowW I.out).all1; obtain ⟨F, _⟩ := (ad.out.belowW I.out).all1
   cases a8 with
   | false =>
    go_wp2_with fail
    go_ret
    exact ⟨_, rfl, hI ⟨fun h => (by cases h), fun h => (by have := az.out.2 ((J.out.1 h).2.2.1); cases this)⟩, ae⟩
   | true =>
    have a9 := hI (az.out.1 rfl)
    cases c1 with
    | false =>
     go_wp2_with fail
     go_ret
     exact ⟨_, rfl, hI ⟨fun h => (by cases h), fun h => (by have := (J.out.1 h).2.2.2; cases this)⟩, ae⟩
    | true =>
     go_wp2_with fail
     go_ret
     exact ⟨_, rfl, hI ⟨fun _ => J.out.2 ⟨a5.out, a7.out, a9.out, (by trivial)⟩, fun _ => rfl⟩, ae⟩
end Go.Proofs.YtkjoohnndobjeaaGreatDoor
