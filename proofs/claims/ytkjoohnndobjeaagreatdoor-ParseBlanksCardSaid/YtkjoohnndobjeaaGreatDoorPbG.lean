/-
  The closures of parse.Problem and parse.Range.
-/
import Derived.Test.YtkjoohnndobjeaaGreatDoorPbF
import Derived.Test.YtkjoohnndobjeaaGreatDoorQT
import Derived.Test.YtkjoohnndobjeaaGreatDoorQL
import Derived.Test.YtkjoohnndobjeaaGreatDoorQX
set_option linter.unusedVariables false
set_option maxHeartbeats 4000000
set_option maxRecDepth 100000
namespace Go.Proofs.YtkjoohnndobjeaaGreatDoor
open Go.RowKit Go.Fl Go.Fl.Lx Go.Fl.Nm Go.Fl.Fm Go.Fl.Rt Go.Fl.Pa
open List (setIfInBounds_toArray set_cons_zero set_cons_succ getElem_toArray getElem_cons_zero getElem_cons_succ)
theorem all_map_ok {Z Y : Type} (f : Z → Y) (p : Z → Bool) (q : Y → Bool) (zs : List Z) (h : ∀ z ∈ zs, p z = q (f z)) : zs.all p = (zs.map f).all q := by
 induction zs with
 | nil => rfl
 | cons z zs ih =>
  rw [List.all_cons, List.map_cons, List.all_cons, h z (by simp), ih (fun y hy => h y (by simp [hy]))]
theorem DcN.ok_pl (x : DcN) : x.ok = x.pl.ok := rfl
theorem EqN.ok_pl (x : EqN) : x.ok = x.pl.ok := rfl
theorem dec_cast (n m : Nat) : decide ((n : Int) ≤ (m : Int)) = decide (n ≤ m) := by
 by_cases h : n ≤ m
 ·
  rw [decide_eq_true h, decide_eq_true (by omega)]
 rw [decide_eq_false h, decide_eq_false (by omega)]
theorem EdN.ok_pl {w : World} {x : EdN} (h : InG w x) : x.ok = x.pl.ok := by
 unfold EdN.ok EdP.ok EdN.dirB EdN.pl
 simp only
 rw [all_map_ok EqN.pl EqN.ok EqP.ok x.rs (fun z _ => EqN.ok_pl z), List.length_map, h.hr.hl]
 congr 3
 rw [← dec_cast]
 rfl
theorem MdN.ok_pl {w : World} {x : MdN} (h : InM w x) : x.ok = x.pl.ok := by
 unfold MdN.ok MdP.ok MdN.pl
 simp only
 rw [all_map_ok EqN.pl EqN.ok EqP.ok x.fl (fun z _ => EqN.ok_pl z), all_map_ok EdN.pl EdN.ok EdP.ok x.ed (fun z hz => EdN.ok_pl (h.he.hi z hz)), List.length_map, List.length_map, h.hf.hl, h.he.hl, ← dec_cast, ← dec_cast]
 rfl
theorem PbN.ok_pl {w : World} {x : PbN} (h : InP w x) : x.ok = x.pl.ok := by
 unfold PbN.ok PbP.ok PbN.sz PbN.pl
 simp only
 rw [all_map_ok DcN.pl DcN.ok DcP.ok x.st (fun z _ => DcN.ok_pl z), all_map_ok DcN.pl DcN.ok DcP.ok x.pa (fun z _ => DcN.ok_pl z), all_map_ok MdN.pl MdN.ok MdP.ok x.ms (fun z hz => MdN.ok_pl (h.hm.hi z hz)), List.length_map, List.length_map, List.length_map, h.hs.hl, h.hp.hl, h.hm.hl]
/-- What was read lies in blocks from B on. -/
structure InXP (B : Nat) (w : World) (T : PbP) (v : PbN) : Prop where
  pl : v.pl = T
  z : PzP (fun b => B ≤ b) w v
theorem InXP.belowW {B : Nat} {w w' : World} {T : PbP} {v : PbN} (h : InXP B w T v) (hb : Below w.heap.size w w') : InXP B w' T v := ⟨h.pl, pzP.mv h.z (fun b _ e => by cases e) (grown_none (Nat.le_refl _) hb)⟩
theorem InXP.b9 {B : Nat} {w w' : World} {T : PbP} {v : PbN} (h : InXP B w T v) (hb : Go.RowKit.Hid (Go.RowKit.Below w.heap.size w w')) : Go.RowKit.Hid (InXP B w' T v) := hI (InXP.belowW h hb.out)
theorem InXP.far {B r : Nat} {w : World} {T : PbP} {v : PbN} (h : InXP B w T v) (hr : r < B) (t : TypeId) (V : Array Value) : InXP B (putB w r t V) T v := ⟨h.pl, pzP.mv h.z (fun b hb e => by injection e with e; omega) (putB_grown w r t V)⟩
theorem InXP.weaken {B C : Nat} {w : World} {T : PbP} {v : PbN} (h : InXP B w T v) (hC : C ≤ B) : InXP C w T v := ⟨h.pl, pzP.weaken h.z (fun b hb => Nat.le_trans hC hb)⟩
theorem InXP.ok {B : Nat} {w : World} {T : PbP} {v : PbN} (h : InXP B w T v) : v.ok = T.ok := by rw [← h.pl]; exact PbN.ok_pl h.z.toP
structure InXR (B : Nat) (w : World) (T v : RgP) : Prop where
  pl : v = T
theorem InXR.belowW {B : Nat} {w w' : World} {T v : RgP} (h : InXR B w T v) (hb : Below w.heap.size w w') : InXR B w' T v := ⟨h.pl⟩
theorem InXR.b9 {B : Nat} {w w' : World} {T v : RgP} (h : InXR B w T v) (hb : Go.RowKit.Hid (Go.RowKit.Below w.heap.size w w')) : Go.RowKit.Hid (InXR B w' T v) := hI (InXR.belowW h hb.out)
theorem InXR.far {B r : Nat} {w : World} {T v : RgP} (h : InXR B w T v) (hr : r < B) (t : TypeId) (V : Array Value) : InXR B (putB w r t V) T v := ⟨h.pl⟩
theorem InXR.weaken {B C : Nat} {w : World} {T v : RgP} (h : InXR B w T v) (hC : C ≤ B) : InXR C w T v := ⟨h.pl⟩
theorem pst4 {w : World} {g : Nat} {t : TypeId} {a b c d : Value} (hB : Blk w g t #[a, b, c, d]) (a' b' c' d' : Value) :
 (((w.setCell ⟨g, 0, none⟩ a').setCell ⟨g, 1, none⟩ b').setCell ⟨g, 2, none⟩ c').setCell ⟨g, 3, none⟩ d' = putB w g t #[a', b', c', d'] := by
 rw [hB.setCell_eq 0 a', (hB.put _).setCell_eq 1 b', putB_putB, (hB.put _).setCell_eq 2 c', putB_putB, (hB.put _).setCell_eq 3 d', putB_putB]
 rfl
/-- What the closure that reads it does. -/
def Problem1P (g : Nat) (A : Option Addr) (len cap : Nat) (ts : List Tok) (bx : Nat) (r : PR PbP) (w : World) (e : Ending) (w' : World) : Prop :=
  match r with
  | .ok T k1 => ∃ (v : PbN) (w1 : World), e = .returned (.bool (PbP.ok T)) ∧ Hid (Blk w' bx 68 #[.slice v.A v.n v.c, .slice v.B v.m v.d, .slice v.C v.k v.e, .int .i64 v.t, .int .i64 v.u]) ∧ Hid (InXP w.heap.size w' T v) ∧ Hid (Env w1 g A len cap ts k1 0 w') ∧ Hid (Gr2 w w' g bx)
  | .bad ln co er => e = pan ln co er ∧ Hid (Gr2 w w' g bx)
  | .out => False
theorem e1_Problem_bad {g : Nat} {A : Option Addr} {len cap : Nat} {ts : List Tok} {bx ln co er : Nat} {w w' : World} (h : Hid (Gr2 w w' g bx)) : Problem1P g A len cap ts bx (.bad ln co er) w (pan ln co er) w' := ⟨rfl, h⟩
theorem pProblem1 {w0 w : World} {g : Nat} {A : Option Addr} {len cap : Nat} {ts : List Tok} (h : Env w0 g A len cap ts 0 0 w) (hR : RX w0) (hX : FX w0) (hD : DigTs ts) (bx : Nat) (hbx : bx < w0.heap.size) (hB : Blk w0 bx 68 #[.slice none 0 0, .slice none 0 0, .slice none 0 0, .int .i64 0, .int .i64 0])
 (hA : 0 < len → ∀ b o, A = some ⟨b, o, none⟩ → b ≠ bx) :
 Calls Tryz.prog 68 #[.pointer (some ⟨g, 0, none⟩), .pointer (some ⟨bx, 0, none⟩)] w (Problem1P g A len cap ts bx (probP nameP ts 0) w) := by
 have l := hI (pProblem h (Nat.zero_le _) hR hX hD)
 have s := prob_no (nm := nameP) (ts := ts) 0 (Nat.zero_le _)
 have x := hI (hB.belowW h.b)
 have V : bx ≠ g := by have := h.lo; omega
 have W := hI (show some bx ≠ some g from fun e => V (Option.some.inj e))
 have X : bx < w.heap.size := Blk.lt x.out
 obtain ⟨r, y⟩ := eX (probP nameP ts 0)
 rw [← y] at l s ⊢
 have Y := hI hA
 clear h hB hR hX y hA
 cases r with
 | out => exact (s rfl).elim
 | bad ln co er =>
  go_enter Tryz.func68, Tryz.ntmps68
  go_wp2_with fail
  refine l.out.mono ?_
  rintro e w1 ⟨rfl, a⟩
  go_wp2_with fail
  exact ⟨rfl, e1_Problem_bad (hI (Gr2.of (r := bx) a.out))⟩
 | ok T k1 =>
  go_enter Tryz.func68, Tryz.ntmps68
  go_wp2_with fail
  refine l.out.mono ?_
  rintro e w1 ⟨⟨v, rfl, D, E⟩, a, Z⟩; have aa := hI (show InXP w.heap.size w1 T v from ⟨D, E.out⟩); clear D E; have p := hI (x.out.grown a.out W.out); obtain ⟨F, G, H, I, J, L, M, N, O, P⟩ := p.out.all5
  go_upto_region 2 with (fail)
  rw [pst5 p.out]; have q := hI (p.out.put #[.slice v.A v.n v.c, .slice v.B v.m v.d, .slice v.C v.k v.e, .int .i64 v.t, .int .i64 v.u]); have Q := hI (Z.out.store hbx Y.out 68 #[.slice v.A v.n v.c, .slice v.B v.m v.d, .slice v.C v.k v.e, .int .i64 v.t, .int .i64 v.u]); have i := hI (aa.out.far X 68 #[.slice v.A v.n v.c, .slice v.B v.m v.d, .slice v.C v.k v.e, .int .i64 v.t, .int .i64 v.u]); have R := hI (Gr2.put (Gr2.of (r := bx) a.out) 68 #[.slice v.A v.n v.c, .slice v.B v.m v.d, .slice v.C v.k v.e, .int .i64 v.t, .int .i64 v.u]); obtain ⟨S, U⟩ := eX (putB w1 bx 68 #[.slice v.A v.n v.c, .slice v.B v.m v.d, .slice v.C v.k v.e, .int .i64 v.t, .int .i64 v.u]); rw [← U] at q Q i R ⊢; clear U F G H I J L M N O P; obtain ⟨F, G, H, I, J, L, M, N, O, P⟩ := q.out.all5
  go_wp2_with fail
  refine (show Calls Tryz.prog 70 #[.agg #[.slice v.A v.n v.c, .slice v.B v.m v.d, .slice v.C v.k v.e, .int .i64 v.t, .int .i64 v.u]] S _ from tproblem_p v S i.out.z.toP).mono ?_
  rintro e w3 ⟨rfl, j⟩
  go_wp2_with fail
  go_ret
  exact ⟨v, _, by rw [← i.out.ok]; rfl, q.out.b9 j, i.out.b9 j, Q.out.b9 j, hI (R.out.tr j.out)⟩

end Go.Proofs.YtkjoohnndobjeaaGreatDoor
