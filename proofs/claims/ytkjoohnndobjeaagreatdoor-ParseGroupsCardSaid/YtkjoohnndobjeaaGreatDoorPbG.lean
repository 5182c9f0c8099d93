/-
  The closures of parse.Problem and parse.Range.
-/
import Derived.Test.YtkjoohnndobjeaaGreatDoorPbF
import Derived.Test.YtkjoohnndobjeaaGreatDoorQT
import Derived.Test.YtkjoohnndobjeaaGreatDoorQL
import Derived.Test.YtkjoohnndobjeaaGreatDoorQX
set_option linter.unusedVariables false
namespace Go.Proofs.YtkjoohnndobjeaaGreatDoor
open Go.RowKit Go.Fl Go.Fl.Lx Go.Fl.Nm Go.Fl.Fm Go.Fl.Rt Go.Fl.Pa
open List (setIfInBounds_toArray set_cons_zero set_cons_succ getElem_toArray getElem_cons_zero getElem_cons_succ)
theorem all_map_ok {Z Y : Type} (f : Z → Y) (p : Z → Bool) (q : Y → Bool) (zs : List Z) (h : ∀ z ∈ zs, p z = q (f z)) : zs.all p = (zs.map f).all q := by
  induction zs with
  | nil => rfl
  | cons z zs ih =>
    rw [List.all_cons, List.map_cons, List.all_cons, h z (by simp), ih (fun y hy => h y (by simp [hy]))]
theorem DcN.ok_pl (x : DcN) : x.ok = x.pl.ok := rfl
theorem EqN.ok_pl (x : EqN) : x.ok = x.pl.ok := rfl
theorem dec_cast (n m : Nat) : decide ((n : Int) ≤ (m : Int)) = decide (n ≤ m) := by
  by_cases h : n ≤ m
  · rw [decide_eq_true h, decide_eq_true (by omega)]
  · rw [decide_eq_false h, decide_eq_false (by omega)]
theorem EdN.ok_pl {w : World} {x : EdN} (h : InG w x) : x.ok = x.pl.ok := by
  unfold EdN.ok EdP.ok EdN.dirB EdN.pl
  simp only
  rw [all_map_ok EqN.pl EqN.ok EqP.ok x.rs (fun z _ => EqN.ok_pl z), List.length_map, h.hr.hl]
  congr 3
  rw [← dec_cast]
  rfl
theorem MdN.ok_pl {w : World} {x : MdN} (h : InM w x) : x.ok = x.pl.ok := by
  unfold MdN.ok MdP.ok MdN.pl
  simp only
  rw [all_map_ok EqN.pl EqN.ok EqP.ok x.fl (fun z _ => EqN.ok_pl z), all_map_ok EdN.pl EdN.ok EdP.ok x.ed (fun z hz => EdN.ok_pl (h.he.hi z hz)), List.length_map, List.length_map, h.hf.hl, h.he.hl, ← dec_cast, ← dec_cast]
  rfl
theorem PbN.ok_pl {w : World} {x : PbN} (h : InP w x) : x.ok = x.pl.ok := by
  unfold PbN.ok PbP.ok PbN.sz PbN.pl
  simp only
  rw [all_map_ok DcN.pl DcN.ok DcP.ok x.st (fun z _ => DcN.ok_pl z), all_map_ok DcN.pl DcN.ok DcP.ok x.pa (fun z _ => DcN.ok_pl z), all_map_ok MdN.pl MdN.ok MdP.ok x.ms (fun z hz => MdN.ok_pl (h.hm.hi z hz)), List.length_map, List.length_map, List.length_map, h.hs.hl, h.hp.hl, h.hm.hl]
/-- What was read lies in blocks from B on. -/
structure InXP (B : Nat) (w : World) (T : PbP) (v : PbN) : Prop where
  pl : v.pl = T
  z : PzP (fun b => B ≤ b) w v
theorem InXP.belowW {B : Nat} {w w' : World} {T : PbP} {v : PbN} (h : InXP B w T v) (hb : Below w.heap.size w w') : InXP B w' T v := ⟨h.pl, pzP.mv h.z (fun b _ e => by cases e) (grown_none (Nat.le_refl _) hb)⟩
theorem InXP.far {B r : Nat} {w : World} {T : PbP} {v : PbN} (h : InXP B w T v) (hr : r < B) (t : TypeId) (V : Array Value) : InXP B (putB w r t V) T v := ⟨h.pl, pzP.mv h.z (fun b hb e => by injection e with e; omega) (putB_grown w r t V)⟩
theorem InXP.weaken {B C : Nat} {w : World} {T : PbP} {v : PbN} (h : InXP B w T v) (hC : C ≤ B) : InXP C w T v := ⟨h.pl, pzP.weaken h.z (fun b hb => Nat.le_trans hC hb)⟩
theorem InXP.ok {B : Nat} {w : World} {T : PbP} {v : PbN} (h : InXP B w T v) : v.ok = T.ok := by rw [← h.pl]; exact PbN.ok_pl h.z.toP
structure InXR (B : Nat) (w : World) (T v : RgP) : Prop where
  pl : v = T
theorem InXR.belowW {B : Nat} {w w' : World} {T v : RgP} (h : InXR B w T v) (hb : Below w.heap.size w w') : InXR B w' T v := ⟨h.pl⟩
theorem InXR.far {B r : Nat} {w : World} {T v : RgP} (h : InXR B w T v) (hr : r < B) (t : TypeId) (V : Array Value) : InXR B (putB w r t V) T v := ⟨h.pl⟩
theorem InXR.weaken {B C : Nat} {w : World} {T v : RgP} (h : InXR B w T v) (hC : C ≤ B) : InXR C w T v := ⟨h.pl⟩
theorem pst4 {w : World} {g : Nat} {t : TypeId} {a b c d : Value} (hB : Blk w g t #[a, b, c, d]) (a' b' c' d' : Value) :
    (((w.setCell ⟨g, 0, none⟩ a').setCell ⟨g, 1, none⟩ b').setCell ⟨g, 2, none⟩ c').setCell ⟨g, 3, none⟩ d' = putB w g t #[a', b', c', d'] := by
  rw [hB.setCell_eq 0 a', (hB.put _).setCell_eq 1 b', putB_putB, (hB.put _).setCell_eq 2 c', putB_putB, (hB.put _).setCell_eq 3 d', putB_putB]
  rfl
end Go.Proofs.YtkjoohnndobjeaaGreatDoor
