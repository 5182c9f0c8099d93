/-
  The walk of the parser's problems.
-/
import Derived.Test.YtkjoohnndobjeaaGreatDoorPbE
set_option linter.unusedVariables false
namespace Go.Proofs.YtkjoohnndobjeaaGreatDoor
open Go.RowKit Go.Fl Go.Fl.Lx Go.Fl.Nm Go.Fl.Fm Go.Fl.Rt Go.Fl.Pa
open List (setIfInBounds_toArray set_cons_zero set_cons_succ getElem_toArray getElem_cons_zero getElem_cons_succ)
def PbN.pl (x : PbN) : PbP := ⟨x.st.map DcN.pl, x.pa.map DcN.pl, x.ms.map MdN.pl, (x.t, x.u)⟩
structure PzP (P : Nat → Prop) (w : World) (x : PbN) : Prop where
  hs : LiL 5 DcN.cells PzD P w x.A x.n x.c x.st
  hp : LiL 5 DcN.cells PzD P w x.B x.m x.d x.pa
  hm : LiL 3 MdN.cells PzM P w x.C x.k x.e x.ms
  t1 : -9223372036854775808 ≤ x.t
  t2 : x.t ≤ 9223372036854775807
  u1 : -9223372036854775808 ≤ x.u
  u2 : x.u ≤ 9223372036854775807
theorem pzP : PzOk PzP := ⟨fun h hr hg => ⟨h.hs.mv pzD hr hg, h.hp.mv pzD hr hg, h.hm.mv pzM hr hg, h.t1, h.t2, h.u1, h.u2⟩, fun h hC => ⟨h.hs.weaken pzD hC, h.hp.weaken pzD hC, h.hm.weaken pzM hC, h.t1, h.t2, h.u1, h.u2⟩, fun h => ⟨h.hs.lt pzD, h.hp.lt pzD, h.hm.lt pzM, h.t1, h.t2, h.u1, h.u2⟩⟩
theorem PzP.toP {P : Nat → Prop} {w : World} {x : PbN} (h : PzP P w x) : InP w x := ⟨inl_mono h.hs.il (fun z _ hz => hz), inl_mono h.hp.il (fun z _ hz => hz), inl_mono h.hm.il (fun z _ hz => PzM.toM hz), h.t1, h.t2, h.u1, h.u2⟩
end Go.Proofs.YtkjoohnndobjeaaGreatDoor
