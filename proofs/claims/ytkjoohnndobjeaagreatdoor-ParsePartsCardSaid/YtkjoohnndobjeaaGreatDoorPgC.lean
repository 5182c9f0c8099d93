/-
 How the problem that is put together lies.
-/
import Derived.Test.YtkjoohnndobjeaaGreatDoorQU
import Derived.Test.YtkjoohnndobjeaaGreatDoorPbG
set_option linter.unusedVariables false
namespace Go.Proofs.YtkjoohnndobjeaaGreatDoor
open Go.RowKit Go.Fl Go.Fl.Lx Go.Fl.Nm Go.Fl.Fm Go.Fl.Rt Go.Fl.Pa
theorem map_one {α β : Type} {f : α → β} {l : List α} {b : β} (h : l.map f = [b]) : ∃ a, l = [a] ∧ f a = b := by
 match l, h with
 | [a], h => injection h with h _; exact ⟨a, rfl, h⟩
theorem map_two {α β : Type} {f : α → β} {l : List α} {b c : β} (h : l.map f = [b, c]) : ∃ a a', l = [a, a'] ∧ f a = b ∧ f a' = c := by
 match l, h with
 | [a, a'], h => injection h with h h2; injection h2 with h2 _; exact ⟨a, a', rfl, h, h2⟩
theorem str_one {s : ByteArray} {c : UInt8} (h : s.data.toList = [c]) : s = ⟨#[c]⟩ := ByteArray.ext (Array.toList_inj.1 h)
theorem dcl_of {x : DcN} {c : UInt8} {r : RgP} (h : x.pl = ⟨[c], r⟩) : x = ⟨⟨#[c]⟩, r.lo.1, r.lo.2, r.hi.1, r.hi.2⟩ := by
 obtain ⟨s, a, b, e, f⟩ := x
 injection h with h1 h2
 simp only at h1 h2
 rw [str_one h1, ← h2]
theorem eqn_of {x : EqN} {c : UInt8} {T : TE} (h : x.pl = ⟨[c], T⟩) : ∃ v, x = ⟨⟨#[c]⟩, v, T⟩ := by
 obtain ⟨s, v, T2⟩ := x
 injection h with h1 h2
 simp only at h1 h2
 subst h2
 exact ⟨v, by rw [str_one h1]⟩
theorem at0 {w : World} {b o m : Nat} {cs : List Value} (h : At w b (o + 0 * m) cs) : At w b o cs := by simpa using h
/-- How it lies: the lists' first elements. -/
structure JO (w : World) (v : PbN) (r : RgP) (X G : TE) (bs os bp op bm om bf of be oe br or : Nat) (c d e c1 d1 c2 : Nat) (m2 : MdN) (qv gv rv : Nd) : Prop where
 v : v = ⟨some ⟨bs, os, none⟩, 1, c, [⟨⟨#[120]⟩, r.lo.1, r.lo.2, r.hi.1, r.hi.2⟩], some ⟨bp, op, none⟩, 1, d, [⟨⟨#[97]⟩, r.lo.1, r.lo.2, r.hi.1, r.hi.2⟩], some ⟨bm, om, none⟩, 2, e,
  [⟨⟨#[109]⟩, some ⟨bf, of, none⟩, 1, c1, [⟨⟨#[120]⟩, qv, X⟩], some ⟨be, oe, none⟩, 1, d1, [⟨gv, G, 2, ⟨#[110]⟩, some ⟨br, or, none⟩, 1, c2, [⟨⟨#[120]⟩, rv, X⟩]⟩]⟩, m2], 3, 2⟩
 s : At w bs os [.string ⟨#[120]⟩, .int .i64 r.lo.1, .int .i64 r.lo.2, .int .i64 r.hi.1, .int .i64 r.hi.2]
 p : At w bp op [.string ⟨#[97]⟩, .int .i64 r.lo.1, .int .i64 r.lo.2, .int .i64 r.hi.1, .int .i64 r.hi.2]
 m : At w bm om [.string ⟨#[109]⟩, .slice (some ⟨bf, of, none⟩) 1 c1, .slice (some ⟨be, oe, none⟩) 1 d1]
 f : At w bf of [.string ⟨#[120]⟩, .int .i64 qv.h.kind, .int .i64 qv.h.n, .int .i64 qv.h.d, .string qv.h.name, .int .i64 qv.h.k, .slice qv.A qv.len qv.cap]
 e : At w be oe [.int .i64 gv.h.kind, .int .i64 gv.h.n, .int .i64 gv.h.d, .string gv.h.name, .int .i64 gv.h.k, .slice gv.A gv.len gv.cap, .int .i64 2, .string ⟨#[110]⟩, .slice (some ⟨br, or, none⟩) 1 c2]
 r : At w br or [.string ⟨#[120]⟩, .int .i64 rv.h.kind, .int .i64 rv.h.n, .int .i64 rv.h.d, .string rv.h.name, .int .i64 rv.h.k, .slice rv.A rv.len rv.cap]
 q : InE w X qv
 g : InE w G gv
 x : InE w X rv
theorem jo_of {w : World} {v : PbN} {r : RgP} {X G : TE} (h : InP w v) (hp : v.pl = joinP r X G) : ∃ bs os bp op bm om bf of be oe br or c d e c1 d1 c2 m2 qv gv rv, JO w v r X G bs os bp op bm om bf of be oe br or c d e c1 d1 c2 m2 qv gv rv := by
 obtain ⟨A, n, c, st, B, m, d, pa, C, k, e, ms, t, u⟩ := v
 unfold PbN.pl joinP at hp
 injection hp with h1 h2 h3 h4
 simp only at h1 h2 h3 h4
 obtain ⟨s1, rfl, J⟩ := map_one h1
 obtain ⟨p1, rfl, L⟩ := map_one h2
 obtain ⟨M, m2, rfl, N, e4⟩ := map_two h3
 injection h4 with h5 h6
 subst h5 h6
 obtain rfl := dcl_of J
 obtain rfl := dcl_of L
 have b : n = 1 := h.hs.hl.symm
 have O : m = 1 := h.hp.hl.symm
 have P : k = 2 := h.hm.hl.symm
 subst b O P
 obtain ⟨bs, os, x1, y, f, _, Q⟩ := InD.len h.hs 0 (Nat.succ_pos _)
 obtain ⟨bp, op, x2, D, g, _, R⟩ := InD.len h.hp 0 (Nat.succ_pos _)
 obtain ⟨bm, om, x3, E, i, a, S⟩ := InM.len h.hm 0 (Nat.succ_pos _)
 injection f with f
 injection g with g
 injection i with i
 subst f g i
 simp only at y D E
 obtain ⟨s, A1, b, c1, fl, B1, T, d1, ed⟩ := M
 injection N with g1 g2 g3
 simp only at g1 g2 g3
 obtain ⟨q, rfl, U⟩ := map_one g2
 obtain ⟨x, rfl, V⟩ := map_one g3
 obtain ⟨qv, rfl⟩ := eqn_of U
 have W : b = 1 := a.hf.hl.symm
 have Y : T = 1 := a.he.hl.symm
 subst W Y
 obtain ⟨bf, of, y1, F, j, Z, a4⟩ := InQ.len a.hf 0 (Nat.succ_pos _)
 obtain ⟨be, oe, y2, H, l, o, a5⟩ := InG.len a.he 0 (Nat.succ_pos _)
 injection j with j
 injection l with l
 subst j l
 simp only at F H
 obtain ⟨gv, T2, az, tn, A2, n6, c2, rs⟩ := x
 injection V with f1 f2 f3 f4
 simp only at f1 f2 f3 f4
 subst f1 f2
 obtain ⟨z, rfl, z1⟩ := map_one f4
 obtain ⟨rv, rfl⟩ := eqn_of z1
 have n7 : n6 = 1 := o.hr.hl.symm
 subst n7
 obtain ⟨br, or, y3, I, p, ir, a6⟩ := InQ.len o.hr 0 (Nat.succ_pos _)
 injection p with p
 subst p
 simp only at I
 obtain rfl := str_one g1
 obtain rfl := str_one f3
 subst y D E F H I
 exact ⟨bs, os, bp, op, bm, om, bf, of, be, oe, br, or, c, d, e, c1, d1, c2, m2, qv, gv, rv, rfl, at0 Q, at0 R, at0 S, at0 a4, at0 a5, at0 a6, Z.e, o.e, ir.e⟩
end Go.Proofs.YtkjoohnndobjeaaGreatDoor
