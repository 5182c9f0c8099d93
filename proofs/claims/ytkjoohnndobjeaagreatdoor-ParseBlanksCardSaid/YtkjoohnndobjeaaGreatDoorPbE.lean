/-
  The walk of the parser's modes.
-/
import Derived.Test.YtkjoohnndobjeaaGreatDoorPbC
import Derived.Test.YtkjoohnndobjeaaGreatDoorQW
set_option linter.unusedVariables false
set_option maxHeartbeats 4000000
set_option maxRecDepth 100000
namespace Go.Proofs.YtkjoohnndobjeaaGreatDoor
open Go.RowKit Go.Fl Go.Fl.Lx Go.Fl.Nm Go.Fl.Fm Go.Fl.Rt Go.Fl.Pa
open List (setIfInBounds_toArray set_cons_zero set_cons_succ getElem_toArray getElem_cons_zero getElem_cons_succ)
theorem pr_cases {α : Type} {r : PR α} (h : r ≠ .out) : (∃ l c e, r = .bad l c e) ∨ ∃ a k, r = .ok a k := by
 cases r with
 | ok a k => exact .inr ⟨a, k, rfl⟩
 | bad l c e => exact .inl ⟨l, c, e, rfl⟩
 | out => exact absurd rfl h
theorem pst3 {w : World} {g : Nat} {t : TypeId} {a b c : Value} (hB : Blk w g t #[a, b, c]) (a' b' c' : Value) :
 ((w.setCell ⟨g, 0, none⟩ a').setCell ⟨g, 1, none⟩ b').setCell ⟨g, 2, none⟩ c' = putB w g t #[a', b', c'] := by
 rw [show w.setCell ⟨g, 0, none⟩ a' = putB w g t #[a', b, c] from hB.setCell_eq 0 a']
 have h1 := hB.put #[a', b, c]
 rw [show (putB w g t #[a', b, c]).setCell ⟨g, 1, none⟩ b' = putB (putB w g t #[a', b, c]) g t #[a', b', c] from h1.setCell_eq 1 b', putB_putB]
 have h2 := hB.put #[a', b', c]
 rw [show (putB w g t #[a', b', c]).setCell ⟨g, 2, none⟩ c' = putB (putB w g t #[a', b', c]) g t #[a', b', c'] from h2.setCell_eq 2 c', putB_putB]
theorem pst_3_2 {w : World} {g : Nat} {t : TypeId} {a b c : Value} (hB : Blk w g t #[a, b, c]) (x : Value) : w.setCell ⟨g, 2, none⟩ x = putB w g t #[a, b, x] := hB.setCell_eq 2 x
theorem eqn_bind {β : Type} {ts : List Tok} {k : Nat} (f : EqP → Nat → PR β) : (eqnP nameP ts k).bind f = (nmR nameP ts k).bind fun n k1 => (wantP ts false [39] k1).bind fun _ k2 => (wantP ts false [61] k2).bind fun _ k3 => (sumE nameP ts k3).bind fun e k4 => (wantP ts false [59] k4).bind fun _ k5 => f ⟨n, e⟩ k5 := by
 unfold eqnP
 simp only [bind_assoc']
 rfl
theorem Tryz.infoEdge : (Tryz.prog.info? 81).map (fun i => (i.zero, i.size, i.bytes)) = some (some (.agg #[.int .i64 0, .int .i64 0, .int .i64 0, .string ⟨#[]⟩, .int .i64 0, .slice none 0 0, .int .i64 0, .string ⟨#[]⟩, .slice none 0 0]), 9, 120) := by kernel_rfl
theorem Tryz.infoEqn : (Tryz.prog.info? 78).map (fun i => (i.zero, i.size, i.bytes)) = some (some (.agg #[.string ⟨#[]⟩, .int .i64 0, .int .i64 0, .int .i64 0, .string ⟨#[]⟩, .int .i64 0, .slice none 0 0]), 7, 88) := by kernel_rfl
def MdV (d : MdP) (w : World) (e : Ending) (w' : World) : Prop := ∃ x : MdN, e = .returned x.val ∧ x.pl = d ∧ Hid (PzM (fun b => w.heap.size ≤ b) w' x)

theorem pMode {w0 w : World} {g : Nat} {A : Option Addr} {len cap : Nat} {ts : List Tok} {k : Nat} (h : Env w0 g A len cap ts k 0 w) (hk : k ≤ 100000) (hR : RX w0) (hX : FX w0) (hD : DigTs ts) : Calls Tryz.prog 112 #[.pointer (some ⟨g, 0, none⟩)] w (PRP MdV w0 g A len cap ts 0 (modeP nameP ts k) w) := by
 obtain ⟨C, cn⟩ := eX (modeP nameP ts k)
 have fn := hI cn
 rw [← cn]
 clear cn
 have gp : ts.length ≤ 100000 := by have := h.t.hl; have := h.t.hs; omega
 go_enter Tryz.func112, Tryz.ntmps112
 go_upto_region 1 with (fail)
 obtain ⟨w1, dr, O1, F1⟩ := aX w 74 #[.string ⟨#[]⟩, .slice none 0 0, .slice none 0 0]
 rw [← dr]
 clear dr
 have P := hI (show some w.heap.size ≠ some g from fun e => by have := h.gl; injection e with e; omega)
 have fp : w.heap.size ≠ g := fun e => P.out (by rw [e])
 have au : w0.heap.size ≤ w.heap.size := h.b.size
 have fq := hI (h.belowW O1.out)
 have dt := hI (grown_of (some g) O1.out)
 clear h
 have du := hI (show C = (nmR nameP ts k).bind fun n k1 => (wantP ts false [123] k1).bind fun _ k2 => (bodyP nameP ts (ts.length + 1) k2 [] []).bind fun b k3 => .ok ⟨n, b.1, b.2⟩ k3 from fn.out)
 have j := hI (pNm fq.out (by omega))
 cases hn1 : nmR nameP ts k with
 | out =>
  rw [hn1] at j; clear hn1
  go_wp2_with fail
  refine j.out.mono ?_
  rintro e w9 y
  exact y.elim
 | bad I J L =>
  rw [hn1] at j; have M := hI (show C = .bad I J L by rw [du.out, hn1] <;> rfl); clear hn1
  go_wp2_with fail
  refine j.out.mono ?_
  rintro e w9 ⟨rfl, F⟩
  go_wp2_with fail
  rw [M.out]
  exact ⟨rfl, prp_bad (hI (grown_tr dt.out F.out))⟩
 | ok n k1 =>
  rw [hn1] at j; have gr := (nmR_fw (nm := nameP) (ts := ts) k) _ _ hn1; have dv := hI (show C = (wantP ts false [123] k1).bind fun _ k2 => (bodyP nameP ts (ts.length + 1) k2 [] []).bind fun b k3 => .ok ⟨n, b.1, b.2⟩ k3 by rw [du.out, hn1] <;> rfl); have gs := nmR_len hn1; clear hn1
  go_wp2_with fail
  refine j.out.mono ?_
  rintro e wq1 ⟨y, dw, cp⟩
  cases y
  have dx := hI (F1.out.grown dw.out P.out)
  go_upto_region 2 with (fail)
  obtain ⟨gt, m, cq, dy⟩ := aX wq1 74 #[.string ⟨n.toArray⟩, .slice none 0 0, .slice none 0 0]; rw [← m]; clear m; obtain ⟨l, b4⟩ := eX (wq1.heap.size); have H := hI (show some l ≠ some g from fun e => by have := cp.out.gl; injection e with e; omega); have ah : w.heap.size < l := (by rw [b4]; exact dx.out.lt); rw [← b4] at dy ⊢; have gu : g < l := (by rw [b4]; exact cp.out.gl); clear b4; have dz := hI (grown_tr (grown_tr dt.out dw.out) (grown_of (some g) cq.out)); have j := hI (pWant (cp.out.belowW cq.out) (by omega) [123] false (by decide))
  cases hn3 : wantP ts false [123] k1 with
  | out =>
   rw [hn3] at j; clear hn3
   go_wp2_with fail
   refine j.out.mono ?_
   rintro e w9 y
   exact y.elim
  | bad I J L =>
   rw [hn3] at j; have M := hI (show C = .bad I J L by rw [dv.out, hn3] <;> rfl); clear hn3
   go_wp2_with fail
   refine j.out.mono ?_
   rintro e w9 ⟨rfl, F⟩
   go_wp2_with fail
   rw [M.out]
   exact ⟨rfl, prp_bad (hI (grown_tr dz.out F.out))⟩
  | ok u2 k2 =>
   rw [hn3] at j; have gv := (want_fw (ts := ts) false [123] k1) _ _ hn3; have fr := hI (show C = (bodyP nameP ts (ts.length + 1) k2 [] []).bind fun b k3 => .ok ⟨n, b.1, b.2⟩ k3 by rw [dv.out, hn3] <;> rfl); clear hn3
   go_wp2_with fail
   refine j.out.mono ?_
   rintro e wq3 ⟨y, cr, fs⟩
   cases y
   go_wp2_with fail
   go_loopg [] (ts.length + 1) (fun fu wr => ∃ (E : Nat) (B : List EqN) (z : List EdN) (s N : Value), Hid (C = (bodyP nameP ts fu E (B.map EqN.pl) (z.map EdN.pl)).bind fun b k3 => .ok ⟨n, b.1, b.2⟩ k3) ∧ E ≤ ts.length ∧ ts.length < fu + E ∧ B.length ≤ E ∧ z.length ≤ E ∧ Hid (Env w0 g A len cap ts E 0 wr) ∧ Hid (w.grownBy wr (some g)) ∧ Hid (Blk wr w.heap.size 74 #[.string ⟨#[]⟩, .slice none 0 0, .slice none 0 0]) ∧ Hid (Blk wr l 74 #[.string ⟨n.toArray⟩, s, N]) ∧ Hid (Mk2 78 7 EqN.cells PzQ 81 9 EdN.cells PzG (l + 1) wr s B N z))
   case atStart => exact ⟨k2, [], [], .slice none 0 0, .slice none 0 0, fr, by omega, by omega, by simp, by simp, fs, (hI (grown_tr dz.out cr.out)), (hI ((dx.out.belowW cq.out).grown cr.out P.out)), (hI (dy.out.grown cr.out H.out)), hI (Mk2.nil _ _ _ _ _ _ _ _ _ _)⟩
   obtain ⟨E, B, z, s, N, HQ, gw, gz, g0, g1, ft, d0, d1, ct, av⟩ := hrel
   cases gk with
   | zero => exfalso; omega
   | succ fu =>
    have d2 := hI (World.grownBy.refl wr (some g)); have cu : l < wr.heap.size := ct.out.lt
    have aw : ∀ kb, s.ownBlock = some kb → l + 1 ≤ kb ∧ kb < wr.heap.size := fun kb h => av.out.a.own.lt kb h
    have ax : ∀ kb, N.ownBlock = some kb → l + 1 ≤ kb ∧ kb < wr.heap.size := fun kb h => av.out.b.own.lt kb h
    have a4 := hI (pAccept ft.out (by omega) ⟨#[125]⟩); rw [show kwP (⟨#[125]⟩ : ByteArray).data.toList = false by decide, show (⟨#[125]⟩ : ByteArray).data.toList = [125] from rfl] at a4
    cases hb61 : isS false ts E [125] with
    | true =>
     have g2 := isS_lt hb61; rw [hb61] at a4; have fw := hI (show C = .ok ⟨n, B.map EqN.pl, z.map EdN.pl⟩ (E + 1) by rw [HQ.out, bodyP, hb61, if_pos rfl]; rfl); clear hb61
     go_wp2_with fail
     refine a4.out.mono ?_
     rintro e wa61 ⟨rfl, ae, a5⟩; simp only [if_true] at a5; have ay := hI (d1.out.grown ae.out P.out); have d3 := hI (av.out.moved pzQ pzG (.inr ⟨g, rfl, by omega⟩) (grown_tr d2.out ae.out)); obtain ⟨A5, c5, B5, d5, fx, fy, d4, d6⟩ := d3.out.lies pzQ pzG; have fz := hI d4; have f0 := hI d6; clear d4 d6 d3 av aw ax; subst fx fy
     have f1 : (⟨n.toArray⟩ : ByteArray).size ≤ maxLen := by
      show n.toArray.size ≤ _
      rw [List.size_toArray]
      unfold maxLen
      omega
     go_upto_region 12 with (fail)
     obtain ⟨g3, g4, g5, g6, g7, g8⟩ := ay.out.all3; obtain ⟨b5, b6, b7, b8, ca, cb⟩ := (ct.out.grown ae.out H.out).all3
     go_wp2_with fail
     rw [pst3 ay.out]; obtain ⟨z0, _, z1, _, z2, _⟩ := (ay.out.put #[.string ⟨n.toArray⟩, .slice A5 B.length c5, .slice B5 z.length d5]).all3
     refine bodyPost_ret (v := .agg #[.string ⟨n.toArray⟩, .slice A5 B.length c5, .slice B5 z.length d5]) (by simp [results, Tryz.results112, go_sem, z0, z1, z2]) rfl ?_
     rw [fw.out]
     exact ⟨⟨⟨⟨n.toArray⟩, A5, B.length, c5, B, B5, z.length, d5, z⟩, rfl, rfl, hI ⟨f1, ((fz.out.mv pzQ (r := some w.heap.size) (fun b hb e => by injection e with e; omega) (putB_grown _ _ _ _)).weaken pzQ (fun b hb => by omega)), ((f0.out.mv pzG (r := some w.heap.size) (fun b hb e => by injection e with e; omega) (putB_grown _ _ _ _)).weaken pzG (fun b hb => by omega))⟩⟩, hI (grown_new (grown_tr d0.out ae.out) (Nat.le_refl _) _ _), hI (a5.out.far fp au _ _)⟩
    | false =>
     rw [hb61] at a4; have cc := hb61; clear hb61
     go_wp2_with fail
     refine a4.out.mono ?_
     rintro e wa61 ⟨rfl, ae, a5⟩; simp only [Bool.false_eq_true, if_false] at a5; have d7 := hI (grown_tr d0.out ae.out); have ay := hI (d1.out.grown ae.out P.out); have d8 := hI (ct.out.grown ae.out H.out); have d9 := hI (grown_tr d2.out ae.out); have a6 := hI (pAccept a5.out (by omega) ⟨#[119, 104, 101, 110]⟩); rw [show kwP (⟨#[119, 104, 101, 110]⟩ : ByteArray).data.toList = true by decide, show (⟨#[119, 104, 101, 110]⟩ : ByteArray).data.toList = kWhen from rfl] at a6
     cases hb63 : isS true ts E kWhen with
     | true =>
      have g9 := isS_lt hb63; rw [hb63] at a6; have ea := hI (show C = (edgeP nameP ts (E + 1)).bind fun x k1 => (bodyP nameP ts fu k1 (B.map EqN.pl) (z.map EdN.pl ++ [x])).bind fun b k3 => .ok ⟨n, b.1, b.2⟩ k3 by rw [HQ.out, bodyP, cc, if_neg (by decide), hb63, if_pos rfl]; exact bind_assoc' _ _ _); clear hb63
      go_wp2_with fail
      refine a6.out.mono ?_
      rintro e wa63 ⟨rfl, af, az⟩; simp only [if_true] at az; have a7 := hI (grown_tr d7.out af.out); have eb := hI (d8.out.grown af.out H.out); have ec := hI (grown_tr d9.out af.out); clear cc; have f5 := hI (av.out.moved pzQ pzG (.inr ⟨g, rfl, by omega⟩) ec.out)
      have G : ∀ b, N.ownBlock = some b → l + 1 ≤ b := fun b h => (ax b h).1
      go_upto_region 5 with (fail)
      obtain ⟨I, J, L, hn⟩ | ⟨x, k9, hn⟩ := pr_cases (edge_no (nm := nameP) (ts := ts) (E + 1))
      ·
       have M := hI (show C = .bad I J L by rw [ea.out, hn] <;> rfl); have j := hI (fun (w' : World) (h' : Env w0 g A len cap ts (E + 1) 0 w') => by have h9 := pEdge h' (by omega) hR hX hD; rw [hn] at h9; exact h9); clear hn; have cd := hI (below_dr wa63); have ee := az.out.b9 cd; have ef := hI (grown_tr a7.out (grown_of (some g) cd.out)); have ce := eb.out.b9 cd
       refine wp_region_held_drew (S := fun w' => w'.cell? ⟨l, 0, none⟩ = some (.string ⟨n.toArray⟩) ∧ w'.cell? ⟨l, 1, none⟩ = some (s) ∧ w'.cell? ⟨l, 2, none⟩ = some (N)) (by kernel_rfl) ?_ (fun hHeld => ?_)
       case refine_1 => exact ⟨ce.out.cell 0, ce.out.cell 1, ce.out.cell 2⟩
       obtain ⟨f6, a9⟩ := eX (wa63.drew); rw [← a9] at cd ee ef ce hHeld ⊢; clear a9
       refine tkY 0 rfl (v := ?_) (.inl ⟨by rfl, ?_⟩) ?_
       case refine_2 => intro w9 hSw; (try dsimp only at hSw); go_simp; (try with_reducible rfl)
       try simp only [Act.put, setIfInBounds_toArray, set_cons_zero, set_cons_succ, getElem_toArray, getElem_cons_zero]
       refine tkY 1 rfl (v := ?_) (.inl ⟨by rfl, ?_⟩) ?_
       case refine_2 => intro w9 hSw; (try dsimp only at hSw); go_simp; (try with_reducible rfl)
       try simp only [Act.put, setIfInBounds_toArray, set_cons_zero, set_cons_succ, getElem_toArray, getElem_cons_zero, getElem_cons_succ]
       refine tkY 2 rfl (v := ?_) (.inl ⟨by rfl, ?_⟩) ?_
       case refine_2 => intro w9 hSw; (try dsimp only at hSw); go_simp; (try with_reducible rfl)
       try simp only [Act.put, setIfInBounds_toArray, set_cons_zero, set_cons_succ, getElem_toArray, getElem_cons_zero, getElem_cons_succ]
       refine wpAnyH_ready (rs := [3]) (by kernel_rfl) (by simp) ?_
       refine (AllReadyH.cons rfl (fun K hK => ?_) AllReadyH.nil)
       go_simp
       (with_reducible refine (j.out f6 ee.out).mono ?_)
       rintro e w1502 ⟨rfl, F⟩; clear hHeld
       go_wp2_with fail
       rw [M.out]
       exact ⟨rfl, prp_bad (hI (grown_tr ef.out F.out))⟩
      have f7 := (edge_fw (nm := nameP) (ts := ts) (E + 1)) _ _ hn; have a0 := hI (show C = (bodyP nameP ts fu k9 (B.map EqN.pl) (z.map EdN.pl ++ [x])).bind fun b k3 => .ok ⟨n, b.1, b.2⟩ k3 by rw [ea.out, hn] <;> rfl); have j := hI (fun (w' : World) (h' : Env w0 g A len cap ts (E + 1) 0 w') => by have h9 := pEdge h' (by omega) hR hX hD; rw [hn] at h9; exact h9); clear hn; have ap := hI (below_dr wa63); have cz := az.out.b9 ap; have c0 := hI (grown_tr a7.out (grown_of (some g) ap.out)); have ba := hI ((ay.out.grown af.out P.out).belowW ap.out); have cf := eb.out.b9 ap; have c1 := hI (f5.out.belowW pzQ pzG ap.out); have bb := hI (Nat.le_trans (show wr.heap.size ≤ wa63.heap.size from ec.out.size) ap.out.size)
      refine wp_region_held_drew (S := fun w' => w'.cell? ⟨w.heap.size, 0, none⟩ = some (.string ⟨#[]⟩)) (by kernel_rfl) ?_ (fun hHeld => ?_)
      case refine_1 => exact ba.out.cell 0
      obtain ⟨eg, a9⟩ := eX (wa63.drew); rw [← a9] at ap cz c0 ba cf c1 bb hHeld ⊢; clear a9
      refine tkY 0 rfl (v := ?_) (.inl ⟨by rfl, ?_⟩) ?_
      case refine_2 => intro w9 hSw; (try dsimp only at hSw); go_simp; (try with_reducible rfl)
      try simp only [Act.put, setIfInBounds_toArray, set_cons_zero, set_cons_succ, getElem_toArray, getElem_cons_zero]
      refine tkY 2 rfl (v := ?_) (.inl ⟨by rfl, ?_⟩) ?_
      case refine_2 => intro w9 hSw; (try dsimp only at hSw); go_simp; (try with_reducible rfl)
      try simp only [Act.put, setIfInBounds_toArray, set_cons_zero, set_cons_succ, getElem_toArray, getElem_cons_zero, getElem_cons_succ]
      refine wpAnyH_ready (rs := [1, 3]) (by kernel_rfl) (by simp) ?_
      refine (AllReadyH.cons rfl (fun K hK => ?_) (AllReadyH.cons rfl (fun K hK => ?_) AllReadyH.nil))
      ·
       obtain ⟨bc, bd, be, bf, bg, bh⟩ := cf.out.all3
       go_simp
       clear bc bd be bf bg bh; clear hHeld
       refine hK.out _ _ ?_ (fun hHeld => ?_)
       case refine_1 => exact ba.out.cell 0
       clear hK K
       try simp only [setIfInBounds_toArray, set_cons_zero, set_cons_succ]
       refine wpAnyH_ready (rs := [3]) (by kernel_rfl) (by simp) ?_
       refine (AllReadyH.cons rfl (fun K hK => ?_) AllReadyH.nil)
       go_simp
       (with_reducible refine (j.out eg cz.out).mono ?_)
       rintro e ag ⟨⟨i, rfl, bi, c2⟩, Q, bj⟩; have a1 := hI (ba.out.grown Q.out P.out); have cg := hI (c1.out.moved pzQ pzG (.inr ⟨g, rfl, by omega⟩) Q.out); have c3 := hI (show PzG (fun b => wr.heap.size ≤ b ∧ b < ag.heap.size) ag (i) from pzG.weaken (pzG.lt c2.out) (fun b hb => ⟨Nat.le_trans bb.out hb.1, hb.2⟩)); have ch := hI bi; clear bi
       go_wp2_with fail
       clear hHeld
       refine hK.out _ _ ?_ (fun hHeld => ?_)
       case refine_1 => exact a1.out.cell 0
       clear hK K
       try simp only [setIfInBounds_toArray, set_cons_zero, set_cons_succ]
       refine wpAnyH_ready (rs := [4]) (by kernel_rfl) (by simp) ?_
       refine (AllReadyH.cons rfl (fun K hK => ?_) AllReadyH.nil)
       go_simp
       obtain ⟨aq, R, O, _⟩ := aX ag 81 #[.int .i64 i.v.h.kind, .int .i64 i.v.h.n, .int .i64 i.v.h.d, .string i.v.h.name, .int .i64 i.v.h.k, .slice i.v.A i.v.len i.v.cap, .int .i64 i.dir, .string i.tn, .slice i.A i.len i.cap]; have bk := a1.out.b9 O; have bl := hI (cg.out.belowW pzQ pzG O.out); have bm := hI (Nat.le_trans (Nat.le_trans bb.out Q.out.size) O.out.size); have c4 := hI (show PzG (fun b => wr.heap.size ≤ b ∧ b < aq.heap.size) aq (i) from pzG.weaken (pzG.lt (pzG.mv c3.out (fun b hb e => by cases e) (grown_none (Nat.le_refl _) O.out))) (fun b hb => ⟨hb.1.1, hb.2⟩)); have c6 := hI (show Blk aq ag.heap.size 81 (EdN.cells (i)).toArray by rw [R]; exact Blk.new _ _ _); rw [← R]; clear R; clear hHeld
       refine hK.out _ _ ?_ (fun hHeld => ?_)
       case refine_1 => exact bk.out.cell 0
       clear hK K
       try simp only [setIfInBounds_toArray, set_cons_zero, set_cons_succ]
       refine wpAnyH_ready (rs := [5]) (by kernel_rfl) (by simp) ?_
       refine (AllReadyH.cons rfl (fun K hK => ?_) AllReadyH.nil)
       obtain ⟨i0, T, U, V, W⟩ := info_parts Tryz.infoEdge; have aj : ∀ u ∈ EdN.cells (i), u.oneCell' = true := (by simp [EdN.cells, Value.oneCell'])
       refine if_wanted (by rfl) ?_
       refine oper_append_mk _ _ _ rfl (avd_ok pzG) EdN.len9 rfl bl.out.b (show Avd (Own s) PzG _ _ _ from pzG.weaken c4.out (fun b hb => ⟨⟨by omega, hb.2, fun e => by have := ax b e.symm; omega⟩, fun e => by have := aw b e; omega⟩)) i0 _ 120 Tryz.underlying72 T U V W rfl (by omega) (by omega) (by omega) ag.heap.size _ rfl c6.out aj (Nat.le_trans cu bm.out) ?_
       intro v9 w1515 hmk hgr hob
       have ad := hI hmk; have D := hI hgr; have bn := hI hob; clear hmk hgr hob T U V W i0 aj; obtain ⟨o, p, X, _⟩ := ad.out.lies (avd_ok pzG); obtain ⟨q, Y⟩ := eX ((z ++ [i]).length); rw [← Y] at X; clear Y; subst X
       try simp only [Act.put, setIfInBounds_toArray]
       have bo := hI (env_row ((bj.out).belowW O.out) D.out (fun b h => by have := G b h; omega)); have bp := hI (grown_row (grown_tr (grown_tr c0.out Q.out) (grown_of (some g) O.out)) D.out (fun b h => by have := G b h; omega)); have ak := hI (bk.out.grown D.out (fun e => by have := G _ e.symm; omega)); have Z := hI (((cf.out.grown Q.out H.out).belowW O.out).grown D.out (fun e => by have := G _ e.symm; omega)); clear hHeld
       refine hK.out _ _ ?_ (fun hHeld => ?_)
       case refine_1 => exact ak.out.cell 0
       clear hK K
       try simp only [setIfInBounds_toArray, set_cons_zero, set_cons_succ]
       refine tkY 6 rfl (v := ?_) (.inl ⟨by rfl, ?_⟩) ?_
       case refine_2 => intro w9 hSw; (try dsimp only at hSw); go_simp; (try with_reducible rfl)
       try simp only [Act.put, setIfInBounds_toArray, set_cons_zero, set_cons_succ, getElem_toArray, getElem_cons_zero, getElem_cons_succ]
       refine wpAnyH_ready (rs := [7]) (by kernel_rfl) (by simp) ?_
       refine (AllReadyH.cons rfl (fun K hK => ?_) AllReadyH.nil)
       obtain ⟨bq, br, bs, bt, bu, bv⟩ := Z.out.all3
       go_simp
       rw [pst_3_2 Z.out]; clear bq br bs bt bu bv; have al := hI (bo.out.far (r := l) (fun e => H.out (by rw [e])) (Nat.le_trans au (Nat.le_of_lt ah)) 74 #[.string ⟨n.toArray⟩, s, .slice o q p]); have am := hI (grown_new bp.out (Nat.le_of_lt ah) 74 #[.string ⟨n.toArray⟩, s, .slice o q p]); have aa := hI (ak.out.far (g' := l) (t' := 74) (by omega) #[.string ⟨n.toArray⟩, s, .slice o q p]); have an := hI (((Mk2.pushed pzQ bl.out.swap ad.out D.out bn.out).swap).moved pzQ pzG (.inr ⟨l, rfl, by omega⟩) (putB_grown w1515 l 74 #[.string ⟨n.toArray⟩, s, .slice o q p])); have bw := hI (show wr.heap.size ≤ (putB w1515 l 74 #[.string ⟨n.toArray⟩, s, .slice o q p]).heap.size by rw [putB_size]; exact (Nat.le_trans bm.out D.out.size)); have ao := hI (Z.out.put #[.string ⟨n.toArray⟩, s, .slice o q p]); obtain ⟨eh, m⟩ := eX (putB w1515 (l) 74 #[.string ⟨n.toArray⟩, s, .slice o q p])
       try rw [← m] at al
       try rw [← m] at am
       try rw [← m] at aa
       try rw [← m] at an
       try rw [← m] at bw
       try rw [← m] at ao
       rw [← m]; clear m hHeld
       refine hK.out _ _ ?_ (fun hHeld => ?_)
       case refine_1 => exact aa.out.cell 0
       clear hK K
       try simp only [setIfInBounds_toArray, set_cons_zero, set_cons_succ]
       refine wpAnyH_done (by kernel_rfl) ?_ _
       go_wp2_with fail
       go_roundg fu
       case measure => omega
       case rel => exact ⟨k9, B, z ++ [i], s, .slice o q p, hI (by rw [a0.out, List.map_append, ← ch.out]; rfl), by omega, by omega, by omega, by rw [List.length_append]; show z.length + 1 ≤ _; omega, al, am, aa, ao, an⟩
      go_simp
      (with_reducible refine (j.out eg cz.out).mono ?_)
      rintro e w1512 ⟨⟨i, rfl, bi, c2⟩, bx, bj⟩; have ei := hI (bj.out); have ej := hI (grown_tr c0.out bx.out); have ci := hI (ba.out.grown bx.out P.out); have c7 := hI (cf.out.grown bx.out H.out); have ek := hI (c1.out.moved pzQ pzG (.inr ⟨g, rfl, by omega⟩) bx.out); have el := hI (Nat.le_trans bb.out bx.out.size); have em := hI (show PzG (fun b => wr.heap.size ≤ b ∧ b < w1512.heap.size) w1512 (i) from pzG.weaken (pzG.lt c2.out) (fun b hb => ⟨Nat.le_trans bb.out hb.1, hb.2⟩)); have ch := hI bi; clear bi
      go_wp2_with fail
      clear hHeld
      refine hK.out _ _ ?_ (fun hHeld => ?_)
      case refine_1 => exact ci.out.cell 0
      clear hK K
      try simp only [setIfInBounds_toArray, set_cons_zero, set_cons_succ]
      refine wpAnyH_ready (rs := [1, 4]) (by kernel_rfl) (by simp) ?_
      refine (AllReadyH.cons rfl (fun K hK => ?_) (AllReadyH.cons rfl (fun K hK => ?_) AllReadyH.nil))
      ·
       obtain ⟨bc, bd, be, bf, bg, bh⟩ := c7.out.all3
       go_simp
       clear bc bd be bf bg bh; clear hHeld
       refine hK.out _ _ ?_ (fun hHeld => ?_)
       case refine_1 => exact ci.out.cell 0
       clear hK K
       try simp only [setIfInBounds_toArray, set_cons_zero, set_cons_succ]
       refine wpAnyH_ready (rs := [4]) (by kernel_rfl) (by simp) ?_
       refine (AllReadyH.cons rfl (fun K hK => ?_) AllReadyH.nil)
       go_simp
       obtain ⟨aq, R, O, _⟩ := aX w1512 81 #[.int .i64 i.v.h.kind, .int .i64 i.v.h.n, .int .i64 i.v.h.d, .string i.v.h.name, .int .i64 i.v.h.k, .slice i.v.A i.v.len i.v.cap, .int .i64 i.dir, .string i.tn, .slice i.A i.len i.cap]; have bk := ci.out.b9 O; have bl := hI (ek.out.belowW pzQ pzG O.out); have bm := hI (Nat.le_trans el.out O.out.size); have c4 := hI (show PzG (fun b => wr.heap.size ≤ b ∧ b < aq.heap.size) aq (i) from pzG.weaken (pzG.lt (pzG.mv em.out (fun b hb e => by cases e) (grown_none (Nat.le_refl _) O.out))) (fun b hb => ⟨hb.1.1, hb.2⟩)); have c6 := hI (show Blk aq w1512.heap.size 81 (EdN.cells (i)).toArray by rw [R]; exact Blk.new _ _ _); rw [← R]; clear R; clear hHeld
       refine hK.out _ _ ?_ (fun hHeld => ?_)
       case refine_1 => exact bk.out.cell 0
       clear hK K
       try simp only [setIfInBounds_toArray, set_cons_zero, set_cons_succ]
       refine wpAnyH_ready (rs := [5]) (by kernel_rfl) (by simp) ?_
       refine (AllReadyH.cons rfl (fun K hK => ?_) AllReadyH.nil)
       obtain ⟨i0, T, U, V, W⟩ := info_parts Tryz.infoEdge; have aj : ∀ u ∈ EdN.cells (i), u.oneCell' = true := (by simp [EdN.cells, Value.oneCell'])
       refine if_wanted (by rfl) ?_
       refine oper_append_mk _ _ _ rfl (avd_ok pzG) EdN.len9 rfl bl.out.b (show Avd (Own s) PzG _ _ _ from pzG.weaken c4.out (fun b hb => ⟨⟨by omega, hb.2, fun e => by have := ax b e.symm; omega⟩, fun e => by have := aw b e; omega⟩)) i0 _ 120 Tryz.underlying72 T U V W rfl (by omega) (by omega) (by omega) w1512.heap.size _ rfl c6.out aj (Nat.le_trans cu bm.out) ?_
       intro v9 w1515 hmk hgr hob
       have ad := hI hmk; have D := hI hgr; have bn := hI hob; clear hmk hgr hob T U V W i0 aj; obtain ⟨o, p, X, _⟩ := ad.out.lies (avd_ok pzG); obtain ⟨q, Y⟩ := eX ((z ++ [i]).length); rw [← Y] at X; clear Y; subst X
       try simp only [Act.put, setIfInBounds_toArray]
       have bo := hI (env_row (ei.out.belowW O.out) D.out (fun b h => by have := G b h; omega)); have bp := hI (grown_row (grown_tr ej.out (grown_of (some g) O.out)) D.out (fun b h => by have := G b h; omega)); have ak := hI (bk.out.grown D.out (fun e => by have := G _ e.symm; omega)); have Z := hI ((c7.out.belowW O.out).grown D.out (fun e => by have := G _ e.symm; omega)); clear hHeld
       refine hK.out _ _ ?_ (fun hHeld => ?_)
       case refine_1 => exact ak.out.cell 0
       clear hK K
       try simp only [setIfInBounds_toArray, set_cons_zero, set_cons_succ]
       refine tkY 6 rfl (v := ?_) (.inl ⟨by rfl, ?_⟩) ?_
       case refine_2 => intro w9 hSw; (try dsimp only at hSw); go_simp; (try with_reducible rfl)
       try simp only [Act.put, setIfInBounds_toArray, set_cons_zero, set_cons_succ, getElem_toArray, getElem_cons_zero, getElem_cons_succ]
       refine wpAnyH_ready (rs := [7]) (by kernel_rfl) (by simp) ?_
       refine (AllReadyH.cons rfl (fun K hK => ?_) AllReadyH.nil)
       obtain ⟨bq, br, bs, bt, bu, bv⟩ := Z.out.all3
       go_simp
       rw [pst_3_2 Z.out]; clear bq br bs bt bu bv; have al := hI (bo.out.far (r := l) (fun e => H.out (by rw [e])) (Nat.le_trans au (Nat.le_of_lt ah)) 74 #[.string ⟨n.toArray⟩, s, .slice o q p]); have am := hI (grown_new bp.out (Nat.le_of_lt ah) 74 #[.string ⟨n.toArray⟩, s, .slice o q p]); have aa := hI (ak.out.far (g' := l) (t' := 74) (by omega) #[.string ⟨n.toArray⟩, s, .slice o q p]); have an := hI (((Mk2.pushed pzQ bl.out.swap ad.out D.out bn.out).swap).moved pzQ pzG (.inr ⟨l, rfl, by omega⟩) (putB_grown w1515 l 74 #[.string ⟨n.toArray⟩, s, .slice o q p])); have bw := hI (show wr.heap.size ≤ (putB w1515 l 74 #[.string ⟨n.toArray⟩, s, .slice o q p]).heap.size by rw [putB_size]; exact (Nat.le_trans bm.out D.out.size)); have ao := hI (Z.out.put #[.string ⟨n.toArray⟩, s, .slice o q p]); obtain ⟨eh, m⟩ := eX (putB w1515 (l) 74 #[.string ⟨n.toArray⟩, s, .slice o q p])
       try rw [← m] at al
       try rw [← m] at am
       try rw [← m] at aa
       try rw [← m] at an
       try rw [← m] at bw
       try rw [← m] at ao
       rw [← m]; clear m hHeld
       refine hK.out _ _ ?_ (fun hHeld => ?_)
       case refine_1 => exact aa.out.cell 0
       clear hK K
       try simp only [setIfInBounds_toArray, set_cons_zero, set_cons_succ]
       refine wpAnyH_done (by kernel_rfl) ?_ _
       go_wp2_with fail
       go_roundg fu
       case measure => omega
       case rel => exact ⟨k9, B, z ++ [i], s, .slice o q p, hI (by rw [a0.out, List.map_append, ← ch.out]; rfl), by omega, by omega, by omega, by rw [List.length_append]; show z.length + 1 ≤ _; omega, al, am, aa, ao, an⟩
      go_simp
      obtain ⟨ag, R, Q, _⟩ := aX w1512 81 #[.int .i64 i.v.h.kind, .int .i64 i.v.h.n, .int .i64 i.v.h.d, .string i.v.h.name, .int .i64 i.v.h.k, .slice i.v.A i.v.len i.v.cap, .int .i64 i.dir, .string i.tn, .slice i.A i.len i.cap]; have a1 := ci.out.b9 Q; have en := c7.out.b9 Q; have cg := hI (ek.out.belowW pzQ pzG Q.out); have eo := hI (Nat.le_trans el.out Q.out.size); have c3 := hI (show PzG (fun b => wr.heap.size ≤ b ∧ b < ag.heap.size) ag (i) from pzG.weaken (pzG.lt (pzG.mv em.out (fun b hb e => by cases e) (grown_none (Nat.le_refl _) Q.out))) (fun b hb => ⟨hb.1.1, hb.2⟩)); have f8 := hI (show Blk ag w1512.heap.size 81 (EdN.cells (i)).toArray by rw [R]; exact Blk.new _ _ _); rw [← R]; clear R; clear hHeld
      refine hK.out _ _ ?_ (fun hHeld => ?_)
      case refine_1 => exact a1.out.cell 0
      clear hK K
      try simp only [setIfInBounds_toArray, set_cons_zero, set_cons_succ]
      refine wpAnyH_ready (rs := [1]) (by kernel_rfl) (by simp) ?_
      refine (AllReadyH.cons rfl (fun K hK => ?_) AllReadyH.nil)
      obtain ⟨bc, bd, be, bf, bg, bh⟩ := en.out.all3
      go_simp
      clear bc bd be bf bg bh; clear hHeld
      refine hK.out _ _ ?_ (fun hHeld => ?_)
      case refine_1 => exact a1.out.cell 0
      clear hK K
      try simp only [setIfInBounds_toArray, set_cons_zero, set_cons_succ]
      refine wpAnyH_ready (rs := [5]) (by kernel_rfl) (by simp) ?_
      refine (AllReadyH.cons rfl (fun K hK => ?_) AllReadyH.nil)
      obtain ⟨i0, T, U, V, W⟩ := info_parts Tryz.infoEdge; have aj : ∀ u ∈ EdN.cells (i), u.oneCell' = true := (by simp [EdN.cells, Value.oneCell'])
      refine if_wanted (by rfl) ?_
      refine oper_append_mk _ _ _ rfl (avd_ok pzG) EdN.len9 rfl cg.out.b (show Avd (Own s) PzG _ _ _ from pzG.weaken c3.out (fun b hb => ⟨⟨by omega, hb.2, fun e => by have := ax b e.symm; omega⟩, fun e => by have := aw b e; omega⟩)) i0 _ 120 Tryz.underlying72 T U V W rfl (by omega) (by omega) (by omega) w1512.heap.size _ rfl f8.out aj (Nat.le_trans cu eo.out) ?_
      intro v9 w1515 hmk hgr hob
      have ad := hI hmk; have D := hI hgr; have bn := hI hob; clear hmk hgr hob T U V W i0 aj; obtain ⟨o, p, X, _⟩ := ad.out.lies (avd_ok pzG); obtain ⟨q, Y⟩ := eX ((z ++ [i]).length); rw [← Y] at X; clear Y; subst X
      try simp only [Act.put, setIfInBounds_toArray]
      have bo := hI (env_row (ei.out.belowW Q.out) D.out (fun b h => by have := G b h; omega)); have bp := hI (grown_row (grown_tr ej.out (grown_of (some g) Q.out)) D.out (fun b h => by have := G b h; omega)); have ak := hI (a1.out.grown D.out (fun e => by have := G _ e.symm; omega)); have Z := hI (en.out.grown D.out (fun e => by have := G _ e.symm; omega)); clear hHeld
      refine hK.out _ _ ?_ (fun hHeld => ?_)
      case refine_1 => exact ak.out.cell 0
      clear hK K
      try simp only [setIfInBounds_toArray, set_cons_zero, set_cons_succ]
      refine tkY 6 rfl (v := ?_) (.inl ⟨by rfl, ?_⟩) ?_
      case refine_2 => intro w9 hSw; (try dsimp only at hSw); go_simp; (try with_reducible rfl)
      try simp only [Act.put, setIfInBounds_toArray, set_cons_zero, set_cons_succ, getElem_toArray, getElem_cons_zero, getElem_cons_succ]
      refine wpAnyH_ready (rs := [7]) (by kernel_rfl) (by simp) ?_
      refine (AllReadyH.cons rfl (fun K hK => ?_) AllReadyH.nil)
      obtain ⟨bq, br, bs, bt, bu, bv⟩ := Z.out.all3
      go_simp
      rw [pst_3_2 Z.out]; clear bq br bs bt bu bv; have al := hI (bo.out.far (r := l) (fun e => H.out (by rw [e])) (Nat.le_trans au (Nat.le_of_lt ah)) 74 #[.string ⟨n.toArray⟩, s, .slice o q p]); have am := hI (grown_new bp.out (Nat.le_of_lt ah) 74 #[.string ⟨n.toArray⟩, s, .slice o q p]); have aa := hI (ak.out.far (g' := l) (t' := 74) (by omega) #[.string ⟨n.toArray⟩, s, .slice o q p]); have an := hI (((Mk2.pushed pzQ cg.out.swap ad.out D.out bn.out).swap).moved pzQ pzG (.inr ⟨l, rfl, by omega⟩) (putB_grown w1515 l 74 #[.string ⟨n.toArray⟩, s, .slice o q p])); have bw := hI (show wr.heap.size ≤ (putB w1515 l 74 #[.string ⟨n.toArray⟩, s, .slice o q p]).heap.size by rw [putB_size]; exact (Nat.le_trans eo.out D.out.size)); have ao := hI (Z.out.put #[.string ⟨n.toArray⟩, s, .slice o q p]); obtain ⟨eh, m⟩ := eX (putB w1515 (l) 74 #[.string ⟨n.toArray⟩, s, .slice o q p])
      try rw [← m] at al
      try rw [← m] at am
      try rw [← m] at aa
      try rw [← m] at an
      try rw [← m] at bw
      try rw [← m] at ao
      rw [← m]; clear m hHeld
      refine hK.out _ _ ?_ (fun hHeld => ?_)
      case refine_1 => exact aa.out.cell 0
      clear hK K
      try simp only [setIfInBounds_toArray, set_cons_zero, set_cons_succ]
      refine wpAnyH_done (by kernel_rfl) ?_ _
      go_wp2_with fail
      go_roundg fu
      case measure => omega
      case rel => exact ⟨k9, B, z ++ [i], s, .slice o q p, hI (by rw [a0.out, List.map_append, ← ch.out]; rfl), by omega, by omega, by omega, by rw [List.length_append]; show z.length + 1 ≤ _; omega, al, am, aa, ao, an⟩
     | false =>
      rw [hb63] at a6; have ep := hI (show C = (nmR nameP ts E).bind fun n2 k6 => (wantP ts false [39] k6).bind fun _ k7 => (wantP ts false [61] k7).bind fun _ k8 => (sumE nameP ts k8).bind fun e2 k9 => (wantP ts false [59] k9).bind fun _ k10 => (bodyP nameP ts fu k10 (B.map EqN.pl ++ [⟨n2, e2⟩]) (z.map EdN.pl)).bind fun b k3 => .ok ⟨n, b.1, b.2⟩ k3 by rw [HQ.out, bodyP, cc, if_neg (by decide), hb63, if_neg (by decide), bind_assoc', eqn_bind]); clear hb63
      go_wp2_with fail
      refine a6.out.mono ?_
      rintro e wa63 ⟨rfl, af, az⟩; simp only [Bool.false_eq_true, if_false] at az; have a7 := hI (grown_tr d7.out af.out); clear cc; have j := hI (pNm az.out (by omega))
      cases hn65 : nmR nameP ts E with
      | out =>
       rw [hn65] at j; clear hn65
       go_wp2_with fail
       refine j.out.mono ?_
       rintro e w9 y
       exact y.elim
      | bad I J L =>
       rw [hn65] at j; have M := hI (show C = .bad I J L by rw [ep.out, hn65] <;> rfl); clear hn65
       go_wp2_with fail
       refine j.out.mono ?_
       rintro e w9 ⟨rfl, F⟩
       go_wp2_with fail
       rw [M.out]
       exact ⟨rfl, prp_bad (hI (grown_tr a7.out F.out))⟩
      | ok n2 k6 =>
       rw [hn65] at j; have f7 := (nmR_fw (nm := nameP) (ts := ts) E) _ _ hn65; have a0 := hI (show C = (wantP ts false [39] k6).bind fun _ k7 => (wantP ts false [61] k7).bind fun _ k8 => (sumE nameP ts k8).bind fun e2 k9 => (wantP ts false [59] k9).bind fun _ k10 => (bodyP nameP ts fu k10 (B.map EqN.pl ++ [⟨n2, e2⟩]) (z.map EdN.pl)).bind fun b k3 => .ok ⟨n, b.1, b.2⟩ k3 by rw [ep.out, hn65] <;> rfl); have ha := nmR_len hn65; clear hn65
       go_wp2_with fail
       refine j.out.mono ?_
       rintro e wq65 ⟨y, cj, eq⟩
       cases y
       have es := hI ((ay.out.grown af.out P.out).grown cj.out P.out); have et := hI ((d8.out.grown af.out H.out).grown cj.out H.out); have eu := hI (grown_tr (grown_tr d9.out af.out) cj.out)
       go_upto_region 7 with (fail)
       obtain ⟨hc, m, bz, ew⟩ := aX wq65 78 #[.string ⟨n2.toArray⟩, .int .i64 0, .int .i64 0, .int .i64 0, .string ⟨#[]⟩, .int .i64 0, .slice none 0 0]; rw [← m]; clear m; obtain ⟨gy, b0⟩ := eX (wq65.heap.size); have b1 := hI (show some gy ≠ some g from fun e => by have := eq.out.gl; injection e with e; omega); have ex : w.heap.size < gy := (by rw [b0]; exact es.out.lt); rw [← b0] at ew ⊢; have hd : wr.heap.size ≤ gy := (by rw [b0]; exact eu.out.size); have he : l < gy := (by rw [b0]; exact et.out.lt); clear b0; have ey := hI (grown_tr (grown_tr a7.out cj.out) (grown_of (some g) bz.out)); have j := hI (pWant (eq.out.belowW bz.out) (by omega) [39] false (by decide))
       cases hn67 : wantP ts false [39] k6 with
       | out =>
        rw [hn67] at j; clear hn67
        go_wp2_with fail
        refine j.out.mono ?_
        rintro e w9 y
        exact y.elim
       | bad I J L =>
        rw [hn67] at j; have M := hI (show C = .bad I J L by rw [a0.out, hn67] <;> rfl); clear hn67
        go_wp2_with fail
        refine j.out.mono ?_
        rintro e w9 ⟨rfl, F⟩
        go_wp2_with fail
        rw [M.out]
        exact ⟨rfl, prp_bad (hI (grown_tr ey.out F.out))⟩
       | ok u3 k7 =>
        rw [hn67] at j; have hf := (want_fw (ts := ts) false [39] k6) _ _ hn67; have ez := hI (show C = (wantP ts false [61] k7).bind fun _ k8 => (sumE nameP ts k8).bind fun e2 k9 => (wantP ts false [59] k9).bind fun _ k10 => (bodyP nameP ts fu k10 (B.map EqN.pl ++ [⟨n2, e2⟩]) (z.map EdN.pl)).bind fun b k3 => .ok ⟨n, b.1, b.2⟩ k3 by rw [a0.out, hn67] <;> rfl); clear hn67
        go_wp2_with fail
        refine j.out.mono ?_
        rintro e wq67 ⟨y, b2, f9⟩
        cases y
        have e0 := hI (grown_tr ey.out b2.out); have j := hI (pWant f9.out (by omega) [61] false (by decide))
        cases hn68 : wantP ts false [61] k7 with
        | out =>
         rw [hn68] at j; clear hn68
         go_wp2_with fail
         refine j.out.mono ?_
         rintro e w9 y
         exact y.elim
        | bad I J L =>
         rw [hn68] at j; have M := hI (show C = .bad I J L by rw [ez.out, hn68] <;> rfl); clear hn68
         go_wp2_with fail
         refine j.out.mono ?_
         rintro e w9 ⟨rfl, F⟩
         go_wp2_with fail
         rw [M.out]
         exact ⟨rfl, prp_bad (hI (grown_tr e0.out F.out))⟩
        | ok u4 k8 =>
         rw [hn68] at j; have hg := (want_fw (ts := ts) false [61] k7) _ _ hn68; have e1 := hI (show C = (sumE nameP ts k8).bind fun e2 k9 => (wantP ts false [59] k9).bind fun _ k10 => (bodyP nameP ts fu k10 (B.map EqN.pl ++ [⟨n2, e2⟩]) (z.map EdN.pl)).bind fun b k3 => .ok ⟨n, b.1, b.2⟩ k3 by rw [ez.out, hn68] <;> rfl); clear hn68
         go_wp2_with fail
         refine j.out.mono ?_
         rintro e wq68 ⟨y, b3, e3⟩
         cases y
         have e4 := hI (grown_tr e0.out b3.out); have e5 := hI ((ew.out.grown b2.out b1.out).grown b3.out b1.out); have j := hI (pSumE e3.out (by omega) hR hX hD)
         cases hn69 : sumE nameP ts k8 with
         | out =>
          rw [hn69] at j; clear hn69
          go_wp2_with fail
          refine j.out.mono ?_
          rintro e w9 y
          exact y.elim
         | bad I J L =>
          rw [hn69] at j; have M := hI (show C = .bad I J L by rw [e1.out, hn69] <;> rfl); clear hn69
          go_wp2_with fail
          refine j.out.mono ?_
          rintro e w9 ⟨rfl, F⟩
          go_wp2_with fail
          rw [M.out]
          exact ⟨rfl, prp_bad (hI (grown_tr e4.out F.out))⟩
         | ok e2 k9 =>
          rw [hn69] at j; have hh := (sumE_fw (nm := nameP) (ts := ts) k8) _ _ hn69; have e6 := hI (show C = (wantP ts false [59] k9).bind fun _ k10 => (bodyP nameP ts fu k10 (B.map EqN.pl ++ [⟨n2, e2⟩]) (z.map EdN.pl)).bind fun b k3 => .ok ⟨n, b.1, b.2⟩ k3 by rw [e1.out, hn69] <;> rfl); clear hn69
          go_wp2_with fail
          refine j.out.mono ?_
          rintro e wq69 ⟨y, a2, ga⟩; obtain ⟨c, y, gb⟩ := y
          cases y
          obtain ⟨ck, cl⟩ := eX (wq68.heap.size); obtain ⟨e7, e8⟩ := eX (wq69.heap.size); have hi : g < ck := (by rw [cl]; exact e3.out.gl); have hj : gy < ck := (by rw [cl]; exact e5.out.lt); have hm : ck ≤ e7 := (by rw [cl, e8]; exact a2.out.size); have gc := hI (show InA (fun b => ck ≤ b ∧ b < e7) wq69 e2 c by rw [cl, e8]; exact InA.lt gb.out); have c8 := hI (e5.out.grown a2.out b1.out); obtain ⟨da, db, dc, dd, de, df, dg, dh, di, dj, dk, dl, dm, dn⟩ := c8.out.all7
          go_upto_region 10 with (fail)
          rw [pst16 c8.out]; have e9 := hI (c8.out.put #[.string ⟨n2.toArray⟩, .int .i64 c.h.kind, .int .i64 c.h.n, .int .i64 c.h.d, .string c.h.name, .int .i64 c.h.k, .slice c.A c.len c.cap]); have dp := hI (grown_new (grown_tr e4.out a2.out) (Nat.le_of_lt ex) 78 #[.string ⟨n2.toArray⟩, .int .i64 c.h.kind, .int .i64 c.h.n, .int .i64 c.h.d, .string c.h.name, .int .i64 c.h.k, .slice c.A c.len c.cap]); have fa := hI (ga.out.far (r := gy) (fun e => b1.out (by rw [e])) (Nat.le_trans au (Nat.le_of_lt ex)) 78 #[.string ⟨n2.toArray⟩, .int .i64 c.h.kind, .int .i64 c.h.n, .int .i64 c.h.d, .string c.h.name, .int .i64 c.h.k, .slice c.A c.len c.cap]); have fb := hI (((((es.out.belowW bz.out).grown b2.out P.out).grown b3.out P.out).grown a2.out P.out).far (g' := gy) (t' := 78) (by omega) #[.string ⟨n2.toArray⟩, .int .i64 c.h.kind, .int .i64 c.h.n, .int .i64 c.h.d, .string c.h.name, .int .i64 c.h.k, .slice c.A c.len c.cap]); have fc := hI (((((et.out.belowW bz.out).grown b2.out H.out).grown b3.out H.out).grown a2.out H.out).far (g' := gy) (t' := 78) (by omega) #[.string ⟨n2.toArray⟩, .int .i64 c.h.kind, .int .i64 c.h.n, .int .i64 c.h.d, .string c.h.name, .int .i64 c.h.k, .slice c.A c.len c.cap]); have fd := hI (gc.out.far (r := gy) (by omega) 78 #[.string ⟨n2.toArray⟩, .int .i64 c.h.kind, .int .i64 c.h.n, .int .i64 c.h.d, .string c.h.name, .int .i64 c.h.k, .slice c.A c.len c.cap]); have fe := hI (grown_new (r := gy) (grown_tr (grown_tr (grown_tr (grown_tr eu.out (grown_of (some g) bz.out)) b2.out) b3.out) a2.out) (by omega) 78 #[.string ⟨n2.toArray⟩, .int .i64 c.h.kind, .int .i64 c.h.n, .int .i64 c.h.d, .string c.h.name, .int .i64 c.h.k, .slice c.A c.len c.cap]); obtain ⟨gd, m⟩ := eX (putB wq69 gy 78 #[.string ⟨n2.toArray⟩, .int .i64 c.h.kind, .int .i64 c.h.n, .int .i64 c.h.d, .string c.h.name, .int .i64 c.h.k, .slice c.A c.len c.cap]); have ho : wq69.heap.size ≤ gd.heap.size := (by rw [m, putB_size]; exact Nat.le_refl _); rw [← m] at dp fa fb fc e9 fd fe ⊢; clear m da db dc dd de df dg dh di dj dk dl dm dn; have j := hI (pWant fa.out (by omega) [59] false (by decide))
          cases hn71 : wantP ts false [59] k9 with
          | out =>
           rw [hn71] at j; clear hn71
           go_wp2_with fail
           refine j.out.mono ?_
           rintro e w9 y
           exact y.elim
          | bad I J L =>
           rw [hn71] at j; have M := hI (show C = .bad I J L by rw [e6.out, hn71] <;> rfl); clear hn71
           go_wp2_with fail
           refine j.out.mono ?_
           rintro e w9 ⟨rfl, F⟩
           go_wp2_with fail
           rw [M.out]
           exact ⟨rfl, prp_bad (hI (grown_tr dp.out F.out))⟩
          | ok u5 k10 =>
           rw [hn71] at j; have hp := (want_fw (ts := ts) false [59] k9) _ _ hn71; have ge := hI (show C = (bodyP nameP ts fu k10 (B.map EqN.pl ++ [⟨n2, e2⟩]) (z.map EdN.pl)).bind fun b k3 => .ok ⟨n, b.1, b.2⟩ k3 by rw [e6.out, hn71] <;> rfl); clear hn71
           go_wp2_with fail
           refine j.out.mono ?_
           rintro e wq71 ⟨y, ar, gf⟩
           cases y
           have ff := hI (fc.out.grown ar.out H.out); have gg := hI (ina_mv fd.out (fun b hb e => by injection e with e; omega) ar.out); have hq := ar.out.size
           have gh : (⟨n2.toArray⟩ : ByteArray).size ≤ maxLen := by
            show n2.toArray.size ≤ _
            rw [List.size_toArray]
            unfold maxLen
            omega
           have a3 := hI (below_box wq71 (Obj.cells #[.string ⟨n2.toArray⟩, .int .i64 c.h.kind, .int .i64 c.h.n, .int .i64 c.h.d, .string c.h.name, .int .i64 c.h.k, .slice c.A c.len c.cap] 78)); have fg := hI ((av.out.moved pzQ pzG (.inr ⟨g, rfl, by omega⟩) (grown_tr fe.out ar.out)).belowW pzQ pzG a3.out); have gi := hI (show Avd (Own N) PzQ (fun b => l + 1 ≤ b ∧ b < (wq71.alloc (Obj.cells #[.string ⟨n2.toArray⟩, .int .i64 c.h.kind, .int .i64 c.h.n, .int .i64 c.h.d, .string c.h.name, .int .i64 c.h.k, .slice c.A c.len c.cap] 78)).heap.size ∧ some b ≠ s.ownBlock) (wq71.alloc (Obj.cells #[.string ⟨n2.toArray⟩, .int .i64 c.h.kind, .int .i64 c.h.n, .int .i64 c.h.d, .string c.h.name, .int .i64 c.h.k, .slice c.A c.len c.cap] 78)) (⟨⟨n2.toArray⟩, c, e2⟩ : EqN) from ⟨(gg.out.belowW a3.out).weaken (fun b hb => ⟨⟨by omega, by rw [World.size_alloc]; omega, fun e => by have := aw b e.symm; omega⟩, fun e => by have := ax b e; omega⟩), gh⟩); have gj : ∀ u ∈ EqN.cells (⟨⟨n2.toArray⟩, c, e2⟩ : EqN), u.oneCell' = true := (by simp [EqN.cells, Value.oneCell']); have gm : l + 1 ≤ (wq71.alloc (Obj.cells #[.string ⟨n2.toArray⟩, .int .i64 c.h.kind, .int .i64 c.h.n, .int .i64 c.h.d, .string c.h.name, .int .i64 c.h.k, .slice c.A c.len c.cap] 78)).heap.size := (by rw [World.size_alloc]; omega); obtain ⟨b5, b6, b7, b8, ca, cb⟩ := ff.out.all3; obtain ⟨da, db, dc, dd, de, df, dg, dh, di, dj, dk, dl, dm, dn⟩ := (e9.out.grown ar.out b1.out).all7; obtain ⟨i0, T, U, V, W⟩ := info_parts Tryz.infoEqn
           go_wp2_with (at_builtin; refine wpList_append_mk rfl _ _ _ rfl (avd_ok pzQ) EqN.len7 rfl fg.out.a gi.out i0 _ 88 Tryz.underlying71 T U V W rfl (by omega) (by omega) (by omega) wq71.heap.size _ rfl (show Blk (wq71.alloc (Obj.cells #[.string ⟨n2.toArray⟩, .int .i64 c.h.kind, .int .i64 c.h.n, .int .i64 c.h.d, .string c.h.name, .int .i64 c.h.k, .slice c.A c.len c.cap] 78)) wq71.heap.size 78 (EqN.cells (⟨⟨n2.toArray⟩, c, e2⟩ : EqN)).toArray from Blk.new _ _ _) gj gm ?_)
           intro v9 w9 hmk hgr hob
           have ad := hI (fg.out.pushed pzG hmk hgr (by rw [World.size_alloc]; exact hob)); have cm := hI hgr; obtain ⟨o, p, X, _⟩ := hmk.lies (avd_ok pzQ); clear hmk hgr hob T U V W b5 b6 b7 b8 ca cb da db dc dd de df dg dh di dj dk dl dm dn; obtain ⟨q, Y⟩ := eX ((B ++ [(⟨⟨n2.toArray⟩, c, e2⟩ : EqN)]).length); rw [← Y] at X; clear Y; subst X
           have G : ∀ b, s.ownBlock = some b → l + 1 ≤ b := fun b h => (aw b h).1
           have bj := hI (env_row (gf.out.belowW a3.out) cm.out (fun b h => by have := G b h; omega)); have F := hI (grown_row (grown_tr (grown_tr dp.out ar.out) (grown_of (some g) a3.out)) cm.out (fun b h => by have := G b h; omega)); have gn := hI (((fb.out.grown ar.out P.out).belowW a3.out).grown cm.out (fun e => by have := G _ e.symm; omega)); have dq := hI ((ff.out.belowW a3.out).grown cm.out (fun e => by have := G _ e.symm; omega)); have fh := hI (ad.out.moved pzQ pzG (.inr ⟨l, rfl, Nat.lt_succ_self _⟩) (putB_grown w9 l 74 #[.string ⟨n.toArray⟩, .slice o q p, N])); obtain ⟨b5, b6, b7, b8, ca, cb⟩ := dq.out.all3
           go_wp2_with fail
           rw [(show w9.setCell ⟨l, 1, none⟩ (.slice o q p) = putB w9 l 74 #[.string ⟨n.toArray⟩, .slice o q p, N] from dq.out.setCell_eq 1 _)]; have fi := hI (dq.out.put #[.string ⟨n.toArray⟩, .slice o q p, N]); have fj := hI (grown_new F.out (Nat.le_of_lt ah) 74 #[.string ⟨n.toArray⟩, .slice o q p, N]); have fk := hI (bj.out.far (r := l) (fun e => H.out (by rw [e])) (Nat.le_trans au (Nat.le_of_lt ah)) 74 #[.string ⟨n.toArray⟩, .slice o q p, N]); have fm := hI (gn.out.far (g' := l) (t' := 74) (by omega) #[.string ⟨n.toArray⟩, .slice o q p, N]); obtain ⟨go, m⟩ := eX (putB w9 l 74 #[.string ⟨n.toArray⟩, .slice o q p, N]); have hr : w9.heap.size ≤ go.heap.size := (by rw [m, putB_size]; exact Nat.le_refl _); rw [← m] at fj fk fm fi fh ⊢; clear m b5 b6 b7 b8 ca cb
           go_roundg fu
           case measure => omega
           case rel => exact ⟨k10, B ++ [(⟨⟨n2.toArray⟩, c, e2⟩ : EqN)], z, .slice o q p, N, hI (by rw [ge.out, List.map_append]; rfl), by omega, by omega, by rw [List.length_append]; show B.length + 1 ≤ _; omega, by omega, fk, fj, fm, fi, fh⟩
end Go.Proofs.YtkjoohnndobjeaaGreatDoor
