/-
 The walk of the parser's modes.
-/
import Derived.Test.YtkjoohnndobjeaaGreatDoorPbC
import Derived.Test.YtkjoohnndobjeaaGreatDoorQW
set_option linter.unusedVariables false
set_option maxHeartbeats 4000000
set_option maxRecDepth 100000
namespace Go.Proofs.YtkjoohnndobjeaaGreatDoor
open Go.RowKit Go.Fl Go.Fl.Lx Go.Fl.Nm Go.Fl.Fm Go.Fl.Rt Go.Fl.Pa
open List (setIfInBounds_toArray set_cons_zero set_cons_succ getElem_toArray getElem_cons_zero getElem_cons_succ)
theorem pr_cases {α : Type} {r : PR α} (h : r ≠ .out) : (∃ l c e, r = .bad l c e) ∨ ∃ a k, r = .ok a k := by
 cases r with
 | ok a k => exact .inr ⟨a, k, rfl⟩
 | bad l c e => exact .inl ⟨l, c, e, rfl⟩
 | out => exact absurd rfl h
theorem pst3 {w : World} {g : Nat} {t : TypeId} {a b c : Value} (hB : Blk w g t #[a, b, c]) (a' b' c' : Value) :
  ((w.setCell ⟨g, 0, none⟩ a').setCell ⟨g, 1, none⟩ b').setCell ⟨g, 2, none⟩ c' = putB w g t #[a', b', c'] := by
 rw [show w.setCell ⟨g, 0, none⟩ a' = putB w g t #[a', b, c] from hB.setCell_eq 0 a']
 have h1 := hB.put #[a', b, c]
 rw [show (putB w g t #[a', b, c]).setCell ⟨g, 1, none⟩ b' = putB (putB w g t #[a', b, c]) g t #[a', b', c] from h1.setCell_eq 1 b', putB_putB]
 have h2 := hB.put #[a', b', c]
 rw [show (putB w g t #[a', b', c]).setCell ⟨g, 2, none⟩ c' = putB (putB w g t #[a', b', c]) g t #[a', b', c'] from h2.setCell_eq 2 c', putB_putB]
theorem pst_3_2 {w : World} {g : Nat} {t : TypeId} {a b c : Value} (hB : Blk w g t #[a, b, c]) (x : Value) : w.setCell ⟨g, 2, none⟩ x = putB w g t #[a, b, x] := hB.setCell_eq 2 x
theorem eqn_bind {β : Type} {ts : List Tok} {k : Nat} (f : EqP → Nat → PR β) : (eqnP nameP ts k).bind f = (nmR nameP ts k).bind fun n k1 => (wantP ts false [39] k1).bind fun _ k2 => (wantP ts false [61] k2).bind fun _ k3 => (sumE nameP ts k3).bind fun e k4 => (wantP ts false [59] k4).bind fun _ k5 => f ⟨n, e⟩ k5 := by
 unfold eqnP
 simp only [bind_assoc']
 rfl
theorem Tryz.infoEdge : (Tryz.prog.info? 81).map (fun i => (i.zero, i.size, i.bytes)) = some (some (.agg #[.int .i64 0, .int .i64 0, .int .i64 0, .string ⟨#[]⟩, .int .i64 0, .slice none 0 0, .int .i64 0, .string ⟨#[]⟩, .slice none 0 0]), 9, 120) := by kernel_rfl
theorem Tryz.infoEqn : (Tryz.prog.info? 78).map (fun i => (i.zero, i.size, i.bytes)) = some (some (.agg #[.string ⟨#[]⟩, .int .i64 0, .int .i64 0, .int .i64 0, .string ⟨#[]⟩, .int .i64 0, .slice none 0 0]), 7, 88) := by kernel_rfl
def MdV (d : MdP) (w : World) (e : Ending) (w' : World) : Prop := ∃ x : MdN, e = .returned x.val ∧ x.pl = d ∧ Hid (PzM (fun b => w.heap.size ≤ b) w' x)

theorem pMode {w0 w : World} {g : Nat} {A : Option Addr} {len cap : Nat} {ts : List Tok} {k : Nat} (h : Env w0 g A len cap ts k 0 w) (hk : k ≤ 100000) (hR : RX w0) (hX : FX w0) (hD : DigTs ts) : Calls Tryz.prog 112 #[.pointer (some ⟨g, 0, none⟩)] w (PRP MdV w0 g A len cap ts 0 (modeP nameP ts k) w) := by
  have g8 := hI h
  obtain ⟨B, ck⟩ := eX (modeP nameP ts k)
  have fe := hI ck
  rw [← ck]
  clear ck
  have g9 : ts.length ≤ 100000 := by have := h.t.hl; have := h.t.hs; omega
  go_enter Tryz.func112, Tryz.ntmps112
  go_upto_region 1 with (fail)
  obtain ⟨w1, bu⟩ := eX (w.alloc (Obj.cells #[.string ⟨#[]⟩, .slice none 0 0, .slice none 0 0] 74))
  have O1 := hI (show Below w.heap.size w w1 by rw [bu]; exact below_box _ _)
  have F1 := hI (show Blk w1 w.heap.size 74 #[.string ⟨#[]⟩, .slice none 0 0, .slice none 0 0] by rw [bu]; exact Blk.new _ _ _)
  rw [← bu]
  clear bu
  have O := hI (show some w.heap.size ≠ some g from fun e => by have := h.gl; injection e with e; omega)
  have fg : w.heap.size ≠ g := fun e => O.out (by rw [e])
  have ao : w0.heap.size ≤ w.heap.size := h.b.size
  have fh := hI (h.belowW O1.out)
  have dt := hI (grown_of (some g) O1.out)
  clear h
  have du := hI (show B = (nmR nameP ts k).bind fun n k1 => (wantP ts false [123] k1).bind fun _ k2 => (bodyP nameP ts (ts.length + 1) k2 [] []).bind fun b k3 => .ok ⟨n, b.1, b.2⟩ k3 from fe.out)
  have i := hI (pNm fh.out (by omega))
  cases hn1 : nmR nameP ts k with
  | out =>
    rw [hn1] at i
    clear hn1
    go_wp2_with fail
    refine i.out.mono ?_
    rintro e w9 s
    exact s.elim
  | bad H I J =>
    rw [hn1] at i
    have L := hI (show B = .bad H I J by rw [du.out, hn1] <;> rfl)
    clear hn1
    go_wp2_with fail
    refine i.out.mono ?_
    rintro e w9 ⟨rfl, E⟩
    go_wp2_with fail
    rw [L.out]
    exact ⟨rfl, prp_bad (hI (grown_tr dt.out E.out))⟩
  | ok n k1 =>
    rw [hn1] at i
    have ha := (nmR_fw (nm := nameP) (ts := ts) k) _ _ hn1
    have dv := hI (show B = (wantP ts false [123] k1).bind fun _ k2 => (bodyP nameP ts (ts.length + 1) k2 [] []).bind fun b k3 => .ok ⟨n, b.1, b.2⟩ k3 by rw [du.out, hn1] <;> rfl)
    have hc := nmR_len hn1
    clear hn1
    go_wp2_with fail
    refine i.out.mono ?_
    rintro e wq1 ⟨s, HGq1, HVq1⟩
    cases s
    have fi := hI (grown_tr dt.out HGq1.out)
    have dw := hI (F1.out.grown HGq1.out O.out)
    go_upto_region 2 with (fail)
    obtain ⟨dx, j⟩ := eX (wq1.alloc (Obj.cells #[.string ⟨n.toArray⟩, .slice none 0 0, .slice none 0 0] 74))
    have cl := hI (show Below wq1.heap.size wq1 dx by rw [j]; exact below_box _ _)
    have dy := hI (show Blk dx wq1.heap.size 74 #[.string ⟨n.toArray⟩, .slice none 0 0, .slice none 0 0] by rw [j]; exact Blk.new _ _ _)
    rw [← j]
    clear j
    obtain ⟨l, bv⟩ := eX (wq1.heap.size)
    have G := hI (show some l ≠ some g from fun e => by have := HVq1.out.gl; injection e with e; omega)
    have af : w.heap.size < l := by rw [bv]; exact dw.out.lt
    rw [← bv] at dy ⊢
    have hd : g < l := by rw [bv]; exact HVq1.out.gl
    clear bv
    have fj := hI (HVq1.out.belowW cl.out)
    have dz := hI (grown_tr fi.out (grown_of (some g) cl.out))
    have fk := hI (dw.out.belowW cl.out)
    have i := hI (pWant fj.out (by omega) [123] false (by decide))
    cases hn3 : wantP ts false [123] k1 with
    | out =>
      rw [hn3] at i
      clear hn3
      go_wp2_with fail
      refine i.out.mono ?_
      rintro e w9 s
      exact s.elim
    | bad H I J =>
      rw [hn3] at i
      have L := hI (show B = .bad H I J by rw [dv.out, hn3] <;> rfl)
      clear hn3
      go_wp2_with fail
      refine i.out.mono ?_
      rintro e w9 ⟨rfl, E⟩
      go_wp2_with fail
      rw [L.out]
      exact ⟨rfl, prp_bad (hI (grown_tr dz.out E.out))⟩
    | ok u2 k2 =>
      rw [hn3] at i
      have he := (want_fw (ts := ts) false [123] k1) _ _ hn3
      have fm := hI (show B = (bodyP nameP ts (ts.length + 1) k2 [] []).bind fun b k3 => .ok ⟨n, b.1, b.2⟩ k3 by rw [dv.out, hn3] <;> rfl)
      clear hn3
      go_wp2_with fail
      refine i.out.mono ?_
      rintro e wq3 ⟨s, HGq3, HVq3⟩
      cases s
      have fn := hI (grown_tr dz.out HGq3.out)
      have fo := hI (fk.out.grown HGq3.out O.out)
      have fp := hI (dy.out.grown HGq3.out G.out)
      go_wp2_with fail
      go_loopg [] (ts.length + 1) (fun fu wr => ∃ (D : Nat) (z : List EqN) (y : List EdN) (q M : Value), Hid (B = (bodyP nameP ts fu D (z.map EqN.pl) (y.map EdN.pl)).bind fun b k3 => .ok ⟨n, b.1, b.2⟩ k3) ∧ D ≤ ts.length ∧ ts.length < fu + D ∧ z.length ≤ D ∧ y.length ≤ D ∧ Hid (Env w0 g A len cap ts D 0 wr) ∧ Hid (w.grownBy wr (some g)) ∧ Hid (Blk wr w.heap.size 74 #[.string ⟨#[]⟩, .slice none 0 0, .slice none 0 0]) ∧ Hid (Blk wr l 74 #[.string ⟨n.toArray⟩, q, M]) ∧ Hid (Mk2 78 7 EqN.cells PzQ 81 9 EdN.cells PzG (l + 1) wr q z M y))
      case atStart => exact ⟨k2, [], [], .slice none 0 0, .slice none 0 0, fm, by omega, by omega, by simp, by simp, HVq3, fn, fo, fp, hI (Mk2.nil _ _ _ _ _ _ _ _ _ _)⟩
      case round =>
        obtain ⟨D, z, y, q, M, HQ, hf, hg, hh, hi, fq, d0, d1, cn, ap⟩ := hrel
        cases gk with
        | zero => exfalso; omega
        | succ fu =>
          have d2 := hI (World.grownBy.refl wr (some g))
          have cp : l < wr.heap.size := cn.out.lt
          have aq : ∀ kb, q.ownBlock = some kb → l + 1 ≤ kb ∧ kb < wr.heap.size := fun kb h => ap.out.a.own.lt kb h
          have ar : ∀ kb, M.ownBlock = some kb → l + 1 ≤ kb ∧ kb < wr.heap.size := fun kb h => ap.out.b.own.lt kb h
          have ay := hI (pAccept fq.out (by omega) ⟨#[125]⟩)
          rw [show kwP (⟨#[125]⟩ : ByteArray).data.toList = false by decide, show (⟨#[125]⟩ : ByteArray).data.toList = [125] from rfl] at ay
          cases hb61 : isS false ts D [125] with
          | true =>
            have hj := isS_lt hb61
            rw [hb61] at ay
            have fr := hI (show B = .ok ⟨n, z.map EqN.pl, y.map EdN.pl⟩ (D + 1) by rw [HQ.out, bodyP, hb61, if_pos rfl]; rfl)
            clear hb61
            go_wp2_with fail
            refine ay.out.mono ?_
            rintro e wa61 ⟨rfl, HGa61, HVa61⟩
            simp only [if_true] at HVa61
            have bw := hI (grown_tr d0.out HGa61.out)
            have au := hI (d1.out.grown HGa61.out O.out)
            have bx := hI (cn.out.grown HGa61.out G.out)
            have bz := hI (grown_tr d2.out HGa61.out)
            have d3 := hI (ap.out.moved pzQ pzG (.inr ⟨g, rfl, by omega⟩) bz.out)
            obtain ⟨A5, c5, B5, d5, fs, ft, d4, d6⟩ := d3.out.lies pzQ pzG
            have fw := hI d4
            have fx := hI d6
            clear d4 d6 d3 ap aq ar
            subst fs ft
            have fy : (⟨n.toArray⟩ : ByteArray).size ≤ maxLen := by
              show n.toArray.size ≤ _
              rw [List.size_toArray]
              unfold maxLen
              omega
            go_upto_region 12 with (fail)
            obtain ⟨hm, ho, hp, hq, hr, ht⟩ := au.out.all3
            obtain ⟨b0, b1, b2, b3, b4, b5⟩ := bx.out.all3
            go_wp2_with fail
            rw [pst3 au.out]
            have FZ := hI (au.out.put #[.string ⟨n.toArray⟩, .slice A5 z.length c5, .slice B5 y.length d5])
            obtain ⟨z0, _, z1, _, z2, _⟩ := FZ.out.all3
            refine bodyPost_ret (v := .agg #[.string ⟨n.toArray⟩, .slice A5 z.length c5, .slice B5 y.length d5]) (by simp [results, Tryz.results112, go_sem, z0, z1, z2]) rfl ?_
            rw [fr.out]
            exact ⟨⟨⟨⟨n.toArray⟩, A5, z.length, c5, z, B5, y.length, d5, y⟩, rfl, rfl, hI ⟨fy, ((fw.out.mv pzQ (r := some w.heap.size) (fun b hb e => by injection e with e; omega) (putB_grown _ _ _ _)).weaken pzQ (fun b hb => by omega)), ((fx.out.mv pzG (r := some w.heap.size) (fun b hb e => by injection e with e; omega) (putB_grown _ _ _ _)).weaken pzG (fun b hb => by omega))⟩⟩, hI (grown_new bw.out (Nat.le_refl _) _ _), hI (HVa61.out.far fg ao _ _)⟩
          | false =>
            rw [hb61] at ay
            have b6 := hb61
            clear hb61
            go_wp2_with fail
            refine ay.out.mono ?_
            rintro e wa61 ⟨rfl, HGa61, HVa61⟩
            simp only [Bool.false_eq_true, if_false] at HVa61
            have bw := hI (grown_tr d0.out HGa61.out)
            have au := hI (d1.out.grown HGa61.out O.out)
            have bx := hI (cn.out.grown HGa61.out G.out)
            have bz := hI (grown_tr d2.out HGa61.out)
            have az := hI (pAccept HVa61.out (by omega) ⟨#[119, 104, 101, 110]⟩)
            rw [show kwP (⟨#[119, 104, 101, 110]⟩ : ByteArray).data.toList = true by decide, show (⟨#[119, 104, 101, 110]⟩ : ByteArray).data.toList = kWhen from rfl] at az
            cases hb63 : isS true ts D kWhen with
            | true =>
              have hu := isS_lt hb63
              rw [hb63] at az
              have d7 := hI (show B = (edgeP nameP ts (D + 1)).bind fun x k1 => (bodyP nameP ts fu k1 (z.map EqN.pl) (y.map EdN.pl ++ [x])).bind fun b k3 => .ok ⟨n, b.1, b.2⟩ k3 by rw [HQ.out, bodyP, b6, if_neg (by decide), hb63, if_pos rfl]; exact bind_assoc' _ _ _)
              clear hb63
              go_wp2_with fail
              refine az.out.mono ?_
              rintro e wa63 ⟨rfl, HGa63, HVa63⟩
              simp only [if_true] at HVa63
              have a0 := hI (grown_tr bw.out HGa63.out)
              have cu := hI (au.out.grown HGa63.out O.out)
              have b7 := hI (bx.out.grown HGa63.out G.out)
              have b8 := hI (grown_tr bz.out HGa63.out)
              clear b6
              have f3 := hI (ap.out.moved pzQ pzG (.inr ⟨g, rfl, by omega⟩) b8.out)
              have f4 := hI (show wr.heap.size ≤ wa63.heap.size from b8.out.size)
              have F : ∀ b, M.ownBlock = some b → l + 1 ≤ b := fun b h => (ar b h).1
              go_upto_region 5 with (fail)
              obtain ⟨H, I, J, hn⟩ | ⟨x, k9, hn⟩ := pr_cases (edge_no (nm := nameP) (ts := ts) (D + 1))
              · have L := hI (show B = .bad H I J by rw [d7.out, hn] <;> rfl)
                have i := hI (fun (w' : World) (h' : Env w0 g A len cap ts (D + 1) 0 w') => by have h9 := pEdge h' (by omega) hR hX hD; rw [hn] at h9; exact h9)
                clear hn
                have b9 := hI (below_dr wa63)
                have d8 := hI (HVa63.out.belowW b9.out)
                have d9 := hI (grown_tr a0.out (grown_of (some g) b9.out))
                have ca := hI (b7.out.belowW b9.out)
                refine wp_region_held_drew (S := fun w' => w'.cell? ⟨l, 0, none⟩ = some (.string ⟨n.toArray⟩) ∧ w'.cell? ⟨l, 1, none⟩ = some (q) ∧ w'.cell? ⟨l, 2, none⟩ = some (M)) (by kernel_rfl) ?_ (fun hHeld => ?_)
                case refine_1 => exact ⟨ca.out.cell 0, ca.out.cell 1, ca.out.cell 2⟩
                obtain ⟨f5, a2⟩ := eX (wa63.drew)
                rw [← a2] at b9 d8 d9 ca hHeld ⊢
                clear a2
                refine tkY 0 rfl (v := ?_) (.inl ⟨by rfl, ?_⟩) ?_
                case refine_2 => intro w9 hSw; (try dsimp only at hSw); go_simp; (try with_reducible rfl)
                try simp only [Act.put, setIfInBounds_toArray, set_cons_zero, set_cons_succ, getElem_toArray, getElem_cons_zero]
                refine tkY 1 rfl (v := ?_) (.inl ⟨by rfl, ?_⟩) ?_
                case refine_2 => intro w9 hSw; (try dsimp only at hSw); go_simp; (try with_reducible rfl)
                try simp only [Act.put, setIfInBounds_toArray, set_cons_zero, set_cons_succ, getElem_toArray, getElem_cons_zero, getElem_cons_succ]
                refine tkY 2 rfl (v := ?_) (.inl ⟨by rfl, ?_⟩) ?_
                case refine_2 => intro w9 hSw; (try dsimp only at hSw); go_simp; (try with_reducible rfl)
                try simp only [Act.put, setIfInBounds_toArray, set_cons_zero, set_cons_succ, getElem_toArray, getElem_cons_zero, getElem_cons_succ]
                refine wpAnyH_ready (rs := [3]) (by kernel_rfl) (by simp) ?_
                refine (AllReadyH.cons rfl (fun K hK => ?_) AllReadyH.nil)
                go_simp
                (with_reducible refine (i.out f5 d8.out).mono ?_)
                rintro e w1502 ⟨rfl, E⟩
                clear hHeld
                go_wp2_with fail
                rw [L.out]
                exact ⟨rfl, prp_bad (hI (grown_tr d9.out E.out))⟩
              · have f6 := (edge_fw (nm := nameP) (ts := ts) (D + 1)) _ _ hn
                have av := hI (show B = (bodyP nameP ts fu k9 (z.map EqN.pl) (y.map EdN.pl ++ [x])).bind fun b k3 => .ok ⟨n, b.1, b.2⟩ k3 by rw [d7.out, hn] <;> rfl)
                have i := hI (fun (w' : World) (h' : Env w0 g A len cap ts (D + 1) 0 w') => by have h9 := pEdge h' (by omega) hR hX hD; rw [hn] at h9; exact h9)
                clear hn
                have an := hI (below_dr wa63)
                have cv := hI (HVa63.out.belowW an.out)
                have cw := hI (grown_tr a0.out (grown_of (some g) an.out))
                have a3 := hI (cu.out.belowW an.out)
                have cb := hI (b7.out.belowW an.out)
                have cx := hI (f3.out.belowW pzQ pzG an.out)
                have a4 := hI (Nat.le_trans f4.out an.out.size)
                refine wp_region_held_drew (S := fun w' => w'.cell? ⟨w.heap.size, 0, none⟩ = some (.string ⟨#[]⟩)) (by kernel_rfl) ?_ (fun hHeld => ?_)
                case refine_1 => exact a3.out.cell 0
                obtain ⟨ea, a2⟩ := eX (wa63.drew)
                rw [← a2] at an cv cw a3 cb cx a4 hHeld ⊢
                clear a2
                refine tkY 0 rfl (v := ?_) (.inl ⟨by rfl, ?_⟩) ?_
                case refine_2 => intro w9 hSw; (try dsimp only at hSw); go_simp; (try with_reducible rfl)
                try simp only [Act.put, setIfInBounds_toArray, set_cons_zero, set_cons_succ, getElem_toArray, getElem_cons_zero]
                refine tkY 2 rfl (v := ?_) (.inl ⟨by rfl, ?_⟩) ?_
                case refine_2 => intro w9 hSw; (try dsimp only at hSw); go_simp; (try with_reducible rfl)
                try simp only [Act.put, setIfInBounds_toArray, set_cons_zero, set_cons_succ, getElem_toArray, getElem_cons_zero, getElem_cons_succ]
                refine wpAnyH_ready (rs := [1, 3]) (by kernel_rfl) (by simp) ?_
                refine (AllReadyH.cons rfl (fun K hK => ?_) (AllReadyH.cons rfl (fun K hK => ?_) AllReadyH.nil))
                · obtain ⟨a5, a6, a7, a8, a9, ba⟩ := cb.out.all3
                  go_simp
                  clear a5 a6 a7 a8 a9 ba
                  clear hHeld
                  refine hK.out _ _ ?_ (fun hHeld => ?_)
                  case refine_1 => exact a3.out.cell 0
                  clear hK K
                  try simp only [setIfInBounds_toArray, set_cons_zero, set_cons_succ]
                  refine wpAnyH_ready (rs := [3]) (by kernel_rfl) (by simp) ?_
                  refine (AllReadyH.cons rfl (fun K hK => ?_) AllReadyH.nil)
                  go_simp
                  (with_reducible refine (i.out ea cv.out).mono ?_)
                  rintro e R ⟨⟨x9, rfl, hpl9, HZ9⟩, Q, bb⟩
                  have cy := hI (bb.out)
                  have cz := hI (grown_tr cw.out Q.out)
                  have aw := hI (a3.out.grown Q.out O.out)
                  have cc := hI (cb.out.grown Q.out G.out)
                  have cd := hI (cx.out.moved pzQ pzG (.inr ⟨g, rfl, by omega⟩) Q.out)
                  have ce := hI (Nat.le_trans a4.out Q.out.size)
                  have c0 := hI (show PzG (fun b => wr.heap.size ≤ b ∧ b < R.heap.size) R (x9) from pzG.weaken (pzG.lt HZ9.out) (fun b hb => ⟨Nat.le_trans a4.out hb.1, hb.2⟩))
                  have cf := hI hpl9
                  clear hpl9
                  go_wp2_with fail
                  clear hHeld
                  refine hK.out _ _ ?_ (fun hHeld => ?_)
                  case refine_1 => exact aw.out.cell 0
                  clear hK K
                  try simp only [setIfInBounds_toArray, set_cons_zero, set_cons_succ]
                  refine wpAnyH_ready (rs := [4]) (by kernel_rfl) (by simp) ?_
                  refine (AllReadyH.cons rfl (fun K hK => ?_) AllReadyH.nil)
                  go_simp
                  obtain ⟨ae, P⟩ := eX (R.alloc (Obj.cells #[.int .i64 x9.v.h.kind, .int .i64 x9.v.h.n, .int .i64 x9.v.h.d, .string x9.v.h.name, .int .i64 x9.v.h.k, .slice x9.v.A x9.v.len x9.v.cap, .int .i64 x9.dir, .string x9.tn, .slice x9.A x9.len x9.cap] 81))
                  have N := hI (show Below R.heap.size R ae by rw [P]; exact below_box _ _)
                  have c1 := hI (cy.out.belowW N.out)
                  have c2 := hI (grown_tr cz.out (grown_of (some g) N.out))
                  have bc := hI (aw.out.belowW N.out)
                  have c3 := hI (cc.out.belowW N.out)
                  have bd := hI (cd.out.belowW pzQ pzG N.out)
                  have be := hI (Nat.le_trans ce.out N.out.size)
                  have c4 := hI (show PzG (fun b => wr.heap.size ≤ b ∧ b < ae.heap.size) ae (x9) from pzG.weaken (pzG.lt (pzG.mv c0.out (fun b hb e => by cases e) (grown_none (Nat.le_refl _) N.out))) (fun b hb => ⟨hb.1.1, hb.2⟩))
                  have c6 := hI (show Blk ae R.heap.size 81 (EdN.cells (x9)).toArray by rw [P]; exact Blk.new _ _ _)
                  rw [← P]
                  clear P
                  clear hHeld
                  refine hK.out _ _ ?_ (fun hHeld => ?_)
                  case refine_1 => exact bc.out.cell 0
                  clear hK K
                  try simp only [setIfInBounds_toArray, set_cons_zero, set_cons_succ]
                  refine wpAnyH_ready (rs := [5]) (by kernel_rfl) (by simp) ?_
                  refine (AllReadyH.cons rfl (fun K hK => ?_) AllReadyH.nil)
                  obtain ⟨i0, T, U, V, W⟩ := info_parts Tryz.infoEdge
                  have ah : ∀ u ∈ EdN.cells (x9), u.oneCell' = true := by simp [EdN.cells, Value.oneCell']
                  refine if_wanted (by rfl) ?_
                  refine oper_append_mk _ _ _ rfl (avd_ok pzG) EdN.len9 rfl bd.out.b (show Avd (Own q) PzG _ _ _ from pzG.weaken c4.out (fun b hb => ⟨⟨by omega, hb.2, fun e => by have := ar b e.symm; omega⟩, fun e => by have := aq b e; omega⟩)) i0 _ 120 Tryz.underlying72 T U V W rfl (by omega) (by omega) (by omega) R.heap.size _ rfl c6.out ah (Nat.le_trans cp be.out) ?_
                  intro v9 w1515 hmk hgr hob
                  have ad := hI hmk
                  have C := hI hgr
                  have bf := hI hob
                  clear hmk hgr hob T U V W i0 ah
                  obtain ⟨m, o, X, _⟩ := ad.out.lies (avd_ok pzG)
                  obtain ⟨p, Y⟩ := eX ((y ++ [x9]).length)
                  rw [← Y] at X
                  clear Y
                  subst X
                  try simp only [Act.put, setIfInBounds_toArray]
                  have bg := hI (env_row c1.out C.out (fun b h => by have := F b h; omega))
                  have bh := hI (grown_row c2.out C.out (fun b h => by have := F b h; omega))
                  have ai := hI (bc.out.grown C.out (fun e => by have := F _ e.symm; omega))
                  have Z := hI (c3.out.grown C.out (fun e => by have := F _ e.symm; omega))
                  have bi := hI ((Mk2.pushed pzQ bd.out.swap ad.out C.out bf.out).swap)
                  have bj := hI (Nat.le_trans be.out C.out.size)
                  clear hHeld
                  refine hK.out _ _ ?_ (fun hHeld => ?_)
                  case refine_1 => exact ai.out.cell 0
                  clear hK K
                  try simp only [setIfInBounds_toArray, set_cons_zero, set_cons_succ]
                  refine tkY 6 rfl (v := ?_) (.inl ⟨by rfl, ?_⟩) ?_
                  case refine_2 => intro w9 hSw; (try dsimp only at hSw); go_simp; (try with_reducible rfl)
                  try simp only [Act.put, setIfInBounds_toArray, set_cons_zero, set_cons_succ, getElem_toArray, getElem_cons_zero, getElem_cons_succ]
                  refine wpAnyH_ready (rs := [7]) (by kernel_rfl) (by simp) ?_
                  refine (AllReadyH.cons rfl (fun K hK => ?_) AllReadyH.nil)
                  obtain ⟨bk, bl, bm, bn, bo, bp⟩ := Z.out.all3
                  go_simp
                  rw [pst_3_2 Z.out]
                  clear bk bl bm bn bo bp
                  have aj := hI (bg.out.far (r := l) (fun e => G.out (by rw [e])) (Nat.le_trans ao (Nat.le_of_lt af)) 74 #[.string ⟨n.toArray⟩, q, .slice m p o])
                  have ak := hI (grown_new bh.out (Nat.le_of_lt af) 74 #[.string ⟨n.toArray⟩, q, .slice m p o])
                  have aa := hI (ai.out.far (g' := l) (t' := 74) (by omega) #[.string ⟨n.toArray⟩, q, .slice m p o])
                  have al := hI (bi.out.moved pzQ pzG (.inr ⟨l, rfl, by omega⟩) (putB_grown w1515 l 74 #[.string ⟨n.toArray⟩, q, .slice m p o]))
                  have bq := hI (show wr.heap.size ≤ (putB w1515 l 74 #[.string ⟨n.toArray⟩, q, .slice m p o]).heap.size by rw [putB_size]; exact bj.out)
                  have am := hI (Z.out.put #[.string ⟨n.toArray⟩, q, .slice m p o])
                  obtain ⟨eb, j⟩ := eX (putB w1515 (l) 74 #[.string ⟨n.toArray⟩, q, .slice m p o])
                  try rw [← j] at aj
                  try rw [← j] at ak
                  try rw [← j] at aa
                  try rw [← j] at al
                  try rw [← j] at bq
                  try rw [← j] at am
                  rw [← j]
                  clear j hHeld
                  refine hK.out _ _ ?_ (fun hHeld => ?_)
                  case refine_1 => exact aa.out.cell 0
                  clear hK K
                  try simp only [setIfInBounds_toArray, set_cons_zero, set_cons_succ]
                  refine wpAnyH_done (by kernel_rfl) ?_ _
                  go_wp2_with fail
                  go_roundg fu
                  case measure => omega
                  case rel => exact ⟨k9, z, y ++ [x9], q, .slice m p o, hI (by rw [av.out, List.map_append, ← cf.out]; rfl), by omega, by omega, by omega, by rw [List.length_append]; show y.length + 1 ≤ _; omega, aj, ak, aa, am, al⟩
                · go_simp
                  (with_reducible refine (i.out ea cv.out).mono ?_)
                  rintro e w1512 ⟨⟨x9, rfl, hpl9, HZ9⟩, HC1512, bb⟩
                  have ec := hI (bb.out)
                  have ee := hI (grown_tr cw.out HC1512.out)
                  have cg := hI (a3.out.grown HC1512.out O.out)
                  have c7 := hI (cb.out.grown HC1512.out G.out)
                  have ef := hI (cx.out.moved pzQ pzG (.inr ⟨g, rfl, by omega⟩) HC1512.out)
                  have eg := hI (Nat.le_trans a4.out HC1512.out.size)
                  have eh := hI (show PzG (fun b => wr.heap.size ≤ b ∧ b < w1512.heap.size) w1512 (x9) from pzG.weaken (pzG.lt HZ9.out) (fun b hb => ⟨Nat.le_trans a4.out hb.1, hb.2⟩))
                  have cf := hI hpl9
                  clear hpl9
                  go_wp2_with fail
                  clear hHeld
                  refine hK.out _ _ ?_ (fun hHeld => ?_)
                  case refine_1 => exact cg.out.cell 0
                  clear hK K
                  try simp only [setIfInBounds_toArray, set_cons_zero, set_cons_succ]
                  refine wpAnyH_ready (rs := [1, 4]) (by kernel_rfl) (by simp) ?_
                  refine (AllReadyH.cons rfl (fun K hK => ?_) (AllReadyH.cons rfl (fun K hK => ?_) AllReadyH.nil))
                  · obtain ⟨a5, a6, a7, a8, a9, ba⟩ := c7.out.all3
                    go_simp
                    clear a5 a6 a7 a8 a9 ba
                    clear hHeld
                    refine hK.out _ _ ?_ (fun hHeld => ?_)
                    case refine_1 => exact cg.out.cell 0
                    clear hK K
                    try simp only [setIfInBounds_toArray, set_cons_zero, set_cons_succ]
                    refine wpAnyH_ready (rs := [4]) (by kernel_rfl) (by simp) ?_
                    refine (AllReadyH.cons rfl (fun K hK => ?_) AllReadyH.nil)
                    go_simp
                    obtain ⟨ae, P⟩ := eX (w1512.alloc (Obj.cells #[.int .i64 x9.v.h.kind, .int .i64 x9.v.h.n, .int .i64 x9.v.h.d, .string x9.v.h.name, .int .i64 x9.v.h.k, .slice x9.v.A x9.v.len x9.v.cap, .int .i64 x9.dir, .string x9.tn, .slice x9.A x9.len x9.cap] 81))
                    have N := hI (show Below w1512.heap.size w1512 ae by rw [P]; exact below_box _ _)
                    have c1 := hI (ec.out.belowW N.out)
                    have c2 := hI (grown_tr ee.out (grown_of (some g) N.out))
                    have bc := hI (cg.out.belowW N.out)
                    have c3 := hI (c7.out.belowW N.out)
                    have bd := hI (ef.out.belowW pzQ pzG N.out)
                    have be := hI (Nat.le_trans eg.out N.out.size)
                    have c4 := hI (show PzG (fun b => wr.heap.size ≤ b ∧ b < ae.heap.size) ae (x9) from pzG.weaken (pzG.lt (pzG.mv eh.out (fun b hb e => by cases e) (grown_none (Nat.le_refl _) N.out))) (fun b hb => ⟨hb.1.1, hb.2⟩))
                    have c6 := hI (show Blk ae w1512.heap.size 81 (EdN.cells (x9)).toArray by rw [P]; exact Blk.new _ _ _)
                    rw [← P]
                    clear P
                    clear hHeld
                    refine hK.out _ _ ?_ (fun hHeld => ?_)
                    case refine_1 => exact bc.out.cell 0
                    clear hK K
                    try simp only [setIfInBounds_toArray, set_cons_zero, set_cons_succ]
                    refine wpAnyH_ready (rs := [5]) (by kernel_rfl) (by simp) ?_
                    refine (AllReadyH.cons rfl (fun K hK => ?_) AllReadyH.nil)
                    obtain ⟨i0, T, U, V, W⟩ := info_parts Tryz.infoEdge
                    have ah : ∀ u ∈ EdN.cells (x9), u.oneCell' = true := by simp [EdN.cells, Value.oneCell']
                    refine if_wanted (by rfl) ?_
                    refine oper_append_mk _ _ _ rfl (avd_ok pzG) EdN.len9 rfl bd.out.b (show Avd (Own q) PzG _ _ _ from pzG.weaken c4.out (fun b hb => ⟨⟨by omega, hb.2, fun e => by have := ar b e.symm; omega⟩, fun e => by have := aq b e; omega⟩)) i0 _ 120 Tryz.underlying72 T U V W rfl (by omega) (by omega) (by omega) w1512.heap.size _ rfl c6.out ah (Nat.le_trans cp be.out) ?_
                    intro v9 w1515 hmk hgr hob
                    have ad := hI hmk
                    have C := hI hgr
                    have bf := hI hob
                    clear hmk hgr hob T U V W i0 ah
                    obtain ⟨m, o, X, _⟩ := ad.out.lies (avd_ok pzG)
                    obtain ⟨p, Y⟩ := eX ((y ++ [x9]).length)
                    rw [← Y] at X
                    clear Y
                    subst X
                    try simp only [Act.put, setIfInBounds_toArray]
                    have bg := hI (env_row c1.out C.out (fun b h => by have := F b h; omega))
                    have bh := hI (grown_row c2.out C.out (fun b h => by have := F b h; omega))
                    have ai := hI (bc.out.grown C.out (fun e => by have := F _ e.symm; omega))
                    have Z := hI (c3.out.grown C.out (fun e => by have := F _ e.symm; omega))
                    have bi := hI ((Mk2.pushed pzQ bd.out.swap ad.out C.out bf.out).swap)
                    have bj := hI (Nat.le_trans be.out C.out.size)
                    clear hHeld
                    refine hK.out _ _ ?_ (fun hHeld => ?_)
                    case refine_1 => exact ai.out.cell 0
                    clear hK K
                    try simp only [setIfInBounds_toArray, set_cons_zero, set_cons_succ]
                    refine tkY 6 rfl (v := ?_) (.inl ⟨by rfl, ?_⟩) ?_
                    case refine_2 => intro w9 hSw; (try dsimp only at hSw); go_simp; (try with_reducible rfl)
                    try simp only [Act.put, setIfInBounds_toArray, set_cons_zero, set_cons_succ, getElem_toArray, getElem_cons_zero, getElem_cons_succ]
                    refine wpAnyH_ready (rs := [7]) (by kernel_rfl) (by simp) ?_
                    refine (AllReadyH.cons rfl (fun K hK => ?_) AllReadyH.nil)
                    obtain ⟨bk, bl, bm, bn, bo, bp⟩ := Z.out.all3
                    go_simp
                    rw [pst_3_2 Z.out]
                    clear bk bl bm bn bo bp
                    have aj := hI (bg.out.far (r := l) (fun e => G.out (by rw [e])) (Nat.le_trans ao (Nat.le_of_lt af)) 74 #[.string ⟨n.toArray⟩, q, .slice m p o])
                    have ak := hI (grown_new bh.out (Nat.le_of_lt af) 74 #[.string ⟨n.toArray⟩, q, .slice m p o])
                    have aa := hI (ai.out.far (g' := l) (t' := 74) (by omega) #[.string ⟨n.toArray⟩, q, .slice m p o])
                    have al := hI (bi.out.moved pzQ pzG (.inr ⟨l, rfl, by omega⟩) (putB_grown w1515 l 74 #[.string ⟨n.toArray⟩, q, .slice m p o]))
                    have bq := hI (show wr.heap.size ≤ (putB w1515 l 74 #[.string ⟨n.toArray⟩, q, .slice m p o]).heap.size by rw [putB_size]; exact bj.out)
                    have am := hI (Z.out.put #[.string ⟨n.toArray⟩, q, .slice m p o])
                    obtain ⟨eb, j⟩ := eX (putB w1515 (l) 74 #[.string ⟨n.toArray⟩, q, .slice m p o])
                    try rw [← j] at aj
                    try rw [← j] at ak
                    try rw [← j] at aa
                    try rw [← j] at al
                    try rw [← j] at bq
                    try rw [← j] at am
                    rw [← j]
                    clear j hHeld
                    refine hK.out _ _ ?_ (fun hHeld => ?_)
                    case refine_1 => exact aa.out.cell 0
                    clear hK K
                    try simp only [setIfInBounds_toArray, set_cons_zero, set_cons_succ]
                    refine wpAnyH_done (by kernel_rfl) ?_ _
                    go_wp2_with fail
                    go_roundg fu
                    case measure => omega
                    case rel => exact ⟨k9, z, y ++ [x9], q, .slice m p o, hI (by rw [av.out, List.map_append, ← cf.out]; rfl), by omega, by omega, by omega, by rw [List.length_append]; show y.length + 1 ≤ _; omega, aj, ak, aa, am, al⟩
                  · go_simp
                    obtain ⟨R, P⟩ := eX (w1512.alloc (Obj.cells #[.int .i64 x9.v.h.kind, .int .i64 x9.v.h.n, .int .i64 x9.v.h.d, .string x9.v.h.name, .int .i64 x9.v.h.k, .slice x9.v.A x9.v.len x9.v.cap, .int .i64 x9.dir, .string x9.tn, .slice x9.A x9.len x9.cap] 81))
                    have Q := hI (show Below w1512.heap.size w1512 R by rw [P]; exact below_box _ _)
                    have cy := hI (ec.out.belowW Q.out)
                    have cz := hI (grown_tr ee.out (grown_of (some g) Q.out))
                    have aw := hI (cg.out.belowW Q.out)
                    have cc := hI (c7.out.belowW Q.out)
                    have cd := hI (ef.out.belowW pzQ pzG Q.out)
                    have ce := hI (Nat.le_trans eg.out Q.out.size)
                    have c0 := hI (show PzG (fun b => wr.heap.size ≤ b ∧ b < R.heap.size) R (x9) from pzG.weaken (pzG.lt (pzG.mv eh.out (fun b hb e => by cases e) (grown_none (Nat.le_refl _) Q.out))) (fun b hb => ⟨hb.1.1, hb.2⟩))
                    have f7 := hI (show Blk R w1512.heap.size 81 (EdN.cells (x9)).toArray by rw [P]; exact Blk.new _ _ _)
                    rw [← P]
                    clear P
                    clear hHeld
                    refine hK.out _ _ ?_ (fun hHeld => ?_)
                    case refine_1 => exact aw.out.cell 0
                    clear hK K
                    try simp only [setIfInBounds_toArray, set_cons_zero, set_cons_succ]
                    refine wpAnyH_ready (rs := [1]) (by kernel_rfl) (by simp) ?_
                    refine (AllReadyH.cons rfl (fun K hK => ?_) AllReadyH.nil)
                    obtain ⟨a5, a6, a7, a8, a9, ba⟩ := cc.out.all3
                    go_simp
                    clear a5 a6 a7 a8 a9 ba
                    clear hHeld
                    refine hK.out _ _ ?_ (fun hHeld => ?_)
                    case refine_1 => exact aw.out.cell 0
                    clear hK K
                    try simp only [setIfInBounds_toArray, set_cons_zero, set_cons_succ]
                    refine wpAnyH_ready (rs := [5]) (by kernel_rfl) (by simp) ?_
                    refine (AllReadyH.cons rfl (fun K hK => ?_) AllReadyH.nil)
                    obtain ⟨i0, T, U, V, W⟩ := info_parts Tryz.infoEdge
                    have ah : ∀ u ∈ EdN.cells (x9), u.oneCell' = true := by simp [EdN.cells, Value.oneCell']
                    refine if_wanted (by rfl) ?_
                    refine oper_append_mk _ _ _ rfl (avd_ok pzG) EdN.len9 rfl cd.out.b (show Avd (Own q) PzG _ _ _ from pzG.weaken c0.out (fun b hb => ⟨⟨by omega, hb.2, fun e => by have := ar b e.symm; omega⟩, fun e => by have := aq b e; omega⟩)) i0 _ 120 Tryz.underlying72 T U V W rfl (by omega) (by omega) (by omega) w1512.heap.size _ rfl f7.out ah (Nat.le_trans cp ce.out) ?_
                    intro v9 w1515 hmk hgr hob
                    have ad := hI hmk
                    have C := hI hgr
                    have bf := hI hob
                    clear hmk hgr hob T U V W i0 ah
                    obtain ⟨m, o, X, _⟩ := ad.out.lies (avd_ok pzG)
                    obtain ⟨p, Y⟩ := eX ((y ++ [x9]).length)
                    rw [← Y] at X
                    clear Y
                    subst X
                    try simp only [Act.put, setIfInBounds_toArray]
                    have bg := hI (env_row cy.out C.out (fun b h => by have := F b h; omega))
                    have bh := hI (grown_row cz.out C.out (fun b h => by have := F b h; omega))
                    have ai := hI (aw.out.grown C.out (fun e => by have := F _ e.symm; omega))
                    have Z := hI (cc.out.grown C.out (fun e => by have := F _ e.symm; omega))
                    have bi := hI ((Mk2.pushed pzQ cd.out.swap ad.out C.out bf.out).swap)
                    have bj := hI (Nat.le_trans ce.out C.out.size)
                    clear hHeld
                    refine hK.out _ _ ?_ (fun hHeld => ?_)
                    case refine_1 => exact ai.out.cell 0
                    clear hK K
                    try simp only [setIfInBounds_toArray, set_cons_zero, set_cons_succ]
                    refine tkY 6 rfl (v := ?_) (.inl ⟨by rfl, ?_⟩) ?_
                    case refine_2 => intro w9 hSw; (try dsimp only at hSw); go_simp; (try with_reducible rfl)
                    try simp only [Act.put, setIfInBounds_toArray, set_cons_zero, set_cons_succ, getElem_toArray, getElem_cons_zero, getElem_cons_succ]
                    refine wpAnyH_ready (rs := [7]) (by kernel_rfl) (by simp) ?_
                    refine (AllReadyH.cons rfl (fun K hK => ?_) AllReadyH.nil)
                    obtain ⟨bk, bl, bm, bn, bo, bp⟩ := Z.out.all3
                    go_simp
                    rw [pst_3_2 Z.out]
                    clear bk bl bm bn bo bp
                    have aj := hI (bg.out.far (r := l) (fun e => G.out (by rw [e])) (Nat.le_trans ao (Nat.le_of_lt af)) 74 #[.string ⟨n.toArray⟩, q, .slice m p o])
                    have ak := hI (grown_new bh.out (Nat.le_of_lt af) 74 #[.string ⟨n.toArray⟩, q, .slice m p o])
                    have aa := hI (ai.out.far (g' := l) (t' := 74) (by omega) #[.string ⟨n.toArray⟩, q, .slice m p o])
                    have al := hI (bi.out.moved pzQ pzG (.inr ⟨l, rfl, by omega⟩) (putB_grown w1515 l 74 #[.string ⟨n.toArray⟩, q, .slice m p o]))
                    have bq := hI (show wr.heap.size ≤ (putB w1515 l 74 #[.string ⟨n.toArray⟩, q, .slice m p o]).heap.size by rw [putB_size]; exact bj.out)
                    have am := hI (Z.out.put #[.string ⟨n.toArray⟩, q, .slice m p o])
                    obtain ⟨eb, j⟩ := eX (putB w1515 (l) 74 #[.string ⟨n.toArray⟩, q, .slice m p o])
                    try rw [← j] at aj
                    try rw [← j] at ak
                    try rw [← j] at aa
                    try rw [← j] at al
                    try rw [← j] at bq
                    try rw [← j] at am
                    rw [← j]
                    clear j hHeld
                    refine hK.out _ _ ?_ (fun hHeld => ?_)
                    case refine_1 => exact aa.out.cell 0
                    clear hK K
                    try simp only [setIfInBounds_toArray, set_cons_zero, set_cons_succ]
                    refine wpAnyH_done (by kernel_rfl) ?_ _
                    go_wp2_with fail
                    go_roundg fu
                    case measure => omega
                    case rel => exact ⟨k9, z, y ++ [x9], q, .slice m p o, hI (by rw [av.out, List.map_append, ← cf.out]; rfl), by omega, by omega, by omega, by rw [List.length_append]; show y.length + 1 ≤ _; omega, aj, ak, aa, am, al⟩
            | false =>
              rw [hb63] at az
              have ei := hI (show B = (nmR nameP ts D).bind fun n2 k6 => (wantP ts false [39] k6).bind fun _ k7 => (wantP ts false [61] k7).bind fun _ k8 => (sumE nameP ts k8).bind fun e2 k9 => (wantP ts false [59] k9).bind fun _ k10 => (bodyP nameP ts fu k10 (z.map EqN.pl ++ [⟨n2, e2⟩]) (y.map EdN.pl)).bind fun b k3 => .ok ⟨n, b.1, b.2⟩ k3 by rw [HQ.out, bodyP, b6, if_neg (by decide), hb63, if_neg (by decide), bind_assoc', eqn_bind])
              clear hb63
              go_wp2_with fail
              refine az.out.mono ?_
              rintro e wa63 ⟨rfl, HGa63, HVa63⟩
              simp only [Bool.false_eq_true, if_false] at HVa63
              have a0 := hI (grown_tr bw.out HGa63.out)
              have cu := hI (au.out.grown HGa63.out O.out)
              have b7 := hI (bx.out.grown HGa63.out G.out)
              have b8 := hI (grown_tr bz.out HGa63.out)
              clear b6
              have i := hI (pNm HVa63.out (by omega))
              cases hn65 : nmR nameP ts D with
              | out =>
                rw [hn65] at i
                clear hn65
                go_wp2_with fail
                refine i.out.mono ?_
                rintro e w9 s
                exact s.elim
              | bad H I J =>
                rw [hn65] at i
                have L := hI (show B = .bad H I J by rw [ei.out, hn65] <;> rfl)
                clear hn65
                go_wp2_with fail
                refine i.out.mono ?_
                rintro e w9 ⟨rfl, E⟩
                go_wp2_with fail
                rw [L.out]
                exact ⟨rfl, prp_bad (hI (grown_tr a0.out E.out))⟩
              | ok n2 k6 =>
                rw [hn65] at i
                have f6 := (nmR_fw (nm := nameP) (ts := ts) D) _ _ hn65
                have av := hI (show B = (wantP ts false [39] k6).bind fun _ k7 => (wantP ts false [61] k7).bind fun _ k8 => (sumE nameP ts k8).bind fun e2 k9 => (wantP ts false [59] k9).bind fun _ k10 => (bodyP nameP ts fu k10 (z.map EqN.pl ++ [⟨n2, e2⟩]) (y.map EdN.pl)).bind fun b k3 => .ok ⟨n, b.1, b.2⟩ k3 by rw [ei.out, hn65] <;> rfl)
                have hv := nmR_len hn65
                clear hn65
                go_wp2_with fail
                refine i.out.mono ?_
                rintro e wq65 ⟨s, HGq65, HVq65⟩
                cases s
                have f8 := hI (grown_tr a0.out HGq65.out)
                have ej := hI (cu.out.grown HGq65.out O.out)
                have ek := hI (b7.out.grown HGq65.out G.out)
                have el := hI (grown_tr b8.out HGq65.out)
                go_upto_region 7 with (fail)
                obtain ⟨em, j⟩ := eX (wq65.alloc (Obj.cells #[.string ⟨n2.toArray⟩, .int .i64 0, .int .i64 0, .int .i64 0, .string ⟨#[]⟩, .int .i64 0, .slice none 0 0] 78))
                have br := hI (show Below wq65.heap.size wq65 em by rw [j]; exact below_box _ _)
                have en := hI (show Blk em wq65.heap.size 78 #[.string ⟨n2.toArray⟩, .int .i64 0, .int .i64 0, .int .i64 0, .string ⟨#[]⟩, .int .i64 0, .slice none 0 0] by rw [j]; exact Blk.new _ _ _)
                rw [← j]
                clear j
                obtain ⟨gy, bs⟩ := eX (wq65.heap.size)
                have bt := hI (show some gy ≠ some g from fun e => by have := HVq65.out.gl; injection e with e; omega)
                have eo : w.heap.size < gy := by rw [bs]; exact ej.out.lt
                rw [← bs] at en ⊢
                have hy : wr.heap.size ≤ gy := by rw [bs]; exact el.out.size
                have hz : l < gy := by rw [bs]; exact ek.out.lt
                clear bs
                have f9 := hI (HVq65.out.belowW br.out)
                have ep := hI (grown_tr f8.out (grown_of (some g) br.out))
                have ga := hI (ej.out.belowW br.out)
                have gb := hI (ek.out.belowW br.out)
                have gc := hI (grown_tr el.out (grown_of (some g) br.out))
                have i := hI (pWant f9.out (by omega) [39] false (by decide))
                cases hn67 : wantP ts false [39] k6 with
                | out =>
                  rw [hn67] at i
                  clear hn67
                  go_wp2_with fail
                  refine i.out.mono ?_
                  rintro e w9 s
                  exact s.elim
                | bad H I J =>
                  rw [hn67] at i
                  have L := hI (show B = .bad H I J by rw [av.out, hn67] <;> rfl)
                  clear hn67
                  go_wp2_with fail
                  refine i.out.mono ?_
                  rintro e w9 ⟨rfl, E⟩
                  go_wp2_with fail
                  rw [L.out]
                  exact ⟨rfl, prp_bad (hI (grown_tr ep.out E.out))⟩
                | ok u3 k7 =>
                  rw [hn67] at i
                  have h0 := (want_fw (ts := ts) false [39] k6) _ _ hn67
                  have eq := hI (show B = (wantP ts false [61] k7).bind fun _ k8 => (sumE nameP ts k8).bind fun e2 k9 => (wantP ts false [59] k9).bind fun _ k10 => (bodyP nameP ts fu k10 (z.map EqN.pl ++ [⟨n2, e2⟩]) (y.map EdN.pl)).bind fun b k3 => .ok ⟨n, b.1, b.2⟩ k3 by rw [av.out, hn67] <;> rfl)
                  clear hn67
                  go_wp2_with fail
                  refine i.out.mono ?_
                  rintro e wq67 ⟨s, HGq67, HVq67⟩
                  cases s
                  have es := hI (grown_tr ep.out HGq67.out)
                  have gd := hI (ga.out.grown HGq67.out O.out)
                  have ge := hI (gb.out.grown HGq67.out G.out)
                  have gf := hI (en.out.grown HGq67.out bt.out)
                  have gg := hI (grown_tr gc.out HGq67.out)
                  have i := hI (pWant HVq67.out (by omega) [61] false (by decide))
                  cases hn68 : wantP ts false [61] k7 with
                  | out =>
                    rw [hn68] at i
                    clear hn68
                    go_wp2_with fail
                    refine i.out.mono ?_
                    rintro e w9 s
                    exact s.elim
                  | bad H I J =>
                    rw [hn68] at i
                    have L := hI (show B = .bad H I J by rw [eq.out, hn68] <;> rfl)
                    clear hn68
                    go_wp2_with fail
                    refine i.out.mono ?_
                    rintro e w9 ⟨rfl, E⟩
                    go_wp2_with fail
                    rw [L.out]
                    exact ⟨rfl, prp_bad (hI (grown_tr es.out E.out))⟩
                  | ok u4 k8 =>
                    rw [hn68] at i
                    have h1 := (want_fw (ts := ts) false [61] k7) _ _ hn68
                    have et := hI (show B = (sumE nameP ts k8).bind fun e2 k9 => (wantP ts false [59] k9).bind fun _ k10 => (bodyP nameP ts fu k10 (z.map EqN.pl ++ [⟨n2, e2⟩]) (y.map EdN.pl)).bind fun b k3 => .ok ⟨n, b.1, b.2⟩ k3 by rw [eq.out, hn68] <;> rfl)
                    clear hn68
                    go_wp2_with fail
                    refine i.out.mono ?_
                    rintro e wq68 ⟨s, HGq68, HVq68⟩
                    cases s
                    have eu := hI (grown_tr es.out HGq68.out)
                    have gh := hI (gd.out.grown HGq68.out O.out)
                    have gi := hI (ge.out.grown HGq68.out G.out)
                    have ew := hI (gf.out.grown HGq68.out bt.out)
                    have gj := hI (grown_tr gg.out HGq68.out)
                    have i := hI (pSumE HVq68.out (by omega) hR hX hD)
                    cases hn69 : sumE nameP ts k8 with
                    | out =>
                      rw [hn69] at i
                      clear hn69
                      go_wp2_with fail
                      refine i.out.mono ?_
                      rintro e w9 s
                      exact s.elim
                    | bad H I J =>
                      rw [hn69] at i
                      have L := hI (show B = .bad H I J by rw [et.out, hn69] <;> rfl)
                      clear hn69
                      go_wp2_with fail
                      refine i.out.mono ?_
                      rintro e w9 ⟨rfl, E⟩
                      go_wp2_with fail
                      rw [L.out]
                      exact ⟨rfl, prp_bad (hI (grown_tr eu.out E.out))⟩
                    | ok e2 k9 =>
                      rw [hn69] at i
                      have h2 := (sumE_fw (nm := nameP) (ts := ts) k8) _ _ hn69
                      have ex := hI (show B = (wantP ts false [59] k9).bind fun _ k10 => (bodyP nameP ts fu k10 (z.map EqN.pl ++ [⟨n2, e2⟩]) (y.map EdN.pl)).bind fun b k3 => .ok ⟨n, b.1, b.2⟩ k3 by rw [et.out, hn69] <;> rfl)
                      clear hn69
                      go_wp2_with fail
                      refine i.out.mono ?_
                      rintro e wq69 ⟨s, HGq69, HVq69⟩
                      obtain ⟨c, s, gm⟩ := s
                      cases s
                      obtain ⟨ch, ci⟩ := eX (wq68.heap.size)
                      obtain ⟨ey, ez⟩ := eX (wq69.heap.size)
                      have h3 : g < ch := by rw [ci]; exact HVq68.out.gl
                      have h4 : gy < ch := by rw [ci]; exact ew.out.lt
                      have h5 : ch ≤ ey := by rw [ci, ez]; exact HGq69.out.size
                      have gn := hI (show InA (fun b => ch ≤ b ∧ b < ey) wq69 e2 c by rw [ci, ez]; exact InA.lt gm.out)
                      have go := hI (grown_tr eu.out HGq69.out)
                      have gp := hI (gh.out.grown HGq69.out O.out)
                      have gq := hI (gi.out.grown HGq69.out G.out)
                      have c8 := hI (ew.out.grown HGq69.out bt.out)
                      have gr := hI (grown_tr gj.out HGq69.out)
                      obtain ⟨da, db, dc, dd, de, df, dg, dh, di, dj, dk, dl, dm, dn⟩ := c8.out.all7
                      go_upto_region 10 with (fail)
                      rw [pst16 c8.out]
                      have e0 := hI (c8.out.put #[.string ⟨n2.toArray⟩, .int .i64 c.h.kind, .int .i64 c.h.n, .int .i64 c.h.d, .string c.h.name, .int .i64 c.h.k, .slice c.A c.len c.cap])
                      have dp := hI (grown_new go.out (Nat.le_of_lt eo) 78 #[.string ⟨n2.toArray⟩, .int .i64 c.h.kind, .int .i64 c.h.n, .int .i64 c.h.d, .string c.h.name, .int .i64 c.h.k, .slice c.A c.len c.cap])
                      have e1 := hI (HVq69.out.far (r := gy) (fun e => bt.out (by rw [e])) (Nat.le_trans ao (Nat.le_of_lt eo)) 78 #[.string ⟨n2.toArray⟩, .int .i64 c.h.kind, .int .i64 c.h.n, .int .i64 c.h.d, .string c.h.name, .int .i64 c.h.k, .slice c.A c.len c.cap])
                      have e3 := hI (gp.out.far (g' := gy) (t' := 78) (by omega) #[.string ⟨n2.toArray⟩, .int .i64 c.h.kind, .int .i64 c.h.n, .int .i64 c.h.d, .string c.h.name, .int .i64 c.h.k, .slice c.A c.len c.cap])
                      have e4 := hI (gq.out.far (g' := gy) (t' := 78) (by omega) #[.string ⟨n2.toArray⟩, .int .i64 c.h.kind, .int .i64 c.h.n, .int .i64 c.h.d, .string c.h.name, .int .i64 c.h.k, .slice c.A c.len c.cap])
                      have e5 := hI (gn.out.far (r := gy) (by omega) 78 #[.string ⟨n2.toArray⟩, .int .i64 c.h.kind, .int .i64 c.h.n, .int .i64 c.h.d, .string c.h.name, .int .i64 c.h.k, .slice c.A c.len c.cap])
                      have e6 := hI (grown_new (r := gy) gr.out (by omega) 78 #[.string ⟨n2.toArray⟩, .int .i64 c.h.kind, .int .i64 c.h.n, .int .i64 c.h.d, .string c.h.name, .int .i64 c.h.k, .slice c.A c.len c.cap])
                      obtain ⟨gs, j⟩ := eX (putB wq69 gy 78 #[.string ⟨n2.toArray⟩, .int .i64 c.h.kind, .int .i64 c.h.n, .int .i64 c.h.d, .string c.h.name, .int .i64 c.h.k, .slice c.A c.len c.cap])
                      have h6 : wq69.heap.size ≤ gs.heap.size := by rw [j, putB_size]; exact Nat.le_refl _
                      rw [← j] at dp e1 e3 e4 e0 e5 e6 ⊢
                      clear j da db dc dd de df dg dh di dj dk dl dm dn
                      have i := hI (pWant e1.out (by omega) [59] false (by decide))
                      cases hn71 : wantP ts false [59] k9 with
                      | out =>
                        rw [hn71] at i
                        clear hn71
                        go_wp2_with fail
                        refine i.out.mono ?_
                        rintro e w9 s
                        exact s.elim
                      | bad H I J =>
                        rw [hn71] at i
                        have L := hI (show B = .bad H I J by rw [ex.out, hn71] <;> rfl)
                        clear hn71
                        go_wp2_with fail
                        refine i.out.mono ?_
                        rintro e w9 ⟨rfl, E⟩
                        go_wp2_with fail
                        rw [L.out]
                        exact ⟨rfl, prp_bad (hI (grown_tr dp.out E.out))⟩
                      | ok u5 k10 =>
                        rw [hn71] at i
                        have h7 := (want_fw (ts := ts) false [59] k9) _ _ hn71
                        have gt := hI (show B = (bodyP nameP ts fu k10 (z.map EqN.pl ++ [⟨n2, e2⟩]) (y.map EdN.pl)).bind fun b k3 => .ok ⟨n, b.1, b.2⟩ k3 by rw [ex.out, hn71] <;> rfl)
                        clear hn71
                        go_wp2_with fail
                        refine i.out.mono ?_
                        rintro e wq71 ⟨s, HGq71, HVq71⟩
                        cases s
                        have gu := hI (grown_tr dp.out HGq71.out)
                        have gv := hI (e3.out.grown HGq71.out O.out)
                        have e7 := hI (e4.out.grown HGq71.out G.out)
                        have gw := hI (e0.out.grown HGq71.out bt.out)
                        have gz := hI (ina_mv e5.out (fun b hb e => by injection e with e; omega) HGq71.out)
                        have g0 := hI (grown_tr e6.out HGq71.out)
                        have h8 := HGq71.out.size
                        have g1 : (⟨n2.toArray⟩ : ByteArray).size ≤ maxLen := by
                          show n2.toArray.size ≤ _
                          rw [List.size_toArray]
                          unfold maxLen
                          omega
                        have ax := hI (below_box wq71 (Obj.cells #[.string ⟨n2.toArray⟩, .int .i64 c.h.kind, .int .i64 c.h.n, .int .i64 c.h.d, .string c.h.name, .int .i64 c.h.k, .slice c.A c.len c.cap] 78))
                        have e8 := hI ((ap.out.moved pzQ pzG (.inr ⟨g, rfl, by omega⟩) g0.out).belowW pzQ pzG ax.out)
                        have g2 := hI (show Avd (Own M) PzQ (fun b => l + 1 ≤ b ∧ b < (wq71.alloc (Obj.cells #[.string ⟨n2.toArray⟩, .int .i64 c.h.kind, .int .i64 c.h.n, .int .i64 c.h.d, .string c.h.name, .int .i64 c.h.k, .slice c.A c.len c.cap] 78)).heap.size ∧ some b ≠ q.ownBlock) (wq71.alloc (Obj.cells #[.string ⟨n2.toArray⟩, .int .i64 c.h.kind, .int .i64 c.h.n, .int .i64 c.h.d, .string c.h.name, .int .i64 c.h.k, .slice c.A c.len c.cap] 78)) (⟨⟨n2.toArray⟩, c, e2⟩ : EqN) from ⟨(gz.out.belowW ax.out).weaken (fun b hb => ⟨⟨by omega, by rw [World.size_alloc]; omega, fun e => by have := aq b e.symm; omega⟩, fun e => by have := ar b e; omega⟩), g1⟩)
                        have g3 : ∀ u ∈ EqN.cells (⟨⟨n2.toArray⟩, c, e2⟩ : EqN), u.oneCell' = true := by simp [EqN.cells, Value.oneCell']
                        have g4 : l + 1 ≤ (wq71.alloc (Obj.cells #[.string ⟨n2.toArray⟩, .int .i64 c.h.kind, .int .i64 c.h.n, .int .i64 c.h.d, .string c.h.name, .int .i64 c.h.k, .slice c.A c.len c.cap] 78)).heap.size := by rw [World.size_alloc]; omega
                        have g5 := hI (show Blk (wq71.alloc (Obj.cells #[.string ⟨n2.toArray⟩, .int .i64 c.h.kind, .int .i64 c.h.n, .int .i64 c.h.d, .string c.h.name, .int .i64 c.h.k, .slice c.A c.len c.cap] 78)) wq71.heap.size 78 (EqN.cells (⟨⟨n2.toArray⟩, c, e2⟩ : EqN)).toArray from Blk.new _ _ _)
                        obtain ⟨b0, b1, b2, b3, b4, b5⟩ := e7.out.all3
                        obtain ⟨da, db, dc, dd, de, df, dg, dh, di, dj, dk, dl, dm, dn⟩ := gw.out.all7
                        obtain ⟨i0, T, U, V, W⟩ := info_parts Tryz.infoEqn
                        go_wp2_with (at_builtin; refine wpList_append_mk rfl _ _ _ rfl (avd_ok pzQ) EqN.len7 rfl e8.out.a g2.out i0 _ 88 Tryz.underlying71 T U V W rfl (by omega) (by omega) (by omega) wq71.heap.size _ rfl g5.out g3 g4 ?_)
                        intro v9 w9 hmk hgr hob
                        have ad := hI (e8.out.pushed pzG hmk hgr (by rw [World.size_alloc]; exact hob))
                        have cj := hI hgr
                        obtain ⟨m, o, X, _⟩ := hmk.lies (avd_ok pzQ)
                        clear hmk hgr hob T U V W b0 b1 b2 b3 b4 b5 da db dc dd de df dg dh di dj dk dl dm dn
                        obtain ⟨p, Y⟩ := eX ((z ++ [(⟨⟨n2.toArray⟩, c, e2⟩ : EqN)]).length)
                        rw [← Y] at X
                        clear Y
                        subst X
                        have F : ∀ b, q.ownBlock = some b → l + 1 ≤ b := fun b h => (aq b h).1
                        have bb := hI (env_row (HVq71.out.belowW ax.out) cj.out (fun b h => by have := F b h; omega))
                        have E := hI (grown_row (grown_tr gu.out (grown_of (some g) ax.out)) cj.out (fun b h => by have := F b h; omega))
                        have g6 := hI ((gv.out.belowW ax.out).grown cj.out (fun e => by have := F _ e.symm; omega))
                        have dq := hI ((e7.out.belowW ax.out).grown cj.out (fun e => by have := F _ e.symm; omega))
                        have e9 := hI (ad.out.moved pzQ pzG (.inr ⟨l, rfl, Nat.lt_succ_self _⟩) (putB_grown w9 l 74 #[.string ⟨n.toArray⟩, .slice m p o, M]))
                        obtain ⟨b0, b1, b2, b3, b4, b5⟩ := dq.out.all3
                        go_wp2_with fail
                        rw [(show w9.setCell ⟨l, 1, none⟩ (.slice m p o) = putB w9 l 74 #[.string ⟨n.toArray⟩, .slice m p o, M] from dq.out.setCell_eq 1 _)]
                        have fa := hI (dq.out.put #[.string ⟨n.toArray⟩, .slice m p o, M])
                        have fb := hI (grown_new E.out (Nat.le_of_lt af) 74 #[.string ⟨n.toArray⟩, .slice m p o, M])
                        have fc := hI (bb.out.far (r := l) (fun e => G.out (by rw [e])) (Nat.le_trans ao (Nat.le_of_lt af)) 74 #[.string ⟨n.toArray⟩, .slice m p o, M])
                        have fd := hI (g6.out.far (g' := l) (t' := 74) (by omega) #[.string ⟨n.toArray⟩, .slice m p o, M])
                        obtain ⟨g7, j⟩ := eX (putB w9 l 74 #[.string ⟨n.toArray⟩, .slice m p o, M])
                        have ia : w9.heap.size ≤ g7.heap.size := by rw [j, putB_size]; exact Nat.le_refl _
                        rw [← j] at fb fc fd fa e9 ⊢
                        clear j b0 b1 b2 b3 b4 b5
                        go_roundg fu
                        case measure => omega
                        case rel => exact ⟨k10, z ++ [(⟨⟨n2.toArray⟩, c, e2⟩ : EqN)], y, .slice m p o, M, hI (by rw [gt.out, List.map_append]; rfl), by omega, by omega, by rw [List.length_append]; show z.length + 1 ≤ _; omega, by omega, fc, fb, fd, fa, e9⟩
end Go.Proofs.YtkjoohnndobjeaaGreatDoor
