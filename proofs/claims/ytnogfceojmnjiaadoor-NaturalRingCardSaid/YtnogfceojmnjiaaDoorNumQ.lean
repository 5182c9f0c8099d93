/-
  The walks of natural's Sqrt and Gcd.
-/
import Derived.Test.YtnogfceojmnjiaaDoorNumP
set_option linter.unusedVariables false
namespace Go.Fl.Nm
/-- A step of Newton's method stays above the root. -/
theorem newton_up (a x : Nat) (hx : 0 < x) : a < ((x + a / x) / 2 + 1) * ((x + a / x) / 2 + 1) := by
  have h1 : a < x * (a / x + 1) := by
    have := Nat.div_add_mod a x
    have := Nat.mod_lt a hx
    rw [Nat.mul_add]; omega
  generalize a / x = q at *
  have h2 : x + (q + 1) ≤ 2 * ((x + q) / 2 + 1) := by omega
  generalize (x + q) / 2 + 1 = y at *
  have h3 : x * (q + 1) ≤ y * y := by
    generalize q + 1 = z at *
    rcases Nat.le_total x z with h | h
    · obtain ⟨d, rfl⟩ := Nat.exists_eq_add_of_le h
      obtain ⟨f, rfl⟩ := Nat.exists_eq_add_of_le (show x ≤ y by omega)
      have h5 : x * d ≤ x * (f + f) := Nat.mul_le_mul_left _ (by omega)
      have h6 := Nat.mul_comm f x
      simp only [Nat.mul_add, Nat.add_mul] at h5 ⊢
      omega
    · obtain ⟨d, rfl⟩ := Nat.exists_eq_add_of_le h
      obtain ⟨f, rfl⟩ := Nat.exists_eq_add_of_le (show z ≤ y by omega)
      have h5 : d * z ≤ (f + f) * z := Nat.mul_le_mul_right _ (by omega)
      have h6 := Nat.mul_comm f z
      simp only [Nat.mul_add, Nat.add_mul] at h5 ⊢
      omega
  omega
theorem newton_end (a x : Nat) (hx : 0 < x) (h : x ≤ (x + a / x) / 2) : x * x ≤ a := by
  have h1 : x ≤ a / x := by omega
  have h2 : x * x ≤ x * (a / x) := Nat.mul_le_mul_left _ h1
  have := Nat.mul_div_le a x
  omega
theorem newton_start (a n : Nat) (h : a < 2 ^ n) : a < (2 ^ ((n + 1) / 2) + 1) * (2 ^ ((n + 1) / 2) + 1) := by
  have h1 : 2 ^ n ≤ 2 ^ ((n + 1) / 2) * 2 ^ ((n + 1) / 2) := by
    rw [← Nat.pow_add]; exact Nat.pow_le_pow_right (by omega) (by omega)
  have h2 : 2 ^ ((n + 1) / 2) * 2 ^ ((n + 1) / 2) ≤ (2 ^ ((n + 1) / 2) + 1) * (2 ^ ((n + 1) / 2) + 1) := Nat.mul_le_mul (by omega) (by omega)
  omega
theorem blen_limbs (a : Nat) : blen a ≤ 32 * (limbs a).length := by
  apply blen_le
  by_cases h : a = 0
  · subst h; exact Nat.two_pow_pos _
  · have := (limbs_len h).2
    rw [BB_pow, ← Nat.pow_mul] at this
    exact this
theorem len_two_pow {x p k : Nat} (h : x ≤ 2 ^ p) (hp : p < 32 * k) : (limbs x).length ≤ k := by
  apply limbs_len_le
  rw [BB_pow, ← Nat.pow_mul]
  exact Nat.lt_of_le_of_lt h (Nat.pow_lt_pow_right (by omega) hp)
end Go.Fl.Nm

namespace Go.Proofs.YtnogfceojmnjiaaDoor
open Go.RowKit Go.Fl Go.Fl.Nm

def SqrtP (a : Nat) (w : World) (e : Ending) (w' : World) : Prop := ∃ r, r * r ≤ a ∧ a < (r + 1) * (r + 1) ∧ Res w.heap.size r w e w'
def SqRel (w : World) (a x0 : Nat) (k : Nat) (xv : Value) (wr : World) : Prop :=
  ∃ (X : Option Addr) (nx cx : Nat) (lx : List Nat), xv = .slice X nx cx ∧ Hid (Nw wr tU w.heap.size X nx cx lx) ∧ Hid (val lx = k) ∧ nx ≤ 200 ∧ Hid (a < (k + 1) * (k + 1)) ∧ 0 < k ∧ Hid (k ≤ x0) ∧ Hid (Below w.heap.size w wr)

theorem trim_nw {w : World} {base : Nat} {A : Option Addr} {n c : Nat} {l : List Nat} (h : Nw w tU base A n c l) : tl l ≤ n ∧ Nw w tU base A (tl l) c (l.take (tl l)) := by
  have hta := (trim_sl h.sl).1
  exact ⟨hta, h.cut hta (by have := h.sl.cap; omega) h.sl.capMax h.sl.nil⟩

set_option maxHeartbeats 800000 in
set_option maxRecDepth 100000 in
theorem nSqrt_ok (A : Option Addr) (n c : Nat) (a : List Nat) (w : World) (ha : Sl w A n c a) (hn : n ≤ 256) :
    Calls Tryd.prog 14 #[.slice A n c] w (SqrtP (val a) w) := by
  have HA := Lib.hid ha
  have hnm := ha.max
  have hd : decide (256 < n) = false := by simp; omega
  have hbl : blen (val a) ≤ 8192 := by
    have h1 := blen_limbs (val a)
    have h2 := tl_limbs ha.ok
    have h3 := (trim_sl ha).1
    omega
  have HBS := Lib.hid (fun h : val a ≠ 0 => blen_spec h)
  have HBZ := Lib.hid (show blen (val a) = 0 → val a = 0 from fun h => by
    rcases Nat.eq_zero_or_pos (val a) with h0 | h0
    · exact h0
    · have := blen_pos (n := val a) (by omega); omega)
  clear ha
  go_enter Tryd.func14, Tryd.ntmps14
  go_wp2_with fail
  refine (longFn_natural.one A n c _ hnm).mono ?_
  rintro e w1 ⟨rfl, hw1⟩
  rw [hd]
  clear hd
  have HA1 := Lib.hid (show Sl w1 A n c a by rw [hw1]; exact HA.out.alloc _)
  have HL1 := Lib.hid (show Below w.heap.size w w1 by rw [hw1]; exact (Below.refl _ _).alloc (Nat.le_refl _) _)
  clear hw1
  generalize hbb : blen (val a) = bb at *
  have HBB := Lib.hid hbb
  clear hbb
  go_wp2_with fail
  refine (bits_any A n c a w1 HA1.out (by omega)).mono ?_
  rintro e w1' ⟨rfl, rfl⟩
  rw [HBB.out]
  by_cases hb0 : bb = 0
  · subst hb0
    have HV0 := Lib.hid (HBZ.out rfl)
    go_wp2_with fail
    refine bodyPost_ret (v := .tuple #[.slice none 0 0, .int .i64 0]) (by simp [results, Tryd.results14, go_sem]) rfl ?_
    exact ⟨0, Nat.zero_le _, by rw [HV0.out]; decide, none, 0, [], 0, rfl, Lib.hid (Nw.none_ _ _ _), Lib.hid (.inl ⟨rfl, limbs_zero.symm, by rw [limbs_zero]; simp⟩), HL1⟩
  · have hbd : ((bb : Int) == 0) = false := by rw [beq_eq_false_iff_ne]; omega
    have hv0 : val a ≠ 0 := fun h => hb0 (by rw [← HBB.out, h]; rfl)
    have HLT := Lib.hid (HBS.out hv0).2
    have HPOS := Lib.hid (show 0 < val a by omega)
    clear hb0 HBS HBZ hv0
    have hq : ((bb : Int) + 1).tdiv 2 = ((bb + 1) / 2 : Nat) := by
      rw [Int.tdiv_eq_ediv_of_nonneg (by omega)]; omega
    have hp1 : (bb + 1) / 2 ≤ 5000 := by omega
    have HST := Lib.hid (newton_start (val a) bb HLT.out)
    generalize hpp : (bb + 1) / 2 = p at *
    have HO1 := Lib.hid (show Sl (w1.alloc (.cells #[.int .u32 1] tU)) (some ⟨w1.heap.size, 0, none⟩) 1 1 [1] from
      (Nw.of_blk (base := 0) (l := [1]) (n := 1) (Blk.new w1 tU _) (by intro x hx; simp at hx; subst hx; decide) (Nat.zero_le _) rfl (by unfold maxLen; omega)).sl)
    clear hpp
    go_wp2_with fail
    generalize hw2 : w1.alloc (.cells #[.int .u32 1] tU) = w2 at *
    have HA2 := Lib.hid (show Sl w2 A n c a by rw [← hw2]; exact HA1.out.alloc _)
    have HL2 := Lib.hid (show Below w.heap.size w w2 by rw [← hw2]; exact HL1.out.alloc HL1.out.size _)
    clear hw2
    refine (shl_any _ 1 1 p [1] w2 HO1.out (by omega) (by omega)).mono ?_
    rw [show val [1] * 2 ^ p = 2 ^ p by simp [val]]
    rintro e w3 ⟨C, x, cx, l, rfl, HN, HV, hx, HL3⟩
    have HTN := Lib.hid (trim_nw HN.out).2
    have HTL := Lib.hid (tl_limbs HN.out.sl.ok)
    rw [HV.out] at HTL
    have htl : tl l ≤ 200 := by rw [HTL.out]; exact len_two_pow (Nat.le_refl _) (by omega)
    have HTV := Lib.hid (val_trim l)
    rw [HV.out] at HTV
    generalize hk : tl l = k at *
    have HK := Lib.hid hk
    clear hk
    go_wp2_with fail
    refine (trim_any C x cx l w3 HN.out.sl).mono ?_
    rintro e w3' ⟨rfl, rfl⟩
    rw [HK.out]
    have HL4 := Lib.hid (HL2.out.trans (HL3.out.mono HL2.out.size))
    go_wp2_with fail
    go_loopg [5] (2 ^ p) (SqRel w (val a) (2 ^ p))
    case atStart => exact ⟨C, k, cx, _, rfl, Lib.hid (HTN.out.base HL2.out.size), HTV, htl, HST, Nat.two_pow_pos p, Lib.hid (Nat.le_refl _), HL4⟩
    case round =>
      obtain ⟨X, nx, cx, lx, rfl, HX, HXV, hnx, HUP, hk0, HKX, HBL⟩ := hrel
      have HAr := Lib.hid (HA.out.below HBL.out)
      go_wp2_with fail
      refine (divide_any A X n c nx cx a lx wr HAr.out HX.out.sl (by omega) (by rw [HXV.out]; exact hk0)).mono ?_
      rw [HXV.out]
      rintro e w5 ⟨Q, nq, cq, lq, R, nr, cr, lr, rfl, HQ, HR, HVQ, HVR, hnq, hnr, HL5⟩
      have hnw5 := trim_nw HQ.out
      have HTQ := Lib.hid hnw5.2
      have htq := hnw5.1
      have HTV := Lib.hid (val_trim lq)
      rw [HVQ.out] at HTV
      clear hnw5
      generalize hkq : tl lq = kq at *
      have HKQ := Lib.hid hkq
      clear hkq
      have HX5 := Lib.hid (HX.out.sl.below HL5.out)
      go_wp2_with fail
      refine (trim_any Q nq cq lq w5 HQ.out.sl).mono ?_
      rintro e w5' ⟨rfl, rfl⟩
      rw [HKQ.out]
      go_wp2_with fail
      refine (add_any X Q nx cx kq cq lx _ w5 HX5.out HTQ.out.sl (by omega) (by omega)).mono ?_
      rw [HXV.out, HTV.out]
      rintro e w6 ⟨S, ns, cs, ls, rfl, HS, HSV, hns, HL6⟩
      go_wp2_with fail
      refine (shr_any S ns cs 1 ls w6 HS.out.sl (by omega) (by omega)).mono ?_
      rw [HSV.out, Nat.pow_one]
      rintro e w7 ⟨Y, ny, cy, ly, rfl, HY, HYV, hny, HL7⟩
      have hny7 := (trim_nw HY.out).1
      have HTY := Lib.hid (trim_nw HY.out).2
      have HTYV := Lib.hid (val_trim ly)
      have HTYL := Lib.hid (tl_limbs HY.out.sl.ok)
      rw [HYV.out] at HTYV HTYL
      have hB5 := HBL.out.trans (HL5.out.mono HBL.out.size)
      have hB6 := hB5.trans (HL6.out.mono hB5.size)
      have hB7 := hB6.trans (HL7.out.mono hB6.size)
      have hs6 := hB6.size
      have HB7 := Lib.hid hB7
      have HX7 := Lib.hid ((HX.out.below HL5.out).below (HL6.out.trans (HL7.out.mono HL6.out.size)))
      clear hB5 hB6 hB7
      generalize hky : tl ly = ky at *
      have HKY := Lib.hid hky
      clear hky
      have HUPY := Lib.hid (newton_up (val a) gk hk0)
      have HEND := Lib.hid (newton_end (val a) gk hk0)
      generalize hyy : (gk + val a / gk) / 2 = yy at *
      have HYY := Lib.hid hyy
      clear hyy
      go_wp2_with fail
      refine (trim_any Y ny cy ly w7 HY.out.sl).mono ?_
      rintro e w7' ⟨rfl, rfl⟩
      rw [HKY.out]
      have hr := cmpN_range yy gk
      have hneg := cmpN_neg yy gk
      generalize hcc : cmpN yy gk = cc at *
      have HCC := Lib.hid hcc
      clear hcc
      go_wp2_with fail
      refine (cmp_any Y X ky cy nx cx _ lx w7 HTY.out.sl HX7.out.sl).mono ?_
      rw [HTYV.out, HXV.out, HCC.out]
      rintro e w8 ⟨rfl, q, hq⟩
      have HX8 := Lib.hid (show Nw w8 tU w.heap.size X nx cx lx by rw [hq]; exact HX7.out)
      have HY8 := Lib.hid (show Nw w8 tU w.heap.size Y ky cy (ly.take ky) by rw [hq]; exact HTY.out.base hs6)
      have HL8 := Lib.hid (show Below w.heap.size w w8 by rw [hq]; exact below_drewN HB7.out q)
      clear hq
      by_cases hlt : yy < gk
      · have hd : decide (0 ≤ cc) = false := by simp only [decide_eq_false_iff_not]; have := hneg.2 hlt; omega
        have HYX := Lib.hid hlt
        clear hneg hlt
        go_wp2_with fail
        go_roundg yy
        case measure => exact HYX.out
        case rel =>
          refine ⟨Y, ky, cy, _, rfl, HY8, HTYV, ?_, HUPY, ?_, Lib.hid (Nat.le_trans (Nat.le_of_lt HYX.out) HKX.out), HL8⟩
          · rw [HTYL.out]; exact len_two_pow (Nat.le_trans (Nat.le_of_lt HYX.out) HKX.out) (by omega)
          · rcases Nat.eq_zero_or_pos yy with h0 | h0
            · have h1 := HUPY.out
              have h2 := HPOS.out
              rw [h0] at h1
              omega
            · exact h0
      · have hd : decide (0 ≤ cc) = true := by
          simp only [decide_eq_true_eq]
          have : ¬ cc < 0 := fun h => hlt (hneg.1 h)
          omega
        have HGE := Lib.hid (HEND.out (by omega))
        clear hneg hlt
        go_wp2_with fail
        refine (done_any X nx cx lx w8 w.heap.size HX8.out).mono ?_
        rw [HXV.out]
        rintro e w9 ⟨D, y, ly, er, rfl, HN3, HR3, HL9⟩
        go_wp2_with fail
        refine bodyPost_ret (v := .tuple #[.slice D y y, .int .i64 er]) (by simp [results, Tryd.results14, go_sem]) rfl ?_
        exact ⟨gk, HGE.out, HUP.out, D, y, ly, er, rfl, HN3, HR3, Lib.hid (HL8.out.trans (HL9.out.mono HL8.out.size))⟩

def GcdRel (w : World) (G : Nat) (k : Nat) (av bv : Value) (wr : World) : Prop :=
  ∃ (X : Option Addr) (nx cx : Nat) (lx : List Nat) (Y : Option Addr) (ny cy : Nat) (ly : List Nat), av = .slice X nx cx ∧ bv = .slice Y ny cy ∧ Hid (Nw wr tU w.heap.size X nx cx lx) ∧ Hid (Nw wr tU w.heap.size Y ny cy ly) ∧
    Hid (val ly = k) ∧ nx ≤ 256 ∧ ny ≤ 256 ∧ Hid (tl ly = ny) ∧ Hid (Nat.gcd (val lx) k = G) ∧ Hid (Below w.heap.size w wr)

end Go.Proofs.YtnogfceojmnjiaaDoor
