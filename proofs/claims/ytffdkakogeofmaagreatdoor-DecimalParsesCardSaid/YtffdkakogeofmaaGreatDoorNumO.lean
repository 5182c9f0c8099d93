/-
  The walk of divide: the long division.
-/
import Derived.Test.YtffdkakogeofmaaGreatDoorPkD
import Derived.Outline
set_option linter.unusedVariables false
namespace Go.Fl.Nm
open Go.RowKit Go.Fl
theorem Sl.grown {w w' : World} {A : Option Addr} {n c g : Nat} {l : List Nat} (h : Sl w A n c l) (hg : w.grownBy w' (some g)) (hne : ∀ b o, A = some ⟨b, o, none⟩ → b ≠ g) : Sl w' A n c l :=
  ⟨h.1, h.2.1, h.2.2.1, h.2.2.2.1, h.2.2.2.2.1, h.rd.1, fun h0 => by
    obtain ⟨b, off, hA, hb, hc⟩ := h.rd.2 h0
    refine ⟨b, off, hA, by have := hg.size; omega, fun j u hu => hg.cell (hc j u hu) ?_⟩
    intro e
    injection e with e
    exact hne b off hA e⟩
/-- The divisor, shifted so that its first bit is set, has as many limbs as before. -/
theorem norm_len {b l : List Nat} {y s t : Nat} (hb : ok b) (hl : ok l) (hy : tl b = y + 1) (ht : b[y]? = some t) (hs : s + blen t = 32) (hv : val l = val b * 2 ^ s) : tl l = y + 1 := by
  have h0 : 0 < tl b := by omega
  have hge := val_ge h0
  rw [hy] at hge
  have hbl := blen_val hb h0 (show b[tl b - 1]? = some t by rw [hy]; exact ht)
  rw [hy] at hbl
  have hv0 : val b ≠ 0 := by have := Nat.pow_pos (n := y + 1 - 1) BB_pos; omega
  have hlt := (blen_spec hv0).2
  have hlt2 : val l < BB ^ (y + 1) := by
    rw [hv, BB_pow, ← Nat.pow_mul]
    have h1 : val b * 2 ^ s < 2 ^ blen (val b) * 2 ^ s := Nat.mul_lt_mul_of_pos_right hlt (Nat.two_pow_pos s)
    rw [← Nat.pow_add, hbl] at h1
    rw [show 32 * (y + 1) = 32 * (y + 1 - 1) + blen t + s by omega]
    exact h1
  have hge2 : BB ^ y ≤ val l := by
    rw [hv]
    have : val b * 1 ≤ val b * 2 ^ s := Nat.mul_le_mul_left _ (Nat.two_pow_pos s)
    simp at hge
    omega
  rw [tl_limbs hl]
  have h1 := limbs_len_le hlt2
  have h2 : val l ≠ 0 := by have := Nat.pow_pos (n := y) BB_pos; omega
  have h3 := (limbs_len h2).2
  rcases Nat.lt_or_ge (limbs (val l)).length (y + 1) with h | h
  · have : BB ^ (limbs (val l)).length ≤ BB ^ y := Nat.pow_le_pow_right BB_pos (by omega)
    omega
  · omega
theorem div_start {a b u v : List Nat} {x m s : Nat} (ha : ok a) (hx : tl a = x) (hy : tl b = m + 2) (hxy : m + 2 ≤ x) (hu : val u = val a * 2 ^ s) (hv : val v = val b * 2 ^ s) : val u < val v * BB ^ (x + 1 - (m + 2)) := by
  rw [hu, hv]
  have h1 := val_lt_tl ha
  have h2 := val_ge (l := b) (by omega)
  rw [hx] at h1
  rw [hy] at h2
  have h3 : BB ^ (m + 2 - 1) * BB ^ (x + 1 - (m + 2)) ≤ val b * BB ^ (x + 1 - (m + 2)) := Nat.mul_le_mul_right _ h2
  rw [← Nat.pow_add, show m + 2 - 1 + (x + 1 - (m + 2)) = x by omega] at h3
  have h4 : val a * 2 ^ s < val b * BB ^ (x + 1 - (m + 2)) * 2 ^ s := Nat.mul_lt_mul_of_pos_right (by omega) (Nat.two_pow_pos s)
  rw [Nat.mul_assoc, Nat.mul_comm (2 ^ s), ← Nat.mul_assoc]
  exact h4
theorem div_finish {va vb s u q V : Nat} (hV : V = vb * 2 ^ s) (h : u + V * q = va * 2 ^ s) (hu : u < V) : q = va / vb ∧ u / 2 ^ s = va % vb := by
  have hp : 0 < 2 ^ s := Nat.two_pow_pos s
  have hV0 : 0 < V := by omega
  have h1 : (va * 2 ^ s) / V = q := by
    rw [← h, Nat.add_mul_div_left _ _ hV0, Nat.div_eq_of_lt hu]; omega
  have h2 : (va * 2 ^ s) % V = u := by
    rw [← h, Nat.add_mul_mod_self_left, Nat.mod_eq_of_lt hu]
  rw [hV, Nat.mul_div_mul_right _ _ hp] at h1
  rw [hV, Nat.mul_mod_mul_right] at h2
  exact ⟨h1.symm, by rw [← h2, Nat.mul_div_cancel _ hp]⟩
end Go.Fl.Nm

namespace Go.Proofs.YtffdkakogeofmaaGreatDoor
open Go.RowKit Go.Fl Go.Fl.Nm

theorem back_step {us l v : List Nat} {i j n y o cc : Nat} (hl : l.length = us.length) (hok : ok l) (hj : j + n < us.length) (hi : i < n) (hv : val l + BB ^ (j + i) * cc = val us + BB ^ j * val (v.take i))
    (hk : ∀ x, x < j ∨ j + i ≤ x → l[x]? = us[x]?) (hy : val (v.take (i + 1)) = val (v.take i) + BB ^ i * y) (ho : l[j + i]? = some o) :
    (l.set (j + i) ((o + y + cc) % BB)).length = us.length ∧ ok (l.set (j + i) ((o + y + cc) % BB)) ∧
    val (l.set (j + i) ((o + y + cc) % BB)) + BB ^ (j + (i + 1)) * ((o + y + cc) / BB) = val us + BB ^ j * val (v.take (i + 1)) ∧ (∀ x, x < j ∨ j + (i + 1) ≤ x → (l.set (j + i) ((o + y + cc) % BB))[x]? = us[x]?) := by
  refine ⟨by simp [hl], ok_set hok _ _ (Nat.mod_lt _ BB_pos), ?_, fun x hx => ?_⟩
  · have h1 := val_set ((o + y + cc) % BB) ho
    have h2 := Nat.div_add_mod (o + y + cc) BB
    rw [hy, Nat.mul_add, ← Nat.mul_assoc, ← Nat.pow_add, show j + (i + 1) = j + i + 1 by omega, Nat.pow_succ, Nat.mul_assoc]
    have h3 : BB ^ (j + i) * (BB * ((o + y + cc) / BB)) + BB ^ (j + i) * ((o + y + cc) % BB) = BB ^ (j + i) * (o + y + cc) := by rw [← Nat.mul_add, h2]
    rw [Nat.mul_add, Nat.mul_add] at h3
    omega
  · rw [at_set_ne _ (by omega)]
    exact hk x (by omega)

theorem quiet_left2 {P : Program} {f : FuncId} {args : Array Value} {w : World} {n : Nat} {v : Value}
    (h : Calls P f args (w.drewN n) fun e w' => e = .returned v ∧ ∃ k, w' = (w.drewN n).drewN k) : Calls P f args (w.drewN n) fun e w'' => e = .returned v ∧ ∃ m, w'' = w.drewN m :=
  h.mono fun _ _ ⟨he, k, hm⟩ => ⟨he, n + k, by rw [hm, drewN_drewN]⟩

theorem round_over {us us' v : List Nat} {j n r : Nat} (hok : ok us) (hj : j + n < us.length) (hV : 0 < val v)
    (he : val us' + BB ^ j * ((val (us.drop j) / val v + 1) * val v) = val us + BB ^ (j + n + 1) * r) (hr : r ≤ 1) : r = 1 := by
  obtain ⟨low, e, hd, hlow⟩ := low_rest hok (show j ≤ us.length by omega) hV
  rcases Nat.eq_zero_or_pos r with h | h
  · subst h
    rw [Nat.mul_zero, Nat.add_mul, Nat.mul_add, Nat.one_mul, Nat.mul_comm (BB ^ j) (val v)] at he
    omega
  · omega
theorem top_zero {us : List Nat} {k : Nat} (hok : ok us) (hk : k ≤ us.length) (h : val us < BB ^ k) : val (us.take k) = val us := by
  have e := val_split us k hk
  rcases Nat.eq_zero_or_pos (val (us.drop k)) with h0 | h0
  · rw [h0] at e; omega
  · have : BB ^ k * 1 ≤ BB ^ k * val (us.drop k) := Nat.mul_le_mul_left _ h0
    omega

def LongRel (w : World) (gu gq gv m x cv K U0 : Nat) (v : List Nat) (k : Nat) (iv : Value) (wr : World) : Prop :=
  ∃ (us ql : List Nat), iv = .int .i64 ((k : Int) - 1) ∧ k ≤ K ∧ Hid (us.length = x + 1) ∧ Hid (ok us) ∧ Hid (Blk wr gu tU (UA us)) ∧ Hid (ql.length = K) ∧ Hid (ok ql) ∧ Hid (Blk wr gq tU (UA ql)) ∧
    Hid (Sl wr (some ⟨gv, 0, none⟩) (m + 2) cv v) ∧ Hid (val us + val v * BB ^ k * val (ql.drop k) = U0) ∧ Hid (val us < val v * BB ^ k) ∧ Hid (Below w.heap.size w wr)
def BackRel (w : World) (g j n : Nat) (us v : List Nat) (k : Nat) (cv iv : Value) (wr : World) : Prop :=
  ∃ (i cc : Nat) (l : List Nat), iv = .int .i64 i ∧ cv = .int .u32 cc ∧ cc ≤ 1 ∧ i ≤ n ∧ k = n - i ∧ Hid (l.length = us.length) ∧ Hid (ok l) ∧ Hid (Blk wr g tU (UA l)) ∧
    Hid (val l + BB ^ (j + i) * cc = val us + BB ^ j * val (v.take i)) ∧ Hid (∀ x, x < j ∨ j + i ≤ x → l[x]? = us[x]?) ∧ Hid (w.grownBy wr (some g))

set_option maxHeartbeats 1600000 in
set_option maxRecDepth 100000 in
theorem divide_long (A B : Option Addr) (n c m' d : Nat) (a b : List Nat) (w : World) (ha : Sl w A n c a) (hb : Sl w B m' d b) (hn : n ≤ 100000) (hle : val b ≤ val a) (m : Nat) (h1 : tl b = m + 2) :
    Calls Tryz.prog 168 #[.slice A n c, .slice B m' d] w (DPost n (max n m') (val a) (val b) w) := by
  obtain ⟨hta, ha2⟩ := trim_sl ha
  obtain ⟨htb, hb2⟩ := trim_sl hb
  have hxy : tl b ≤ tl a := by
    rcases Nat.lt_or_ge (tl a) (tl b) with h | h
    · have := val_lt_of_len ha.ok h; omega
    · exact h
  rw [h1] at htb hb2 hxy
  obtain ⟨b1, o1, t, hB, hb1, ht, htB, hcell⟩ := hb2.at_ (i := m + 1) (by omega)
  subst hB
  have ht' : b[m + 1]? = some t := by rwa [List.getElem?_take_of_lt (by omega)] at ht
  have ht0 : t ≠ 0 := tl_last (l := b) (by omega) (by rw [h1]; exact ht')
  have HT := Lib.hid ht'
  have hbt : blen t ≤ 32 := blen_le (by rw [← BB_pow]; exact htB)
  have hbt0 := blen_pos ht0
  have HA := Lib.hid ha
  have HB := Lib.hid hb
  have HA2 := Lib.hid ha2
  have HB2 := Lib.hid hb2
  have HVA := Lib.hid (val_trim a)
  have HVB := Lib.hid (val_trim b)
  rw [h1] at HVB
  have hc0 := cmpN_range (val a) (val b)
  have hc1 : ¬ cmpN (val a) (val b) < 0 := fun h => by have := (cmpN_neg _ _).1 h; omega
  generalize hcc : cmpN (val a) (val b) = cc at *
  have HCC := Lib.hid hcc
  have hdc : decide (cc < 0) = false := by simpa using hc1
  have HY := Lib.hid h1
  obtain ⟨s, hs⟩ : ∃ s : Nat, s + blen t = 32 := ⟨32 - blen t, by omega⟩
  have HBT := Lib.hid (show (32 : Int) - (Lib.bitLen t : Nat) = s by
    rw [bitLen_blen t (by unfold BB at htB; omega)]; omega)
  have HS := Lib.hid hs
  have hs32 : s < 32 := by omega
  clear ha hb ha2 hb2 hle h1 hcc hc1 ht ht' hs hbt hbt0
  generalize hx : tl a = x at *
  have HX := Lib.hid hx
  clear hx
  unfold BB at htB
  have hm1 : ((m : Int) + 2 == 1) = false := by rw [beq_eq_false_iff_ne]; omega
  go_enter Tryz.func168, Tryz.ntmps168
  go_wp2_with fail
  refine (trim_any A n c a w HA.out).mono ?_
  rintro e w1 ⟨rfl, rfl⟩
  rw [HX.out]
  go_wp2_with fail
  refine (trim_any _ m' d b w HB.out).mono ?_
  rintro e w1 ⟨rfl, rfl⟩
  rw [HY.out]
  go_wp2_with fail
  refine (cmp_any A _ x c (m + 2) d _ _ w HA2.out HB2.out).mono ?_
  rw [HVA.out, HVB.out, HCC.out]
  rintro e w1 ⟨rfl, q, hq⟩
  have HA3 := Lib.hid (show Sl w1 A x c (a.take x) by rw [hq]; exact HA2.out.drewN q)
  have HB3 := Lib.hid (show Sl w1 (some ⟨b1, o1, none⟩) (m + 2) d (b.take (m + 2)) by rw [hq]; exact HB2.out.drewN q)
  have HL1 := Lib.hid (show Below w.heap.size w w1 by rw [hq]; exact below_drewN (Below.refl _ _) q)
  have HS1 := Lib.hid (show w1.heap.size = w.heap.size by rw [hq]; rfl)
  have hc1 : w1.cell? ⟨b1, o1 + (m + 1), none⟩ = some (.int .u32 t) := by rw [hq]; exact hcell
  clear hq hcell
  go_wp2_with fail
  refine (Tryz.bits_LeadingZeros32 t w1 (by omega) (by omega)).mono ?_
  rintro e w1' ⟨rfl, rfl⟩
  rw [Int.toNat_natCast, HBT.out]
  go_wp2_with fail
  refine (shl_exact A x c s _ w1' HA3.out (by omega) (by omega)).mono ?_
  rw [show s / 32 + tl (a.take x) + 1 = x + 1 by rw [← HX.out, tl_take]; omega, HVA.out]
  rintro e w2 ⟨lu, rfl, HBU, HUL, HUO, HUV, HL2⟩
  have hs2 : w1'.heap.size < w2.heap.size := HBU.out.lt
  have HB4 := Lib.hid (HB3.out.below HL2.out)
  go_wp2_with fail
  refine (shl_exact _ (m + 2) d s _ w2 HB4.out (by omega) (by omega)).mono ?_
  rw [show s / 32 + tl (b.take (m + 2)) + 1 = m + 3 by rw [← HY.out, tl_take, HY.out]; omega, HVB.out]
  rintro e w3 ⟨lv, rfl, HBV, HVL, HVO, HVV, HL3⟩
  have hs3 : w2.heap.size < w3.heap.size := HBV.out.lt
  have HTV := Lib.hid (show tl lv = m + 2 from norm_len HB.out.ok HVO.out HY.out HT.out HS.out HVV.out)
  have HSV := Lib.hid (Nw.of_blk (base := 0) HBV.out HVO.out (Nat.zero_le _) HVL.out (by unfold maxLen; omega)).sl
  go_wp2_with fail
  refine (trim_any _ _ _ lv w3 HSV.out).mono ?_
  rintro e w3' ⟨rfl, rfl⟩
  rw [HTV.out]
  have HSW := Lib.hid (HSV.out.cut (m := m + 2) (c' := m + 3) (by omega) (by omega) (by unfold maxLen; omega) (fun h => by cases h))
  have HVT := Lib.hid (show val (lv.take (m + 2)) = val b * 2 ^ s by rw [← HVV.out, ← val_trim lv, HTV.out])
  have HBU3 := Lib.hid (HBU.out.below HL3.out hs2)
  have HL23 := Lib.hid ((HL1.out.trans (HL2.out.mono (by rw [HS1.out]; exact Nat.le_refl _))).trans (HL3.out.mono (by have := HS1.out; omega)))
  have hg0 : w.heap.size ≤ w1'.heap.size := by rw [HS1.out]; exact Nat.le_refl _
  have HU0 := HUV
  clear HBU HSV HBV
  generalize hgu : w1'.heap.size = gu at *
  generalize hgv : w2.heap.size = gv at *
  have HGU := Lib.hid hgu
  clear hgu hgv HS1
  have hd9 : decide ((x : Int) + 1 ≤ x) = false := by simp; omega
  go_wp2_with fail
  go_loop [9] (fun u => u = .slice (some ⟨gu, 0, none⟩) (x + 1) (x + 1)) (fun _ => 0)
  case atStart => rfl
  case round =>
    subst hrel
    obtain ⟨K, hK⟩ : ∃ K, x + 1 = (m + 2) + K := ⟨x + 1 - (m + 2), by omega⟩
    have hmk := make_u32 K K ((x : Int) + 1 - (m + 2)) ((x : Int) + 1 - (m + 2)) (by omega) (by omega) (by omega) (by omega)
    have HK := Lib.hid hK
    have hK1 : ((x : Int) + 1 - (m + 2)) - 1 = (K : Int) - 1 := by omega
    clear hK
    go_wp2_with fail
    clear hmk
    clear hK1
    generalize hgq : w3.heap.size = gq at *
    generalize hw4 : w3.alloc (.cells (UA (zeros K)) tU) = w4 at *
    have HQ4 := Lib.hid (show Blk w4 gq tU (UA (zeros K)) by rw [← hw4, ← hgq]; exact Blk.new _ _ _)
    have HU4 := Lib.hid (show Blk w4 gu tU (UA lu) by rw [← hw4]; exact HBU3.out.alloc _)
    have HV4 := Lib.hid (show Sl w4 (some ⟨gv, 0, none⟩) (m + 2) (m + 3) (lv.take (m + 2)) by rw [← hw4]; exact HSW.out.alloc _)
    have HL4 := Lib.hid (show Below w.heap.size w w4 by rw [← hw4]; exact HL23.out.alloc (by have := HL23.out.size; omega) _)
    have HQ5 := Lib.hid (show gv < gq by omega)
    clear hgq hw4
    have hqg : gu ≠ gq := fun h => by have := HQ5.out; omega
    have hvg : gv ≠ gu := by omega
    have hgq0 : w.heap.size ≤ gq := by have := HQ5.out; omega
    have hvq : gv ≠ gq := fun h => by have := HQ5.out; omega
    have HVL2 := Lib.hid (show (lv.take (m + 2)).length = m + 2 by rw [List.length_take, HVL.out]; omega)
    have HVO2 := Lib.hid (ok_take HVO.out (m + 2))
    obtain ⟨v1, hv1⟩ : ∃ v1, (lv.take (m + 2))[m + 1]? = some v1 := ⟨_, List.getElem?_eq_getElem (by rw [HVL2.out]; omega)⟩
    obtain ⟨v2, hv2⟩ : ∃ v2, (lv.take (m + 2))[m]? = some v2 := ⟨_, List.getElem?_eq_getElem (by rw [HVL2.out]; omega)⟩
    have hv1B := ok_at HVO2.out hv1
    have hv2B := ok_at HVO2.out hv2
    have hv10 : 0 < v1 := by
      have := tl_last (l := lv) (x := v1) (by rw [HTV.out]; omega) (by rw [HTV.out]; rwa [List.getElem?_take_of_lt (by omega)] at hv1)
      omega
    have HV1 := Lib.hid hv1
    have HV2 := Lib.hid hv2
    have HVN := Lib.hid (show val (lv.take (m + 2)) < BB ^ (m + 2) by have := val_lt HVO2.out; rwa [HVL2.out] at this)
    have HVP := Lib.hid (show 0 < val (lv.take (m + 2)) by
      have := val_take_succ HV1.out
      rw [List.take_of_length_le (by rw [HVL2.out]; omega)] at this
      rw [this]
      have := Nat.mul_pos (Nat.pow_pos (n := m + 1) BB_pos) hv10
      omega)
    have HST := Lib.hid (div_start (u := lu) (v := lv.take (m + 2)) (s := s) HA.out.ok HX.out HY.out hxy HUV.out HVT.out)
    unfold BB at hv1B hv2B
    clear hv1 hv2
    generalize hV : lv.take (m + 2) = V at *
    have HVV2 := Lib.hid hV
    clear hV
    go_loopg [13] K (LongRel w gu gq gv m x (m + 3) K (val a * 2 ^ s) V)
    case atStart =>
      refine ⟨lu, zeros K, rfl, Nat.le_refl _, HUL, HUO, HU4, Lib.hid (zeros_len _), Lib.hid (ok_zeros _), HQ4, HV4, Lib.hid ?_, Lib.hid ?_, HL4⟩
      · rw [List.drop_eq_nil_of_le (by rw [zeros_len]; omega), val_nil, HUV.out]; omega
      · have := HST.out; rwa [show x + 1 - (m + 2) = K by have := HK.out; omega] at this
    case round =>
      obtain ⟨us, ql, rfl, hk, HLEN, HOK, HBU, HQL, HQO, HBQ, HSV, HEQ, HLT, HBL⟩ := hrel
      cases gk with
      | zero =>
        rw [show ((0 : Nat) : Int) - 1 = -1 by omega]
        have hE := HEQ.out
        have hL := HLT.out
        rw [Nat.pow_zero, Nat.mul_one] at hE hL
        rw [List.drop_zero] at hE
        have HF := Lib.hid (div_finish HVT.out hE hL)
        have HT2 := Lib.hid (top_zero HOK.out (by rw [HLEN.out]; omega) (Nat.lt_trans hL HVN.out))
        have HUS := Lib.hid ((Nw.of_blk (base := 0) HBU.out HOK.out (Nat.zero_le _) HLEN.out (by unfold maxLen; omega)).sl.cut (m := m + 2) (c' := x + 1) (by omega) (by omega) (by unfold maxLen; omega) (fun h => by cases h))
        have HQN := Lib.hid (Nw.of_blk (base := w.heap.size) HBQ.out HQO.out (by have := HQ5.out; omega) HQL.out (by have := HK.out; unfold maxLen; omega))
        clear hE hL
        go_wp2_with fail
        refine (shr_any _ (m + 2) (x + 1) s _ wr HUS.out (by omega) (by omega)).mono ?_
        rintro e w6 ⟨C, nr, cr, lr, rfl, HN, HVR, hnr, HB6⟩
        go_wp2_with fail
        refine bodyPost_ret (v := .tuple #[.slice (some ⟨gq, 0, none⟩) K K, .slice C nr cr]) (by simp [results, Tryz.results168, go_sem]) rfl ?_
        refine ⟨_, _, _, ql, _, _, _, lr, rfl, Lib.hid (HQN.out.below HB6.out), Lib.hid (HN.out.base HBL.out.size), Lib.hid HF.out.1, Lib.hid ?_, by have := HK.out; omega, by omega, Lib.hid (HBL.out.trans (HB6.out.mono HBL.out.size))⟩
        rw [HVR.out, HT2.out]
        exact HF.out.2
      | succ j =>
        rw [show ((j + 1 : Nat) : Int) - 1 = j by omega]
        have hxK := HK.out
        obtain ⟨t1, ht1⟩ : ∃ t1, us[j + (m + 2)]? = some t1 := ⟨_, List.getElem?_eq_getElem (by rw [HLEN.out]; omega)⟩
        obtain ⟨t2, ht2⟩ : ∃ t2, us[j + (m + 1)]? = some t2 := ⟨_, List.getElem?_eq_getElem (by rw [HLEN.out]; omega)⟩
        obtain ⟨t3, ht3⟩ : ∃ t3, us[j + m]? = some t3 := ⟨_, List.getElem?_eq_getElem (by rw [HLEN.out]; omega)⟩
        have HG := Lib.hid (round_guess HOK.out HVO2.out HVL2.out (by rw [HLEN.out]; omega) HLT.out ht1 ht2 ht3 HV1.out HV2.out hv10)
        have hc1 : wr.cell? ⟨gu, j + (m + 2), none⟩ = some (.int .u32 t1) := blkU_cell HBU.out ht1
        have hc2 : wr.cell? ⟨gu, j + (m + 1), none⟩ = some (.int .u32 t2) := blkU_cell HBU.out ht2
        have hc3 : wr.cell? ⟨gu, j + m, none⟩ = some (.int .u32 t3) := blkU_cell HBU.out ht3
        have hc4 : wr.cell? ⟨gv, m + 1, none⟩ = some (.int .u32 v1) := by
          have := HSV.out.rd.2 (by omega)
          obtain ⟨b2, o2, h2, _, h3⟩ := this
          cases h2
          simpa using h3 _ _ (U_at V _ _ HV1.out)
        have hc5 : wr.cell? ⟨gv, m, none⟩ = some (.int .u32 v2) := by
          have := HSV.out.rd.2 (by omega)
          obtain ⟨b2, o2, h2, _, h3⟩ := this
          cases h2
          simpa using h3 _ _ (U_at V _ _ HV2.out)
        have ht1B := ok_at HOK.out ht1
        have ht2B := ok_at HOK.out ht2
        have ht3B := ok_at HOK.out ht3
        unfold BB at ht1B ht2B ht3B
        have htop := HG.out.1
        have hxB := HG.out.2.1
        unfold BB at hxB
        have HC := Lib.hid HG.out.2.2
        have KG := Lib.hid (fun W => guess_any t1 t2 t3 v1 v2 W htop ht2B ht3B hv1B hv10 hv2B)
        have hjx : j + (m + 2) < x + 1 := by omega
        have hI1 : ((j : Int) + (m + 2)).toNat = j + (m + 2) := by omega
        have hI2 : ((j : Int) + (m + 2) - 1).toNat = j + (m + 1) := by omega
        have hI3 : ((j : Int) + (m + 2) - 2).toNat = j + m := by omega
        have hI4 : ((m : Int) + 2 - 1).toNat = m + 1 := by omega
        have hI5 : ((m : Int) + 2 - 2).toNat = m := by omega
        clear HG ht1 ht2 ht3 hxK
        generalize guessF t1 t2 t3 v1 v2 = X at *
        go_wp2_with fail
        go_quiet ((go_at_call 183; exact quiet_left2 (KG.out _)))
        clear hI1 hI2 hI3 hI4 hI5
        go_wp2_with fail
        rw [show j + (m + 2) + 1 - j = m + 2 + 1 by omega]
        refine (take_any gu j (m + 2) (x + 1 - j) (m + 3) X (some ⟨gv, 0, none⟩) us V _ (HBU.out.drewN nq) HOK.out (by rw [HLEN.out]; exact hjx) (by rw [HLEN.out]; omega) (HSV.out.drewN nq) (fun b o h => by cases h; exact hvg) hxB).mono ?_
        rintro e w5 ⟨us', r, rfl, hr, HL', HO', HB', HV', HK', HGR⟩
        have HSV5 := Lib.hid ((HSV.out.drewN nq).grown HGR.out (fun b o h => by cases h; exact hvg))
        have HBQ5 := Lib.hid ((HBQ.out.drewN nq).grown HGR.out (fun h => by injection h with h; exact hqg h.symm))
        have HBL5 := Lib.hid ((below_drewN HBL.out nq).trans (below_of_grown HGR.out (fun g h => by cases h; exact hg0) (by have := HBL.out.size; exact this)))
        obtain ⟨qo, hqo⟩ : ∃ o, ql[j]? = some o := ⟨_, List.getElem?_eq_getElem (by rw [HQL.out]; omega)⟩
        have HQO2 := Lib.hid hqo
        clear hc1 hc2 hc3 hc4 hc5 hqo KG
        rcases HC.out with hC | hC
        · rw [hC] at HV'
          have HR := Lib.hid (round_exact HOK.out HO'.out HL'.out (by rw [HLEN.out]; exact hjx) HLT.out HVN.out HVP.out HV'.out HK'.out hr)
          have h0 := HR.out.1
          subst h0
          have HQU := Lib.hid (round_quo (ql := ql) (j := j) (by rw [HQL.out]; omega) HEQ.out HR.out.2.1)
          rw [← hC] at HQU
          clear hC
          have hdr : decide ((0 : Nat) = 1) = false := rfl
          have hq1 : w5.cell? ⟨gq, j, none⟩ = some (.int .u32 qo) := blkU_cell HBQ5.out HQO2.out
          have hq2 : w5.frozen? ⟨gq, j, none⟩ = false := HBQ5.out.frozen _
          go_wp2_with fail
          go_roundg j
          case measure => omega
          case rel =>
            refine ⟨us', ql.set j X, rfl, by omega, Lib.hid (by rw [HL'.out, HLEN.out]), HO', Lib.hid (HB'.out.grown (grown_setCell _ gq j _) (fun h => by injection h with h; exact hqg h)), Lib.hid (by rw [List.length_set, HQL.out]), Lib.hid (ok_set HQO.out _ _ hxB), Lib.hid (blkU_set HBQ5.out j X), Lib.hid (HSV5.out.grown (grown_setCell _ gq j _) (fun b o h => by cases h; exact hvq)), HQU, Lib.hid HR.out.2.2, Lib.hid (HBL5.out.setCell hgq0 _)⟩
        · have hV2 := HV'.out
          rw [hC] at hV2
          have h1 := round_over HOK.out (by rw [HLEN.out]; exact hjx) HVP.out hV2 hr
          have HV2 := Lib.hid hV2
          subst h1
          clear hV2
          have hX1 : 1 ≤ X := by rw [hC]; exact Nat.le_add_left _ _
          have HCX := Lib.hid hC
          clear hC
          have hdr : decide ((1 : Nat) = 1) = true := rfl
          go_wp2_with fail
          go_loopg [15, 125] (m + 2) (BackRel w5 gu j (m + 2) us' V)
          case atStart => exact ⟨0, 0, us', rfl, rfl, by omega, by omega, rfl, Lib.hid rfl, HO', HB', Lib.hid (by simp [val_nil]), Lib.hid (fun _ _ => rfl), Lib.hid (grown_refl _ _)⟩
          case round =>
            obtain ⟨i, cy, l, rfl, rfl, hcy, hi, rfl, HLL, HLO, HLB, HLV, HLK, HLG⟩ := hrel
            by_cases hin : i < m + 2
            · obtain ⟨b2, o2, y, hA, hb2, hy, hyB, hcell2⟩ := HSV5.out.at_ hin
              cases hA
              have hcy1 : wr.cell? ⟨gv, i, none⟩ = some (.int .u32 y) := by
                rw [Nat.zero_add] at hcell2
                exact HLG.out.cell hcell2 (by intro h; injection h with h; exact hvg h)
              obtain ⟨o, ho⟩ : ∃ o, l[j + i]? = some o := ⟨_, List.getElem?_eq_getElem (by rw [HLL.out, HL'.out, HLEN.out]; omega)⟩
              have hoB := ok_at HLO.out ho
              have hg1 : wr.cell? ⟨gu, j + i, none⟩ = some (.int .u32 o) := blkU_cell HLB.out ho
              have hg2 : wr.frozen? ⟨gu, j + i, none⟩ = false := HLB.out.frozen _
              have HS2 := Lib.hid (back_step HLL.out HLO.out (by rw [HL'.out, HLEN.out]; exact hjx) hin HLV.out HLK.out (val_take_succ hy) ho)
              unfold BB at hyB hoB
              clear hcell2 hy ho
              go_wp2_with fail
              refine (add32_any o y cy _ hoB hyB hcy).mono ?_
              rintro e w6 ⟨rfl, rfl⟩
              go_wp2_with fail
              go_roundg (m + 2 - (i + 1))
              case measure => omega
              case rel =>
                refine ⟨i + 1, (o + y + cy) / BB, l.set (j + i) ((o + y + cy) % BB), by go_num, by unfold BB; simp, by unfold BB; omega, by omega, rfl, Lib.hid HS2.out.1, Lib.hid HS2.out.2.1, Lib.hid ?_, Lib.hid HS2.out.2.2.1, Lib.hid HS2.out.2.2.2, Lib.hid (grown_trans HLG.out (grown_setCell _ _ _ _))⟩
                have := blkU_set HLB.out (j + i) ((o + y + cy) % BB)
                unfold BB at this ⊢
                simpa using this
            · obtain rfl : i = m + 2 := by omega
              obtain ⟨o, ho⟩ : ∃ o, l[j + (m + 2)]? = some o := ⟨_, List.getElem?_eq_getElem (by rw [HLL.out, HL'.out, HLEN.out]; omega)⟩
              have hoB := ok_at HLO.out ho
              have hLV := HLV.out
              rw [List.take_of_length_le (by rw [HVL2.out]; omega)] at hLV
              have HR := Lib.hid (round_back HOK.out HO'.out HLO.out HL'.out (by rw [HLL.out, HL'.out]) (by rw [HLEN.out]; exact hjx) HLT.out HVN.out HVP.out HV2.out HK'.out hr hLV HLK.out ho hoB hcy)
              have HQU := Lib.hid (round_quo (ql := ql) (j := j) (by rw [HQL.out]; omega) HEQ.out HR.out.2.1)
              rw [show val (us.drop j) / val V = X - 1 by rw [HCX.out]; rfl] at HQU
              have HBQ6 := Lib.hid (HBQ5.out.grown HLG.out (fun h => by injection h with h; exact hqg h.symm))
              have HBL6 := Lib.hid (HBL5.out.trans (below_of_grown HLG.out (fun g h => by cases h; exact hg0) (by have := HBL5.out.size; exact this)))
              have HSV6 := Lib.hid (HSV5.out.grown HLG.out (fun b o h => by cases h; exact hvg))
              have hg1 : wr.cell? ⟨gu, j + (m + 2), none⟩ = some (.int .u32 o) := blkU_cell HLB.out ho
              have hg2 : wr.frozen? ⟨gu, j + (m + 2), none⟩ = false := HLB.out.frozen _
              unfold BB at hoB
              clear hLV ho
              have hE : (((o : Int) + cy) % 4294967296) = (((o + cy) % BB : Nat) : Int) := by unfold BB; simp
              have hw6 : ∀ v : Value, (wr.setCell ⟨gu, j + (m + 2), none⟩ v).cell? ⟨gq, j, none⟩ = some (.int .u32 qo) := fun v => (grown_setCell wr gu (j + (m + 2)) v).cell (blkU_cell HBQ6.out HQO2.out) (fun h => by injection h with h; exact hqg h.symm)
              have hw7 : ∀ v : Value, (wr.setCell ⟨gu, j + (m + 2), none⟩ v).frozen? ⟨gq, j, none⟩ = false := fun v => (HBQ6.out.grown (grown_setCell wr gu (j + (m + 2)) v) (fun h => by injection h with h; exact hqg h.symm)).frozen _
              go_wp2_with fail
              go_roundg j
              case measure => omega
              case rel =>
                refine ⟨l.set (j + (m + 2)) ((o + cy) % BB), ql.set j (X - 1), rfl, by omega, Lib.hid (by rw [HR.out.2.2.2.2, HLEN.out]), Lib.hid HR.out.2.2.2.1, Lib.hid ?_, Lib.hid (by rw [List.length_set, HQL.out]), Lib.hid (ok_set HQO.out _ _ (by unfold BB; omega)), Lib.hid ?_, Lib.hid ((HSV6.out.grown (grown_setCell _ gu _ _) (fun b o h => by cases h; exact hvg)).grown (grown_setCell _ gq j _) (fun b o h => by cases h; exact hvq)), HQU, Lib.hid HR.out.2.2.1, Lib.hid ((HBL6.out.setCell hg0 _).setCell hgq0 _)⟩
                · refine Blk.grown ?_ (grown_setCell _ gq j _) (fun h => by injection h with h; exact hqg h)
                  have := blkU_set HLB.out (j + (m + 2)) ((o + cy) % BB)
                  unfold BB at this ⊢
                  simpa using this
                · rw [show (X : Int) - 1 = ((X - 1 : Nat) : Int) by omega]
                  exact blkU_set (HBQ6.out.grown (grown_setCell wr gu (j + (m + 2)) _) (fun h => by injection h with h; exact hqg h.symm)) j (X - 1)

theorem divide_any (A B : Option Addr) (n c m d : Nat) (a b : List Nat) (w : World) (ha : Sl w A n c a) (hb : Sl w B m d b) (hn : n ≤ 100000) (h0 : 0 < val b) :
    Calls Tryz.prog 168 #[.slice A n c, .slice B m d] w (DPost n (max n m) (val a) (val b) w) := by
  rcases Nat.lt_or_ge (val a) (val b) with h | h
  · exact divide_less A B n c m d a b w ha hb hn h
  · have ht : tl b ≠ 0 := fun e => by have := val_zero_iff.2 e; omega
    by_cases h1 : tl b = 1
    · exact divide_one A B n c m d a b w ha hb hn h h1
    · exact divide_long A B n c m d a b w ha hb hn h (tl b - 2) (by omega)
end Go.Proofs.YtffdkakogeofmaaGreatDoor
