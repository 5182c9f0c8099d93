/-
  The walks of the reference's limbs: trim, left, minus, compare.
-/
import Derived.Test.YtoogeihbhhcpaaaGreatDoorPkF
import Derived.Test.YtoogeihbhhcpaaaGreatDoorPkG
set_option linter.unusedVariables false
namespace Go.Fl.Nm
theorem or_low64 (s cc X : Nat) (hs : s < 32) (hX : X % 2 ^ s = 0) (hc : cc < 2 ^ s) (hsum : X + cc < 18446744073709551616) : bits .or .u64 (X : Int) (cc : Int) = ((X + cc : Nat) : Int) := by
  have h2 := two_pow_le31 s hs
  have := bits_join .u64 64 (by decide) (fun n h0 h1 => by simp [IntKind.wrap, IntKind.bits, IntKind.signed]; omega) s (X : Int) cc (by omega)
    (by
      have : (2 : Int) ^ s = ((2 ^ s : Nat) : Int) := by simp
      rw [this, ← Int.natCast_emod, hX]; rfl) (by omega) (by omega)
    (by
      have : (2 : Int) ^ s = ((2 ^ s : Nat) : Int) := by simp
      rw [this]; omega) (by omega)
  rw [this]; omega
theorem left_step {o a : List Nat} {i k s x cc : Nat} (hl : o.length = k + i) (hok : ok o) (hx : a[i]? = some x) (hxB : x < BB) (hc : cc < 2 ^ s) (hv : val o + BB ^ (k + i) * cc = BB ^ k * (2 ^ s * val (a.take i))) :
    (o ++ [(x * 2 ^ s + cc) % BB]).length = k + (i + 1) ∧ ok (o ++ [(x * 2 ^ s + cc) % BB]) ∧ (x * 2 ^ s + cc) / BB < 2 ^ s ∧ val (o ++ [(x * 2 ^ s + cc) % BB]) + BB ^ (k + (i + 1)) * ((x * 2 ^ s + cc) / BB) = BB ^ k * (2 ^ s * val (a.take (i + 1))) := by
  refine ⟨by simp [hl]; omega, ok_append.2 ⟨hok, ok_cons.2 ⟨Nat.mod_lt _ BB_pos, ok_nil⟩⟩, ?_, ?_⟩
  · rw [Nat.div_lt_iff_lt_mul BB_pos]
    have h1 : x * 2 ^ s ≤ (BB - 1) * 2 ^ s := Nat.mul_le_mul_right _ (by omega)
    have h2 : (BB - 1) * 2 ^ s = BB * 2 ^ s - 2 ^ s := by rw [Nat.sub_mul, Nat.one_mul]
    have h3 : 2 ^ s ≤ BB * 2 ^ s := Nat.le_mul_of_pos_left _ BB_pos
    rw [Nat.mul_comm (2 ^ s)]
    omega
  · have h2 := Nat.div_add_mod (x * 2 ^ s + cc) BB
    have hta : val (a.take (i + 1)) = val (a.take i) + BB ^ i * x := by rw [take_at0, at0_in hx]
    rw [val_snoc, hl, hta, show k + (i + 1) = (k + i) + 1 by omega, Nat.pow_succ, Nat.mul_assoc, Nat.add_assoc, ← Nat.mul_add, Nat.add_comm ((x * 2 ^ s + cc) % BB), h2, Nat.mul_add, Nat.mul_add, Nat.mul_add, ← hv, Nat.pow_add]
    have e : BB ^ k * BB ^ i * (x * 2 ^ s) = BB ^ k * (2 ^ s * (BB ^ i * x)) := by
      rw [Nat.mul_assoc, Nat.mul_left_comm (2 ^ s), Nat.mul_comm x]
    omega
theorem limbs_len_lt {x y : Nat} (h : (limbs x).length < (limbs y).length) : x < y := by
  rcases Nat.lt_or_ge x y with h1 | h1
  · exact h1
  · have h2 := Dy.blen_mono h1
    have h3 := Dy.bits_limbs (n := x) (k := (limbs x).length) (Nat.le_refl _)
    have h4 := Dy.limbs_bits (n := y) (k := (limbs x).length) (by omega)
    omega
end Go.Fl.Nm
namespace Go.Proofs.YtoogeihbhhcpaaaGreatDoor
open Go.RowKit Go.Fl Go.Fl.Nm Go.Fl.Dy
set_option maxHeartbeats 800000 in
set_option maxRecDepth 100000 in
theorem uTrim (A : Option Addr) (n c : Nat) (l : List Nat) (w : World) (h : Sl w A n c l) (hn : n ≤ 1000000) :
    Calls Tryz.prog 180 #[.slice A n c] w (RP (val l) w) := by
  have hm := h.max
  have hcap := h.cap
  have hcm := h.capMax
  unfold maxLen at hm hcm
  have H := Lib.hid h
  have hlen : l.length = n := h.len
  have HL := Lib.hid hlen
  have HTL := Lib.hid (trim_limbs h.ok)
  have HLO := Lib.hid (limbs_ok (val l))
  have HOWN := Lib.hid (show (w.alloc (.cells #[] tU)).ownsRow w.heap.size tU 1 (.slice (some ⟨w.heap.size, 0, none⟩) 0 0) 0 [] from ⟨rfl, .inr ⟨w.heap.size, 0, #[], rfl, Nat.le_refl _, Blk.new _ _ _, Nat.le_refl _, by unfold maxLen; omega, rfl, rfl⟩⟩)
  have HL0 := Lib.hid ((Below.refl w.heap.size w).alloc (Nat.le_refl _) (.cells #[] tU))
  obtain ⟨i0, ti, tz0, tz1, tz2⟩ := info_parts Tryz.infoU32
  cases A with
  | none =>
    have := h.nil rfl
    subst this
    obtain rfl : n = 0 := by omega
    have : l = [] := List.eq_nil_of_length_eq_zero hlen
    subst this
    clear h hlen
    go_enter Tryz.func180, Tryz.ntmps180
    go_wp2
    go_loop [3] (fun i => i = .int .i64 0) (fun _ => 0)
    case atStart => rfl
    case round =>
      subst hrel
      go_wp2_with (at_builtin; refine wpList_append_own_none rfl _ _ _ rfl w.heap.size 125 i0 1 Tryz.underlying38 ti (.slice (some ⟨w.heap.size, 0, none⟩) 0 0) 0 [] rfl (by exact HOWN.out) rfl ?_)
      go_ret
      refine ⟨_, 0, 0, rfl, Lib.hid ?_, HL0⟩
      rw [val_nil, limbs_zero]
      exact Nw.empty _ _ _ _
  | some ad =>
    clear h hlen
    go_enter Tryz.func180, Tryz.ntmps180
    go_wp2_with fail
    go_loop [3] (fun i => ∃ k : Nat, i = .int .i64 k ∧ k ≤ n ∧ Hid (∀ x ∈ l.drop k, x = 0)) (fun i => (intOf i).toNat)
    case atStart => exact ⟨n, rfl, by omega, Lib.hid (by rw [List.drop_eq_nil_of_le (by rw [HL.out]; omega)]; simp)⟩
    case round =>
      obtain ⟨k, rfl, hk, HZ⟩ := hrel
      by_cases hk0 : k = 0
      · subst hk0
        have HT := Lib.hid (tl_unique (by omega) HZ.out (fun x h => absurd h (by omega)))
        have HRD := Lib.hid ((H.out.cut (m := 0) (c' := c) (by omega) (by omega) (by unfold maxLen; omega) (fun h => by cases h)).rd.alloc (.cells #[] tU))
        have hd : decide ((0 : Int) < 0) = false := rfl
        go_wp2_with (at_builtin; refine wpList_append_rd _ rfl _ _ _ rfl w.heap.size 125 i0 _ 1 4 Tryz.underlying38 ti tz0 tz1 tz2 rfl (by omega) (.slice (some ⟨w.heap.size, 0, none⟩) 0 0) 0 [] rfl (by exact HOWN.out) (some ad) (0) c (by simp) (U (l.take (0))) rfl (by exact HRD.out) (U_one _) (by unfold maxLen; omega) (by omega) (by simp) ?_)
        intro v' w2 hown2 hgrow
        have HO2 := Lib.hid (show w2.ownsRow w.heap.size tU 1 v' (0) (U (limbs (val l))) by
          rw [← HTL.out, HT.out]
          simpa using hown2)
        have HL2 := Lib.hid (HL0.out.trans (below_of_grown hgrow (by
          intro g hg
          have : w.heap.size = g := by simpa [Value.ownBlock] using hg
          omega) (by simp)))
        clear hown2 hgrow ti tz0 tz1 tz2
        go_wp2_with fail
        go_ret
        obtain ⟨A', c', rfl, hnw⟩ := Nw.of_own HO2.out HLO.out
        exact ⟨A', _, c', rfl, Lib.hid hnw, HL2⟩
      · obtain ⟨j, rfl⟩ : ∃ j, k = j + 1 := ⟨k - 1, by omega⟩
        obtain ⟨b, off, x, hA, hb, hx, hxB, hcell⟩ := H.out.at_ (i := j) (by omega)
        injection hA with hA
        subst hA
        have HX := Lib.hid hx
        clear hx hk0
        unfold BB at hxB
        by_cases hx0 : x = 0
        · subst hx0
          have HZ' := Lib.hid (show ∀ x ∈ l.drop j, x = 0 by
            rw [drop_at HX.out]
            intro y hy
            rcases List.mem_cons.1 hy with rfl | hy
            · rfl
            · exact HZ.out y hy)
          clear ti tz0 tz1 tz2
          go_wp2_with fail
          go_round
          case rel => exact ⟨j, by go_num, by omega, HZ'⟩
          case measure => simp [intOf]
        · have HT := Lib.hid (tl_unique (by rw [HL.out]; exact hk) HZ.out (fun y _ hy => by
            rw [show j + 1 - 1 = j by omega, HX.out] at hy
            injection hy with hy
            rw [← hy]; exact hx0))
          have hxd : ((x : Int) == 0) = false := by rw [beq_eq_false_iff_ne]; omega
          have HRD := Lib.hid ((H.out.cut (m := j + 1) (c' := c) hk (by omega) (by unfold maxLen; omega) (fun h => by cases h)).rd.alloc (.cells #[] tU))
          clear hx0
          go_wp2_with (at_builtin; refine wpList_append_rd _ rfl _ _ _ rfl w.heap.size 125 i0 _ 1 4 Tryz.underlying38 ti tz0 tz1 tz2 rfl (by omega) (.slice (some ⟨w.heap.size, 0, none⟩) 0 0) 0 [] rfl (by exact HOWN.out) (some ⟨b, off, none⟩) (j + 1) c (by simp) (U (l.take (j + 1))) rfl (by exact HRD.out) (U_one _) (by unfold maxLen; omega) (by omega) (by simp) ?_)
          intro v' w2 hown2 hgrow
          have HO2 := Lib.hid (show w2.ownsRow w.heap.size tU 1 v' (j + 1) (U (limbs (val l))) by
            rw [← HTL.out, HT.out]
            simpa using hown2)
          have HL2 := Lib.hid (HL0.out.trans (below_of_grown hgrow (by
            intro g hg
            have : w.heap.size = g := by simpa [Value.ownBlock] using hg
            omega) (by simp)))
          clear hown2 hgrow ti tz0 tz1 tz2
          go_wp2_with fail
          go_ret
          obtain ⟨A', c', rfl, hnw⟩ := Nw.of_own HO2.out HLO.out
          exact ⟨A', _, c', rfl, Lib.hid hnw, HL2⟩


def LfRel (w : World) (k n s : Nat) (a : List Nat) (q : Nat) (ov cv iv : Value) (wr : World) : Prop :=
  ∃ (i cc : Nat) (o : List Nat), iv = .int .i64 i ∧ cv = .int .u64 cc ∧ cc < 2 ^ s ∧ q = n - i ∧ i ≤ n ∧ Hid (o.length = k + i) ∧ Hid (ok o) ∧ Hid (wr.ownsRow w.heap.size tU 1 ov (k + i) (U o)) ∧
    Hid (val o + BB ^ (k + i) * cc = BB ^ k * (2 ^ s * val (a.take i))) ∧ Hid (Below w.heap.size w wr)

set_option maxHeartbeats 1600000 in
set_option maxRecDepth 100000 in
theorem uLeft (A : Option Addr) (n c p : Nat) (a : List Nat) (w : World) (ha : Sl w A n c a) (hn : n ≤ 100000) (hp : p ≤ 1000000) :
    Calls Tryz.prog 151 #[.slice A n c, .int .i64 p] w (RP (2 ^ p * val a) w) := by
  have HA := Lib.hid ha
  clear ha
  have HP := Lib.hid (pow_split p)
  generalize hk : p / 32 = k at *
  generalize hs : p % 32 = s at *
  have hs32 : s < 32 := by omega
  have hkb : k ≤ 40000 := by omega
  have hd1 : (p : Int) / 32 = k := by omega
  have hd2 : (p : Int) % 32 = s := by omega
  clear hk hs
  have hs31 := two_pow_le31 s hs32
  have hs0 := Nat.two_pow_pos s
  have hmk := make_u32 k k (k : Int) (k : Int) rfl rfl (Nat.le_refl _) (by omega)
  have HOW0 := Lib.hid (show (w.alloc (.cells (UA (zeros k)) tU)).ownsRow w.heap.size tU 1 (.slice (some ⟨w.heap.size, 0, none⟩) k k) k (U (zeros k)) from ⟨by simp [U, zeros_len], .inr ⟨w.heap.size, k, UA (zeros k), rfl, Nat.le_refl _, Blk.new _ _ _, Nat.le_refl _, by unfold maxLen; omega, by simp [UA, U, zeros_len], by simp [UA, U, zeros_len, List.take_of_length_le]⟩⟩)
  have HL0 := Lib.hid ((Below.refl w.heap.size w).alloc (Nat.le_refl _) (.cells (UA (zeros k)) tU))
  go_enter Tryz.func151, Tryz.ntmps151
  go_wp2_with fail
  clear hmk
  go_loopg [5, 6, 7] n (LfRel w k n s a)
  case atStart => exact ⟨0, 0, zeros k, rfl, rfl, hs0, rfl, Nat.zero_le _, Lib.hid (zeros_len _), Lib.hid (ok_zeros _), HOW0, Lib.hid (by simp [val_nil, zeros, val_zeros]), HL0⟩
  case round =>
    clear HOW0 HL0
    obtain ⟨i, cc, o, rfl, rfl, hcb, rfl, hi, HLEN, HOK, HOW, HV, HBL⟩ := hrel
    obtain ⟨i0, ti, tz0, tz1, tz2⟩ := info_parts Tryz.infoU32
    have hbs := HBL.out.size
    by_cases hin : i < n
    · have hd : decide (i < n) = true := by simpa using hin
      obtain ⟨b1, o1, x, hA, hb1, hx, hxB, hcell1⟩ := HA.out.at_ hin
      subst hA
      have hc1 : wr.cell? ⟨b1, o1 + i, none⟩ = some (.int .u32 x) := (HBL.out.cell (p := ⟨b1, _, none⟩) hb1).trans hcell1
      have HS := Lib.hid (left_step HLEN.out HOK.out hx hxB hcb HV.out)
      have hmod : x * 2 ^ s % 2 ^ s = 0 := Nat.mul_mod_left _ _
      have h5 : x * 2 ^ s < BB * 2 ^ s := Nat.mul_lt_mul_of_pos_right hxB hs0
      have h6 : BB * 2 ^ s ≤ BB * 2147483648 := Nat.mul_le_mul_left _ hs31
      clear hcell1 hx
      unfold BB at h5 h6 hxB
      have hXi : (x : Int) * 2 ^ s = ((x * 2 ^ s : Nat) : Int) := by simp
      generalize x * 2 ^ s = Y at *
      have hY : Y + cc < 18446744073709551616 := by omega
      have hYw : Y < 18446744073709551616 := by omega
      have hor := or_low64 s cc Y hs32 hmod hcb hY
      generalize hX : Y + cc = X at *
      have hand := and_mask64 X hY
      have hhi : (X : Int) / 4294967296 = ((X / BB : Nat) : Int) := by unfold BB; simp
      generalize hM : X % 4294967296 = M at *
      have HM := Lib.hid (show X % BB = M from hM)
      rw [HM.out] at HS
      have hMb : M < 4294967296 := by omega
      clear hM hmod h5 h6 hX
      generalize hQ : X / BB = Q at *
      have hQb : Q < 4294967296 := by rw [← hQ]; unfold BB; omega
      clear hQ
      go_wp2_with (at_builtin; refine wpList_append_lies _ rfl _ _ _ rfl w.heap.size 125 i0 _ 1 4 Tryz.underlying38 ti tz0 tz1 tz2 rfl (by omega) u5 (k + i) (U o) rfl (by exact HOW.out.alloc _) ⟨wr.heap.size, 0, none⟩ 1 1 [.int .u32 (M : Int)] rfl rfl (by exact World.news_of_block (cs := #[.int .u32 (M : Int)]) (t := 125) (fr := (0, 0)) (heap_alloc_new wr _)) (by simp [Value.oneCell']) (by omega) (by unfold maxLen; omega) (by omega) (by simp; omega) (wr.heap.size + 1) (by simp) ?_)
      intro g cap w3 hown hgrow hat hlt2
      have HO3 := Lib.hid (show w3.ownsRow w.heap.size tU 1 (.slice (some ⟨g, 0, none⟩) (k + i + 1) cap) (k + i + 1) (U (o ++ [M])) by rw [U_append]; exact hown)
      have HL3 := Lib.hid (show Below w.heap.size w w3 from (HBL.out.alloc (by omega) _).grown hgrow (by simp; omega) (fun k hk => (HOW.out.lt k hk).1))
      clear hown hgrow hat hlt2 ti tz0 tz1 tz2
      go_wp2_with fail
      go_roundg (n - (i + 1))
      case measure => omega
      case rel => exact ⟨i + 1, Q, o ++ [M], by go_num, rfl, HS.out.2.2.1, rfl, by omega, Lib.hid HS.out.1, Lib.hid HS.out.2.1, HO3, Lib.hid HS.out.2.2.2, HL3⟩
    · obtain rfl : i = n := by omega
      have hd : decide (i < i) = false := by simp
      have hcB : cc < 4294967296 := by omega
      have hcw : cc % 4294967296 = cc := Nat.mod_eq_of_lt hcB
      have hcw2 : (cc : Int) % 4294967296 = (cc : Int) := by omega
      have HVV := Lib.hid (show val (o ++ [cc]) = 2 ^ p * val a by
        have h1 := HV.out
        rw [take_all (by rw [HA.out.len]; omega)] at h1
        rw [val_snoc, HLEN.out, h1, HP.out, Nat.mul_assoc])
      have HOK2 := Lib.hid (show ok (o ++ [cc]) from ok_append.2 ⟨HOK.out, ok_cons.2 ⟨by unfold BB; exact hcB, ok_nil⟩⟩)
      generalize hM : cc = M at *
      go_wp2_with (at_builtin; refine wpList_append_lies _ rfl _ _ _ rfl w.heap.size 125 i0 _ 1 4 Tryz.underlying38 ti tz0 tz1 tz2 rfl (by omega) u5 (k + i) (U o) rfl (by exact HOW.out.alloc _) ⟨wr.heap.size, 0, none⟩ 1 1 [.int .u32 (M : Int)] rfl rfl (by exact World.news_of_block (cs := #[.int .u32 (M : Int)]) (t := 125) (fr := (0, 0)) (heap_alloc_new wr _)) (by simp [Value.oneCell']) (by omega) (by unfold maxLen; omega) (by omega) (by simp; omega) (wr.heap.size + 1) (by simp) ?_)
      intro g cap w3 hown hgrow hat hlt2
      have HO3 := Lib.hid (show w3.ownsRow w.heap.size tU 1 (.slice (some ⟨g, 0, none⟩) (k + i + 1) cap) (k + i + 1) (U (o ++ [M])) by rw [U_append]; exact hown)
      have HL3 := Lib.hid (show Below w.heap.size w w3 from (HBL.out.alloc (by omega) _).grown hgrow (by simp; omega) (fun k hk => (HOW.out.lt k hk).1))
      clear hown hgrow hat hlt2 ti tz0 tz1 tz2
      obtain ⟨A', c', hu, hnw⟩ := Nw.of_own HO3.out HOK2.out
      injection hu with hu1 hu2 hu3
      subst hu1 hu3
      have HN := Lib.hid hnw
      clear hnw
      go_wp2_with fail
      refine (uTrim (some ⟨g, 0, none⟩) (k + i + 1) cap (o ++ [M]) w3 HN.out.sl (by omega)).mono ?_
      rw [HVV.out]
      rintro e w2 ⟨C, kk, ck, rfl, HC, HL2⟩
      go_wp2_with fail
      go_ret
      exact ⟨C, kk, ck, rfl, Lib.hid (HC.out.base HL3.out.size), Lib.hid (HL3.out.trans (HL2.out.mono HL3.out.size))⟩

set_option maxHeartbeats 1600000 in
set_option maxRecDepth 100000 in
theorem uMinus (A B : Option Addr) (n c m d : Nat) (a b : List Nat) (w : World) (ha : Sl w A n c a) (hb : Sl w B m d b) (hn : n ≤ 900000) (hm : m ≤ 900000) (hle : val b ≤ val a) :
    Calls Tryz.prog 155 #[.slice A n c, .slice B m d] w (RP (val a - val b) w) := by
  have HA := Lib.hid ha
  have HB := Lib.hid hb
  have HLE := Lib.hid hle
  clear ha hb hle
  go_enter Tryz.func155, Tryz.ntmps155
  go_wp2_with fail
  go_loopg [5, 6, 7] n (RSubRel w n a b)
  case atStart => exact ⟨0, 0, [], rfl, rfl, by omega, by omega, by omega, Lib.hid rfl, Lib.hid ok_nil, Lib.hid ⟨rfl, .inl ⟨rfl, rfl⟩⟩, Lib.hid (by simp [val_nil]), Lib.hid (Below.refl _ _)⟩
  case round =>
    obtain ⟨i, cc, o, rfl, rfl, hcc, rfl, hi, HLEN, HOK, HOW, HV, HBL⟩ := hrel
    obtain ⟨i0, ti, tz0, tz1, tz2⟩ := info_parts Tryz.infoU32
    have hbs := HBL.out.size
    by_cases hin : i < n
    · have hd : decide (i < n) = true := by simpa using hin
      by_cases him : i < m
      · obtain ⟨b1, o1, x, hA, hb1, hx, hxB, hcell1⟩ := HA.out.at_ hin
        subst hA
        have hc1 : wr.cell? ⟨b1, o1 + i, none⟩ = some (.int .u32 x) := (HBL.out.cell (p := ⟨b1, _, none⟩) hb1).trans hcell1
        have hax : at0 a i = x := at0_in hx
        obtain ⟨b2, o2, y, hB, hb2, hy, hyB, hcell2⟩ := HB.out.at_ him
        subst hB
        have hc2 : wr.cell? ⟨b2, o2 + i, none⟩ = some (.int .u32 y) := (HBL.out.cell (p := ⟨b2, _, none⟩) hb2).trans hcell2
        have hay : at0 b i = y := at0_in hy
        have hdm : decide (i < m) = true := by simpa using him
        clear hcell2 hy
        clear hcell1 hx
        obtain ⟨hq1, hq2⟩ := rsub_limb x y cc hxB hyB hcc
        have HS := Lib.hid (rsub_step HLEN.out HOK.out HV.out (Nat.mod_lt _ BB_pos) (by rw [hax, hay]; exact hq2))
        clear hq2 hax hay
        have hxb : x + BB - y - cc < 18446744073709551616 := by unfold BB at *; omega
        have hXi : (x : Int) + 4294967296 - ((cc : Int) + y) = ((x + BB - y - cc : Nat) : Int) := by unfold BB at *; omega
        have hand := and_mask64 (x + BB - y - cc) hxb
        generalize x + BB - y - cc = X at *
        generalize hM : X % 4294967296 = M at *
        have HM := Lib.hid (show X % BB = M from hM)
        rw [HM.out] at HS
        have hMb : M < 4294967296 := by omega
        have hX1 : X / 4294967296 ≤ 1 := hq1
        clear hM
        generalize hT : X / BB = Tq at *
        have hTi : (X : Int) / 4294967296 = (Tq : Int) := by rw [← hT]; unfold BB; simp
        clear hT hX1
        unfold BB at hxB hyB
        go_wp2_with (at_builtin; refine wpList_append_lies _ rfl _ _ _ rfl w.heap.size 125 i0 _ 1 4 Tryz.underlying38 ti tz0 tz1 tz2 rfl (by omega) u5 i (U o) rfl (by exact HOW.out.alloc _) ⟨wr.heap.size, 0, none⟩ 1 1 [.int .u32 (M : Int)] rfl rfl (by exact World.news_of_block (cs := #[.int .u32 (M : Int)]) (t := 125) (fr := (0, 0)) (heap_alloc_new wr _)) (by simp [Value.oneCell']) (by omega) (by unfold maxLen; omega) (by omega) (by simp; omega) (wr.heap.size + 1) (by simp) ?_)
        intro g cap w3 hown hgrow hat hlt2
        have HO3 := Lib.hid (show w3.ownsRow w.heap.size tU 1 (.slice (some ⟨g, 0, none⟩) (i + 1) cap) (i + 1) (U (o ++ [M])) by rw [U_append]; exact hown)
        have HL3 := Lib.hid (show Below w.heap.size w w3 from (HBL.out.alloc (by omega) _).grown hgrow (by simp; omega) (fun k hk => (HOW.out.lt k hk).1))
        clear hown hgrow hat hlt2 ti tz0 tz1 tz2
        go_wp2_with fail
        go_roundg (n - (i + 1))
        case measure => omega
        case rel => exact ⟨i + 1, 1 - Tq, o ++ [M], by go_num, by congr 1; omega, by omega, rfl, by omega, Lib.hid HS.out.1, Lib.hid HS.out.2.1, HO3, Lib.hid HS.out.2.2, HL3⟩

      · obtain ⟨b1, o1, x, hA, hb1, hx, hxB, hcell1⟩ := HA.out.at_ hin
        subst hA
        have hc1 : wr.cell? ⟨b1, o1 + i, none⟩ = some (.int .u32 x) := (HBL.out.cell (p := ⟨b1, _, none⟩) hb1).trans hcell1
        have hax : at0 a i = x := at0_in hx
        obtain ⟨y, hy0⟩ : ∃ y : Nat, y = 0 := ⟨0, rfl⟩
        have hay : at0 b i = y := by rw [hy0]; exact at0_out (by rw [HB.out.len]; omega)
        have hyB : y < BB := by rw [hy0]; exact BB_pos
        have hdm : decide (i < m) = false := by simpa using him
        clear hcell1 hx
        obtain ⟨hq1, hq2⟩ := rsub_limb x y cc hxB hyB hcc
        have HS := Lib.hid (rsub_step HLEN.out HOK.out HV.out (Nat.mod_lt _ BB_pos) (by rw [hax, hay]; exact hq2))
        clear hq2 hax hay
        have hxb : x + BB - y - cc < 18446744073709551616 := by unfold BB at *; omega
        have hXi : (x : Int) + 4294967296 - (cc : Int) = ((x + BB - y - cc : Nat) : Int) := by rw [hy0]; unfold BB at *; omega
        clear hy0
        have hand := and_mask64 (x + BB - y - cc) hxb
        generalize x + BB - y - cc = X at *
        generalize hM : X % 4294967296 = M at *
        have HM := Lib.hid (show X % BB = M from hM)
        rw [HM.out] at HS
        have hMb : M < 4294967296 := by omega
        have hX1 : X / 4294967296 ≤ 1 := hq1
        clear hM
        generalize hT : X / BB = Tq at *
        have hTi : (X : Int) / 4294967296 = (Tq : Int) := by rw [← hT]; unfold BB; simp
        clear hT hX1
        unfold BB at hxB hyB
        go_wp2_with (at_builtin; refine wpList_append_lies _ rfl _ _ _ rfl w.heap.size 125 i0 _ 1 4 Tryz.underlying38 ti tz0 tz1 tz2 rfl (by omega) u5 i (U o) rfl (by exact HOW.out.alloc _) ⟨wr.heap.size, 0, none⟩ 1 1 [.int .u32 (M : Int)] rfl rfl (by exact World.news_of_block (cs := #[.int .u32 (M : Int)]) (t := 125) (fr := (0, 0)) (heap_alloc_new wr _)) (by simp [Value.oneCell']) (by omega) (by unfold maxLen; omega) (by omega) (by simp; omega) (wr.heap.size + 1) (by simp) ?_)
        intro g cap w3 hown hgrow hat hlt2
        have HO3 := Lib.hid (show w3.ownsRow w.heap.size tU 1 (.slice (some ⟨g, 0, none⟩) (i + 1) cap) (i + 1) (U (o ++ [M])) by rw [U_append]; exact hown)
        have HL3 := Lib.hid (show Below w.heap.size w w3 from (HBL.out.alloc (by omega) _).grown hgrow (by simp; omega) (fun k hk => (HOW.out.lt k hk).1))
        clear hown hgrow hat hlt2 ti tz0 tz1 tz2
        go_wp2_with fail
        go_roundg (n - (i + 1))
        case measure => omega
        case rel => exact ⟨i + 1, 1 - Tq, o ++ [M], by go_num, by congr 1; omega, by omega, rfl, by omega, Lib.hid HS.out.1, Lib.hid HS.out.2.1, HO3, Lib.hid HS.out.2.2, HL3⟩

    · obtain rfl : i = n := by omega
      have hd : decide (i < i) = false := by simp
      obtain ⟨A', c', hu, hnw⟩ := Nw.of_own HOW.out HOK.out
      subst hu
      have HN := Lib.hid hnw
      have HVV := Lib.hid (rsub_end HLEN.out HOK.out HA.out.ok HA.out.len HV.out HLE.out)
      clear hnw ti tz0 tz1 tz2
      go_wp2_with fail
      refine (uTrim A' i c' o wr HN.out.sl (by omega)).mono ?_
      rw [HVV.out]
      rintro e w2 ⟨C, k, ck, rfl, HC, HL2⟩
      go_wp2_with fail
      go_ret
      exact ⟨C, k, ck, rfl, Lib.hid (HC.out.base HBL.out.size), Lib.hid (HBL.out.trans (HL2.out.mono HBL.out.size))⟩
def CpRel (w : World) (n : Nat) (a b : List Nat) (k : Nat) (iv : Value) (wr : World) : Prop :=
  ∃ j : Nat, iv = .int .i64 ((j : Int) - 1) ∧ j = k ∧ j ≤ n ∧ Hid (∀ i, j ≤ i → at0 a i = at0 b i) ∧ Hid (Below w.heap.size w wr)
set_option maxHeartbeats 1600000 in
theorem uCompare (A B : Option Addr) (n c m d x y : Nat) (w : World) (ha : Sl w A n c (limbs x)) (hb : Sl w B m d (limbs y)) (hn : n ≤ 900000) (hm : m ≤ 900000) :
    Calls Tryz.prog 154 #[.slice A n c, .slice B m d] w (Ret (.int .i64 (cmpN x y)) w) := by
  have HA := Lib.hid ha
  have HB := Lib.hid hb
  have hla := ha.len
  have hlb := hb.len
  by_cases h1 : n < m
  · have HV := Lib.hid (cmpN_lt (limbs_len_lt (x := x) (y := y) (by omega)))
    have d1 : ((n : Int) != (m : Int)) = true := by rw [bne_iff_ne]; omega
    have d2 : decide ((n : Int) < (m : Int)) = true := decide_eq_true (by omega)
    have d2' : decide (n < m) = true := decide_eq_true h1
    clear ha hb hla hlb
    go_enter Tryz.func154, Tryz.ntmps154
    go_wp2_with fail
    go_ret
    exact ⟨by rw [HV.out]; rfl, Lib.hid (Below.refl _ _)⟩
  · by_cases h2 : m < n
    · have HV := Lib.hid (cmpN_gt (limbs_len_lt (x := y) (y := x) (by omega)))
      have d1 : ((n : Int) != (m : Int)) = true := by rw [bne_iff_ne]; omega
      have d2 : decide ((n : Int) < (m : Int)) = false := decide_eq_false (by omega)
      have d2' : decide (n < m) = false := decide_eq_false h1
      clear ha hb hla hlb
      go_enter Tryz.func154, Tryz.ntmps154
      go_wp2_with fail
      go_ret
      exact ⟨by rw [HV.out]; rfl, Lib.hid (Below.refl _ _)⟩
    · obtain rfl : n = m := by omega
      have HLA := Lib.hid hla
      have HLB := Lib.hid hlb
      clear ha hb hla hlb h1 h2
      go_enter Tryz.func154, Tryz.ntmps154
      go_wp2_with fail
      go_loopg [5] n (CpRel w n (limbs x) (limbs y))
      case atStart => exact ⟨n, rfl, rfl, Nat.le_refl _, Lib.hid (fun i hi => by rw [at0_out (by rw [HLA.out]; exact hi), at0_out (by rw [HLB.out]; exact hi)]), Lib.hid (Below.refl _ _)⟩
      case round =>
        obtain ⟨j, rfl, rfl, hj, HE, HW⟩ := hrel
        cases j with
        | zero =>
          rw [show ((0 : Nat) : Int) - 1 = -1 by omega]
          have HV := Lib.hid (show cmpN x y = 0 by
            have h := cmpN_eq (at0_eq (Nat.le_of_eq HLA.out) (Nat.le_of_eq HLB.out) HE.out)
            rwa [val_limbs, val_limbs] at h)
          go_wp2_with fail
          go_ret
          exact ⟨by rw [HV.out]; rfl, HW⟩
        | succ i =>
          rw [show ((i + 1 : Nat) : Int) - 1 = i by omega]
          obtain ⟨b1, o1, p, hA, hb1, hx, hxB, hcell1⟩ := HA.out.at_ (i := i) (by omega)
          obtain ⟨b2, o2, q, hB, hb2, hy, hyB, hcell2⟩ := HB.out.at_ (i := i) (by omega)
          subst hA hB
          have hc1 : wr.cell? ⟨b1, o1 + i, none⟩ = some (.int .u32 p) := (HW.out.cell (p := ⟨b1, _, none⟩) hb1).trans hcell1
          have hc2 : wr.cell? ⟨b2, o2 + i, none⟩ = some (.int .u32 q) := (HW.out.cell (p := ⟨b2, _, none⟩) hb2).trans hcell2
          have HX := Lib.hid (at0_in hx)
          have HY := Lib.hid (at0_in hy)
          have b0 : (0 : Int) ≤ (i : Int) := by omega
          have b9 : (i : Int) < (n : Int) := by omega
          have e1 : (i : Int) - 1 = ((i : Nat) : Int) - 1 := rfl
          clear hcell1 hcell2 hx hy
          by_cases hlt : p < q
          case pos =>
            have d1 : decide ((p : Int) < (q : Int)) = true := decide_eq_true (by omega)
            have d1' : decide (p < q) = true := decide_eq_true hlt
            have HV := Lib.hid (show cmpN x y = -1 by
              have h := cmpN_lt (at0_less HA.out.ok (Nat.le_of_eq HLA.out) (Nat.le_of_eq HLB.out) (show i < n by omega) (by rw [HX.out, HY.out]; exact hlt) HE.out)
              rwa [val_limbs, val_limbs] at h)
            go_wp2_with fail
            go_quiet (fail)
            go_wp2_with fail
            go_ret
            exact ⟨by rw [HV.out]; rfl, Lib.hid (by first | exact below_drewN HW.out _ | exact below_drewN (below_drewN HW.out _) _)⟩
          case neg =>
            have d1 : decide ((p : Int) < (q : Int)) = false := decide_eq_false (by omega)
            have d1' : decide (p < q) = false := decide_eq_false hlt
            by_cases hgt : q < p
            case pos =>
              have d2 : decide ((q : Int) < (p : Int)) = true := decide_eq_true (by omega)
              have d2' : decide (q < p) = true := decide_eq_true hgt
              have HV := Lib.hid (show cmpN x y = 1 by
                have h := cmpN_gt (at0_less HB.out.ok (Nat.le_of_eq HLB.out) (Nat.le_of_eq HLA.out) (show i < n by omega) (by rw [HX.out, HY.out]; exact hgt) (fun j hj => (HE.out j hj).symm))
                rwa [val_limbs, val_limbs] at h)
              go_wp2_with fail
              go_quiet (fail)
              go_wp2_with fail
              go_quiet (fail)
              go_wp2_with fail
              go_ret
              exact ⟨by rw [HV.out]; rfl, Lib.hid (by first | exact below_drewN HW.out _ | exact below_drewN (below_drewN HW.out _) _)⟩
            case neg =>
              have d2 : decide ((q : Int) < (p : Int)) = false := decide_eq_false (by omega)
              have d2' : decide (q < p) = false := decide_eq_false hgt
              have HE' := Lib.hid (show ∀ k, i ≤ k → at0 (limbs x) k = at0 (limbs y) k from fun k hk => by
                rcases Nat.eq_or_lt_of_le hk with rfl | hk
                · rw [HX.out, HY.out]; omega
                · exact HE.out k (by omega))
              go_wp2_with fail
              go_quiet (fail)
              go_wp2_with fail
              go_quiet (fail)
              go_wp2_with fail
              go_roundg i
              case measure => omega
              case rel => exact ⟨i, rfl, rfl, by omega, HE', Lib.hid (by first | exact below_drewN HW.out _ | exact below_drewN (below_drewN HW.out _) _)⟩
end Go.Proofs.YtoogeihbhhcpaaaGreatDoor
