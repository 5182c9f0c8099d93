/-
  The walk of the reference's made.
-/
import Derived.Test.YtnogfceojmnjiaaGreatDoorRcB
import Derived.Deep.Cut
set_option linter.unusedVariables false
namespace Go.Fl.Dy
open Go.Fl.Nm
theorem v2_bit {V j : Nat} (h : V % 2 ^ j = 0) (h1 : V / 2 ^ j % 2 = 1) : v2 V = j ∧ od V = V / 2 ^ j := by
  refine v2_unique h1 ?_
  have := Nat.div_add_mod V (2 ^ j)
  rw [h, Nat.add_zero] at this
  exact this.symm
theorem low_next {V j : Nat} (h : V % 2 ^ j = 0) (h1 : V / 2 ^ j % 2 = 0) : V % 2 ^ (j + 1) = 0 := by
  rw [Nat.pow_succ, Nat.mod_mul, h, h1]
  simp
theorem low_lt {V j : Nat} (h0 : V ≠ 0) (h : V % 2 ^ j = 0) : j < blen V := by
  rcases Nat.lt_or_ge j (blen V) with h1 | h1
  · exact h1
  · exfalso
    have h2 := blen_lt h1
    rw [Nat.mod_eq_of_lt h2] at h
    exact h0 h
/-- A word of bits grows by one. -/
theorem word_next (V i k : Nat) : V / 2 ^ i % 2 ^ (k + 1) = V / 2 ^ i % 2 ^ k + 2 ^ k * bitI V ((i : Int) + k) := by
  have e : bitI V ((i : Int) + k) = V / 2 ^ i / 2 ^ k % 2 := by
    unfold bitI
    rw [if_neg (by omega), show ((i : Int) + k).toNat = i + k by omega, Nat.pow_add, Nat.div_div_eq_div_mul]
  rw [e, Nat.pow_succ, Nat.mod_mul]
theorem word_or {x k b : Nat} (hx : x < 2 ^ k) (hk : k < 32) (hb : b ≤ 1) : Go.bits .or .u32 (x : Int) ((b : Int) * 2 ^ k) = ((x + 2 ^ k * b : Nat) : Int) := by
  have hp : 2 ^ k ≤ 2 ^ 31 := Nat.pow_le_pow_right (by decide) (by omega)
  have hbb : 2 ^ k * b ≤ 2 ^ 31 := Nat.le_trans (Nat.mul_le_mul_left _ hb) (by omega)
  have hw : ∀ n : Int, 0 ≤ n → n < 2 ^ 32 → IntKind.u32.wrap n = n := fun n h0 h1 => by rw [IntKind.wrap_u32]; omega
  have h1 := (bits_nat .u32 32 (by decide) hw x (2 ^ k * b) (by omega) (by omega)).2
  have h2 := (bits_nat .u32 32 (by decide) hw (2 ^ k * b) x (by omega) (by omega)).2
  have h3 := bits_join .u32 32 (by decide) hw k ((2 ^ k * b : Nat) : Int) (x : Int) (by omega) (by rw [Int.natCast_mul, Int.natCast_pow]; exact Int.mul_emod_right _ _) (by omega) (by omega) (by exact_mod_cast hx) (by omega)
  have e : (b : Int) * 2 ^ k = ((2 ^ k * b : Nat) : Int) := by rw [Int.natCast_mul, Int.natCast_pow, Int.mul_comm]; rfl
  rw [e, h1, Nat.or_comm, ← h2, h3]
  omega
theorem shl_small {k b : Nat} (hk : k < 32) (hb : b ≤ 1) : (b : Int) * 2 ^ k % 4294967296 = (b : Int) * 2 ^ k := by
  have hp : 2 ^ k ≤ 2 ^ 31 := Nat.pow_le_pow_right (by decide) (by omega)
  have e : (b : Int) * 2 ^ k = ((b * 2 ^ k : Nat) : Int) := by rw [Int.natCast_mul, Int.natCast_pow]; rfl
  have h : b * 2 ^ k ≤ 1 * 2 ^ 31 := Nat.mul_le_mul hb hp
  rw [e]
  omega
theorem word_end (V j q : Nat) (o : List Nat) (hl : o.length = q) (hv : val o = V / 2 ^ j % 2 ^ (32 * q)) : val (o ++ [V / 2 ^ (j + 32 * q) % 2 ^ 32]) = V / 2 ^ j % 2 ^ (32 * (q + 1)) := by
  rw [val_snoc, hl, hv, show 32 * (q + 1) = 32 * q + 32 by omega, Nat.pow_add 2 (32 * q) 32, Nat.mod_mul, BB_pow, ← Nat.pow_mul, Nat.pow_add 2 j, Nat.div_div_eq_div_mul]
theorem limbs_same {o : List Nat} (h : ok o) (hl : o.length = (limbs (val o)).length) : o = limbs (val o) := by
  have h1 := trim_limbs h
  rw [tl_limbs h, ← hl, List.take_length] at h1
  exact h1
end Go.Fl.Dy
namespace Go.Proofs.YtnogfceojmnjiaaGreatDoor
open Go.RowKit Go.Fl Go.Fl.Nm Go.Fl.Dy
def MadeRel (w : World) (neg : Bool) (ex : Int) (gd V B j : Nat) (k : Nat) (v : Value) (wr : World) : Prop :=
  ∃ (q : Nat) (o : List Nat) (sv : Value), v = .int .i64 ((j : Int) + 32 * q) ∧ k = B + 32 - (j + 32 * q) ∧ j + 32 * q < B + 32 ∧ Hid (o.length = q) ∧ Hid (ok o) ∧ Hid (wr.ownsRow (gd + 1) tU 1 sv q (U o)) ∧
    Hid (Blk wr gd 28 #[.bool neg, sv, .int .i64 ex]) ∧ Hid (Blk wr w.heap.size 28 #[.bool false, .slice none 0 0, .int .i64 0]) ∧ Hid (val o = V / 2 ^ j % 2 ^ (32 * q)) ∧ Hid (Below w.heap.size w wr) ∧ gd < wr.heap.size
set_option maxHeartbeats 2000000 in
theorem made_r (neg : Bool) (A : Option Addr) (n c : Nat) (l : List Nat) (ex : Int) (w : World) (ha : Sl w A n c l) (hn : n ≤ 1000) (e1 : -100000 ≤ ex) (e2 : ex ≤ 100000) :
    Calls Tryz.prog 95 #[.bool neg, .slice A n c, .int .i64 ex] w (DyR (canon neg (val l) ex) w) := by
  have HA := Lib.hid ha
  have hBL : blen (val l) ≤ 32000 := by
    have := val_lt ha.ok
    rw [ha.len, BB_pow, ← Nat.pow_mul] at this
    exact Nat.le_trans (blen_le this) (by omega)
  clear ha
  obtain ⟨V, hV⟩ : ∃ V, val l = V := ⟨_, rfl⟩
  obtain ⟨B, hB⟩ : ∃ B, blen V = B := ⟨_, rfl⟩
  rw [hV] at hBL ⊢
  rw [hB] at hBL
  have HV := Lib.hid hV
  have HB := Lib.hid hB
  clear hV hB
  obtain ⟨w1, hw⟩ : ∃ z9 : World, z9 = w.alloc (.cells #[.bool false, .slice none 0 0, .int .i64 0] 28) := ⟨_, rfl⟩
  have HB1 := Lib.hid (show Below w.heap.size w w1 by rw [hw]; exact below_a1 _ _)
  have F1r := Lib.hid (show Blk w1 w.heap.size 28 #[.bool false, .slice none 0 0, .int .i64 0] by rw [hw]; exact Blk.new _ _ _)
  have F1a := Lib.hid (HA.out.belowW HB1.out)
  by_cases hz : V = 0
  · obtain rfl : B = 0 := by rw [← HB.out, hz]; rfl
    have HR := Lib.hid (show canon neg V ex = ⟨false, 0, 0⟩ by rw [hz]; rfl)
    clear hz
    go_enter Tryz.func95, Tryz.ntmps95
    go_wp2_with fail
    rw [← hw]
    clear hw
    refine (bits_r A n c l w1 F1a.out (by omega)).mono ?_
    rw [HV.out, HB.out]
    rintro e w' ⟨rfl, rfl⟩
    have pr0 : w1.cell? ⟨w.heap.size, 0, none⟩ = some (.bool false) := F1r.out.cell 0
    have pr1 : w1.cell? ⟨w.heap.size, 1, none⟩ = some (.slice none 0 0) := F1r.out.cell 1
    have pr2 : w1.cell? ⟨w.heap.size, 2, none⟩ = some (.int .i64 0) := F1r.out.cell 2
    have fr0 : w1.frozen? ⟨w.heap.size, 0, none⟩ = false := F1r.out.frozen 0
    have fr1 : w1.frozen? ⟨w.heap.size, 1, none⟩ = false := F1r.out.frozen 1
    have fr2 : w1.frozen? ⟨w.heap.size, 2, none⟩ = false := F1r.out.frozen 2
    go_wp2_with fail
    refine bodyPost_ret (v := .agg #[.bool false, .slice none 0 0, .int .i64 0]) (by simp [results, Tryz.results95, go_sem, pr0, pr1, pr2]) rfl ?_
    rw [HR.out]
    exact ⟨none, 0, 0, rfl, Lib.hid (by rw [limbs_zero]; exact Sl.none_ _), Lib.hid (store3_below HB1.out F1r.out _ _ _ (Nat.le_refl _))⟩
  · have hB0 : ((B : Int) == 0) = false := by rw [beq_eq_false_iff_ne]; have := blen_pos hz; rw [HB.out] at this; omega
    have HZ := Lib.hid hz
    clear hz
    go_enter Tryz.func95, Tryz.ntmps95
    go_wp2_with fail
    rw [← hw]
    clear hw
    refine (bits_r A n c l w1 F1a.out (by omega)).mono ?_
    rw [HV.out, HB.out]
    rintro e w' ⟨rfl, rfl⟩
    go_wp2_with fail
    go_loop [8] (fun v => ∃ j : Nat, v = .int .i64 j ∧ j ≤ B ∧ Hid (V % 2 ^ j = 0)) (fun v => B - (intOf v).toNat)
    case atStart => exact ⟨0, rfl, by omega, Lib.hid (by rw [Nat.pow_zero, Nat.mod_one])⟩
    case round =>
      obtain ⟨j, rfl, hj, HJ⟩ := hrel
      have hj2 : j < B := by rw [← HB.out]; exact low_lt HZ.out HJ.out
      have KB := Lib.hid (bit_r A n c (j : Int) l w1 F1a.out (by omega) (by omega) (by omega))
      rw [HV.out] at KB
      have HBI := Lib.hid (show bitI V (j : Int) = V / 2 ^ j % 2 by unfold bitI; rw [if_neg (by omega)]; rfl)
      rw [HBI.out] at KB
      by_cases hb : V / 2 ^ j % 2 = 0
      · rw [hb] at KB
        have HN := Lib.hid (low_next HJ.out hb)
        clear hb
        go_wp2_with fail
        refine KB.out.mono ?_
        rintro e w' ⟨rfl, rfl⟩
        go_wp2_with fail
        refine ⟨⟨j + 1, by go_num, by omega, HN⟩, ?_⟩
        simp [intOf]; omega
      · have hb1 : V / 2 ^ j % 2 = 1 := by generalize V / 2 ^ j = t at *; omega
        rw [hb1] at KB
        have HVJ := Lib.hid (v2_bit HJ.out hb1)
        clear hb hb1
        go_wp2_with fail
        refine KB.out.mono ?_
        rintro e w' ⟨rfl, rfl⟩
        go_upto_region 8 with (fail)
        obtain ⟨w2, hw⟩ : ∃ z9 : World, z9 = w1.alloc (.cells #[.bool neg, .slice none 0 0, .int .i64 (ex + (j : Int))] 28) := ⟨_, rfl⟩
        have HB2 := Lib.hid (show Below w1.heap.size w1 w2 by rw [hw]; exact below_a1 _ _)
        have F2d := Lib.hid (show Blk w2 w1.heap.size 28 #[.bool neg, .slice none 0 0, .int .i64 (ex + (j : Int))] by rw [hw]; exact Blk.new _ _ _)
        rw [← hw]
        clear hw
        have F2r := Lib.hid (F1r.out.belowW HB2.out)
        have HL2 := Lib.hid (HB1.out.trans (HB2.out.mono HB1.out.size))
        obtain ⟨gd, hgd⟩ : ∃ gd, w1.heap.size = gd := ⟨_, rfl⟩
        rw [hgd] at F2d ⊢
        have hg1 : w.heap.size < gd := by rw [← hgd]; exact F1r.out.lt
        have hg2 : gd < w2.heap.size := F2d.out.lt
        clear hgd HB2 KB F1a F1r HB1
        go_wp2_with fail
        go_loopg [10] (B + 32 - j) (MadeRel w neg (ex + (j : Int)) gd V B j)
        case atStart => exact ⟨0, [], _, by go_num, by omega, by omega, Lib.hid rfl, Lib.hid ok_nil, Lib.hid ⟨rfl, .inl ⟨rfl, rfl⟩⟩, F2d, F2r, Lib.hid (by simp [val_nil, Nat.mod_one]), HL2, hg2⟩
        case round =>
          obtain ⟨q, o, sv, rfl, hk, hq, HLEN, HOK, HOW, FD, FR, HVO, HBL, hgs⟩ := hrel
          by_cases hst : j + 32 * q < B
          · have hd : decide ((j : Int) + 32 * q < B) = true := decide_eq_true (by omega)
            have FA := Lib.hid (HA.out.below HBL.out)
            go_wp2_with fail
            go_loop [11, 12] (fun x v => ∃ kk : Nat, v = .int .i64 kk ∧ kk ≤ 32 ∧ x = .int .u32 ((V / 2 ^ (j + 32 * q) % 2 ^ kk : Nat) : Int)) (fun _ v => 32 - (intOf v).toNat)
            case atStart => exact ⟨0, rfl, by omega, by rw [Nat.pow_zero, Nat.mod_one]; rfl⟩
            case round =>
              obtain ⟨kk, rfl, hkk, rfl⟩ := hrel
              by_cases hk32 : kk < 32
              · have dk : decide ((kk : Int) < 32) = true := decide_eq_true (by omega)
                have KB := Lib.hid (bit_r A n c ((j : Int) + 32 * q + kk) l wr FA.out (by omega) (by omega) (by omega))
                rw [HV.out] at KB
                have HW := Lib.hid (word_next V (j + 32 * q) kk)
                rw [show ((j + 32 * q : Nat) : Int) + kk = (j : Int) + 32 * q + kk by omega] at HW
                obtain ⟨b, hb⟩ : ∃ b, bitI V ((j : Int) + 32 * q + kk) = b := ⟨_, rfl⟩
                have hb1 : b ≤ 1 := by rw [← hb]; exact bitI_le _ _
                rw [hb] at KB HW
                obtain ⟨x, hx⟩ : ∃ x, V / 2 ^ (j + 32 * q) % 2 ^ kk = x := ⟨_, rfl⟩
                have hxk : x < 2 ^ kk := by rw [← hx]; exact Nat.mod_lt _ (Nat.two_pow_pos _)
                have hor := word_or hxk hk32 hb1
                rw [hx] at HW ⊢
                clear hb hx
                go_wp2_with fail
                refine KB.out.mono ?_
                rintro e w' ⟨rfl, rfl⟩
                go_wp2_with fail
                refine ⟨⟨kk + 1, by go_num, by omega, ?_⟩, ?_⟩
                · rw [HW.out, ← hor, shl_small hk32 hb1]
                · simp [intOf]; omega
              · have dk : decide ((kk : Int) < 32) = false := decide_eq_false (by omega)
                obtain rfl : kk = 32 := by omega
                have HWE := Lib.hid (word_end V j q o HLEN.out HVO.out)
                obtain ⟨M, hM⟩ : ∃ M, V / 2 ^ (j + 32 * q) % 2 ^ 32 = M := ⟨_, rfl⟩
                have hMb : M < 4294967296 := by rw [← hM]; exact Nat.mod_lt _ (by decide)
                rw [hM] at HWE ⊢
                clear hM hk32
                obtain ⟨i0, ti, tz0, tz1, tz2⟩ := info_parts Tryz.infoU32
                have hbs := HBL.out.size
                have HOK2 := Lib.hid (show ok (o ++ [M]) from ok_append.2 ⟨HOK.out, ok_cons.2 ⟨by unfold BB; omega, ok_nil⟩⟩)
                have pd1 : wr.cell? ⟨gd, 1, none⟩ = some sv := FD.out.cell 1
                go_wp2_with (at_builtin; refine wpList_append_lies _ rfl _ _ _ rfl (gd + 1) 39 i0 _ 1 4 Tryz.underlying26 ti tz0 tz1 tz2 rfl (by omega) sv q (U o) rfl (by exact HOW.out.alloc _) ⟨wr.heap.size, 0, none⟩ 1 1 [.int .u32 (M : Int)] rfl rfl (by exact World.news_of_block (cs := #[.int .u32 (M : Int)]) (t := 39) (fr := (0, 0)) (heap_alloc_new wr _)) (by simp [Value.oneCell']) (by omega) (by unfold maxLen; omega) (by omega) (by simp; omega) (wr.heap.size + 1) (by simp) ?_)
                intro g cap w3 hown hgrow hat hlt2
                have hnd : some gd ≠ sv.ownBlock := fun e => by have := (HOW.out.lt gd e.symm).1; omega
                have hnr : some w.heap.size ≠ sv.ownBlock := fun e => by have := (HOW.out.lt _ e.symm).1; omega
                have FD3 := Lib.hid ((FD.out.alloc (.cells #[.int .u32 (M : Int)] 39)).grown hgrow hnd)
                have FR3 := Lib.hid ((FR.out.alloc (.cells #[.int .u32 (M : Int)] 39)).grown hgrow hnr)
                have HL3 := Lib.hid (show Below w.heap.size w w3 from (HBL.out.alloc (by omega) _).grown hgrow (by simp; omega) (fun k hk => by have := (HOW.out.lt k hk).1; omega))
                have pd1' : w3.cell? ⟨gd, 1, none⟩ = some sv := FD3.out.cell 1
                have fd1' : w3.frozen? ⟨gd, 1, none⟩ = false := FD3.out.frozen 1
                have HO4 := Lib.hid (show (w3.setCell ⟨gd, 1, none⟩ (.slice (some ⟨g, 0, none⟩) (q + 1) cap)).ownsRow (gd + 1) tU 1 (.slice (some ⟨g, 0, none⟩) (q + 1) cap) (q + 1) (U (o ++ [M])) from ownsRow_setCell_below (by rw [U_append]; exact hown) (Nat.lt_succ_self gd) _)
                have FD4 := Lib.hid (show Blk (w3.setCell ⟨gd, 1, none⟩ (.slice (some ⟨g, 0, none⟩) (q + 1) cap)) gd 28 #[.bool neg, .slice (some ⟨g, 0, none⟩) (q + 1) cap, .int .i64 (ex + (j : Int))] by rw [FD3.out.setCell_eq 1]; exact FD3.out.put _)
                have FR4 := Lib.hid (show Blk (w3.setCell ⟨gd, 1, none⟩ (.slice (some ⟨g, 0, none⟩) (q + 1) cap)) w.heap.size 28 #[.bool false, .slice none 0 0, .int .i64 0] by rw [FD3.out.setCell_eq 1]; exact FR3.out.far (by omega) _)
                have HL4 := Lib.hid (show Below w.heap.size w (w3.setCell ⟨gd, 1, none⟩ (.slice (some ⟨g, 0, none⟩) (q + 1) cap)) by rw [FD3.out.setCell_eq 1]; exact HL3.out.trans (putB_below _ _ _ _ (by omega)))
                have hgs4 : gd < (w3.setCell ⟨gd, 1, none⟩ (.slice (some ⟨g, 0, none⟩) (q + 1) cap)).heap.size := FD4.out.lt
                have HLEN2 := Lib.hid (show (o ++ [M]).length = q + 1 by rw [List.length_append, HLEN.out]; rfl)
                clear hown hgrow hat hlt2 ti tz0 tz1 tz2 hnd hnr
                go_wp2_with fail
                go_roundg (B + 32 - (j + 32 * (q + 1)))
                case measure => omega
                case rel => exact ⟨q + 1, o ++ [M], _, by go_num, rfl, by omega, HLEN2, HOK2, HO4, FD4, FR4, HWE, HL4, hgs4⟩
          · have hd : decide ((j : Int) + 32 * q < B) = false := decide_eq_false (by omega)
            obtain ⟨A', c', hu, hnw⟩ := Nw.of_own HOW.out HOK.out
            subst hu
            have HN := Lib.hid hnw.sl
            have HLO := Lib.hid (show o = limbs (od V) by
              have h1 : od V = V / 2 ^ j := HVJ.out.2
              have h2 : blen V = v2 V + blen (od V) := blen_od HZ.out
              rw [HB.out, HVJ.out.1] at h2
              have h3 : val o = od V := by
                rw [HVO.out, ← h1]
                exact Nat.mod_eq_of_lt (blen_lt (by omega))
              have h4 := limbs_same HOK.out (by
                rw [h3, HLEN.out]
                have u1 := limbs_bits (n := od V) (k := q) (by omega)
                rcases Nat.lt_or_ge (limbs (od V)).length q with h | h
                · have := bits_limbs (n := od V) (k := q - 1) (by omega)
                  omega
                · omega)
              rw [h3] at h4
              exact h4)
            have HCN := Lib.hid (show canon neg V ex = ⟨neg, od V, ex + (j : Int)⟩ by rw [canon_pos HZ.out, HVJ.out.1])
            clear hnw
            have pd0 : wr.cell? ⟨gd, 0, none⟩ = some (.bool neg) := FD.out.cell 0
            have pd1 : wr.cell? ⟨gd, 1, none⟩ = some (.slice A' q c') := FD.out.cell 1
            have pd2 : wr.cell? ⟨gd, 2, none⟩ = some (.int .i64 (ex + (j : Int))) := FD.out.cell 2
            have pr0 : wr.cell? ⟨w.heap.size, 0, none⟩ = some (.bool false) := FR.out.cell 0
            have pr1 : wr.cell? ⟨w.heap.size, 1, none⟩ = some (.slice none 0 0) := FR.out.cell 1
            have pr2 : wr.cell? ⟨w.heap.size, 2, none⟩ = some (.int .i64 0) := FR.out.cell 2
            have fr0 : wr.frozen? ⟨w.heap.size, 0, none⟩ = false := FR.out.frozen 0
            have fr1 : wr.frozen? ⟨w.heap.size, 1, none⟩ = false := FR.out.frozen 1
            have fr2 : wr.frozen? ⟨w.heap.size, 2, none⟩ = false := FR.out.frozen 2
            go_wp2_with fail
            refine bodyPost_ret (v := .agg #[.bool neg, .slice A' q c', .int .i64 (ex + (j : Int))]) (by simp [results, Tryz.results95, go_sem, pr0, pr1, pr2]) rfl ?_
            rw [HCN.out]
            refine ⟨A', q, c', rfl, Lib.hid (store3_sl ?_ FR.out noU3 _ _ _), Lib.hid (store3_below HBL.out FR.out _ _ _ (Nat.le_refl _))⟩
            rw [← HLO.out]
            exact HN.out
end Go.Proofs.YtnogfceojmnjiaaGreatDoor
