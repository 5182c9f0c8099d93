/-
  The walk of the reference's Ends.
-/
import Derived.Test.YtnogfceojmnjiaaGreatDoorRcC
set_option linter.unusedVariables false
namespace Go.Fl.Dy
open Go.Fl.Nm
theorem and1_64 (x k : Nat) (h : x < 9223372036854775808) : Go.bits .and .u64 ((x : Int) / 2 ^ k) 1 = ((x / 2 ^ k % 2 : Nat) : Int) := by
  have e : (x : Int) / 2 ^ k = ((x / 2 ^ k : Nat) : Int) := by rw [Int.natCast_ediv, Int.natCast_pow]; rfl
  have h2 : x / 2 ^ k < 9223372036854775808 := Nat.lt_of_le_of_lt (Nat.div_le_self _ _) h
  have := (bits_nat .u64 63 (by decide) (fun n h0 h1 => by rw [IntKind.wrap_u64]; omega) (x / 2 ^ k) 1 h2 (by decide)).1
  rw [e]
  rw [Nat.and_one_is_mod] at this
  exact this
theorem long_step {n d i M rest : Nat} (hd : 0 < d) (hr : rest < d) (h : n / 2 ^ (i + 1) = M * d + rest) :
    (2 * rest + n / 2 ^ i % 2) / d ≤ 1 ∧ n / 2 ^ i = (2 * M + (2 * rest + n / 2 ^ i % 2) / d) * d + (2 * rest + n / 2 ^ i % 2) % d := by
  have h1 := half_step n i
  rw [h] at h1
  generalize n / 2 ^ i = t at *
  have hb : t % 2 ≤ 1 := by omega
  generalize t % 2 = b at *
  have h2 := Nat.div_add_mod (2 * rest + b) d
  refine ⟨?_, ?_⟩
  · have : (2 * rest + b) / d < 2 := (Nat.div_lt_iff_lt_mul hd).2 (by omega)
    omega
  · rw [h1, Nat.add_mul, Nat.mul_add, Nat.mul_comm ((2 * rest + b) / d) d, Nat.mul_assoc]
    omega
theorem ends_bound {n d p M rest t : Nat} (hn : 1 ≤ n) (hd : d ≤ 1073741824) (hr : rest < d) (h : n * 2 ^ t = M * d + rest) (hb : blen M ≤ p) : t ≤ p + 31 := by
  have h1 := blen_lt hb
  have h2 : M * d + rest < 2 ^ p * d := by
    have : (M + 1) * d ≤ 2 ^ p * d := Nat.mul_le_mul_right _ h1
    rw [Nat.add_mul] at this
    omega
  have h3 : 2 ^ t ≤ n * 2 ^ t := Nat.le_mul_of_pos_left _ hn
  have h4 : 2 ^ p * d ≤ 2 ^ p * 2 ^ 30 := Nat.mul_le_mul_left _ hd
  rw [← Nat.pow_add] at h4
  have h5 : 2 ^ t < 2 ^ (p + 30) := by omega
  have := (Nat.pow_lt_pow_iff_right (by decide : 1 < 2)).1 h5
  omega
theorem ends_fin {n d p M rest t b lo : Nat} (hn : 1 ≤ n) (hd : 1 ≤ d) (hp : 8 ≤ p) (hI : n * 2 ^ t = M * d + rest) (hr : rest < d) (hb : blen M = b) (hlo : b = lo + p) :
    M / 2 ^ lo = encT n d p ∧ (lo : Int) - t = encU n d p ∧ decide (rest = 0 ∧ M % 2 ^ lo = 0) = encX n d p := by
  have hM : n * 2 ^ t / d = M := by rw [hI, Nat.mul_comm, Nat.mul_add_div hd, Nat.div_eq_of_lt hr, Nat.add_zero]
  have hR : n * 2 ^ t % d = rest := by rw [hI, Nat.mul_comm, Nat.mul_add_mod, Nat.mod_eq_of_lt hr]
  have hF := Fl.of_div (n := n) hd t lo
  have hX := Ex.of_div (n := n) hd t lo
  rw [hM] at hF hX
  rw [hR] at hX
  have hT := top_bits (m := M) (p := p) (by omega) (by omega)
  rw [show blen M - p = lo by omega] at hT
  have hE : Enc n d p (M / 2 ^ lo) ((lo : Int) - t) := ⟨hF, hT⟩
  obtain ⟨e1, e2⟩ := Enc.unique hd (by omega) hE (enc_spec (by omega) (by omega) (by omega))
  refine ⟨e1, e2, ?_⟩
  rw [e1, e2, ← encX_iff (by omega)] at hX
  rw [Bool.eq_iff_iff, decide_eq_true_iff]
  exact hX.symm
theorem low_bits (M i : Nat) : (M % 2 ^ (i + 1) = 0) ↔ (M % 2 ^ i = 0 ∧ bitI M (i : Int) = 0) := by
  have e : bitI M (i : Int) = M / 2 ^ i % 2 := by unfold bitI; rw [if_neg (by omega)]; rfl
  rw [e, Nat.pow_succ, Nat.mod_mul]
  have := Nat.two_pow_pos i
  constructor
  · intro h
    have h1 : M % 2 ^ i = 0 := by omega
    have h2 : 2 ^ i * (M / 2 ^ i % 2) = 0 := by omega
    rcases Nat.mul_eq_zero.1 h2 with h3 | h3
    · omega
    · exact ⟨h1, h3⟩
  · rintro ⟨h1, h2⟩
    rw [h1, h2]
    simp
theorem low_step {rest M i bb : Nat} (h : bitI M (i : Int) = bb) : decide (rest = 0 ∧ M % 2 ^ (i + 1) = 0) = (decide (rest = 0 ∧ M % 2 ^ i = 0) && ((bb : Int) == 0)) := by
  have h1 := low_bits M i
  rw [h] at h1
  rw [Bool.eq_iff_iff]
  simp only [decide_eq_true_iff, Bool.and_eq_true, beq_iff_eq, h1]
  constructor
  · rintro ⟨a, b, c⟩; exact ⟨⟨a, b⟩, by omega⟩
  · rintro ⟨⟨a, b⟩, c⟩; exact ⟨a, b, by omega⟩
end Go.Fl.Dy
namespace Go.Proofs.YtnogfceojmnjiaaGreatDoor
open Go.RowKit Go.Fl Go.Fl.Nm Go.Fl.Dy
/-- The two results' blocks are as they were made. -/
def TwoZ (w wr : World) : Prop := Blk wr w.heap.size 28 #[.bool false, .slice none 0 0, .int .i64 0] ∧ Blk wr (w.heap.size + 1) 28 #[.bool false, .slice none 0 0, .int .i64 0] ∧ Below w.heap.size w wr
theorem TwoZ.belowW {w a b : World} (h : TwoZ w a) (hb : Below a.heap.size a b) : TwoZ w b := ⟨h.1.belowW hb, h.2.1.belowW hb, h.2.2.trans (hb.mono h.2.2.size)⟩
theorem far3 (W : World) {g gx : Nat} (h : gx ≠ g) (a b c : Value) (j : Nat) {v : Value} (hv : W.cell? ⟨gx, j, none⟩ = some v) : (((W.setCell ⟨g, 0, none⟩ a).setCell ⟨g, 1, none⟩ b).setCell ⟨g, 2, none⟩ c).cell? ⟨gx, j, none⟩ = some v := by
  rw [World.cell?_setCell_far _ _ _ _ (Ne.symm h), World.cell?_setCell_far _ _ _ _ (Ne.symm h), World.cell?_setCell_far _ _ _ _ (Ne.symm h)]
  exact hv
theorem two_put {w w8 : World} (h : TwoZ w w8) (a b c a' b' c' : Value) : ∃ W : World, ((((((w8.setCell ⟨w.heap.size, 0, none⟩ a).setCell ⟨w.heap.size, 1, none⟩ b).setCell ⟨w.heap.size, 2, none⟩ c).setCell ⟨w.heap.size + 1, 0, none⟩ a').setCell ⟨w.heap.size + 1, 1, none⟩ b').setCell ⟨w.heap.size + 1, 2, none⟩ c') = W ∧
    Blk W w.heap.size 28 #[a, b, c] ∧ Blk W (w.heap.size + 1) 28 #[a', b', c'] ∧ Below w.heap.size w W ∧ (∀ {A : Option Addr} {n m : Nat} {l : List Nat}, Sl w8 A n m l → Sl W A n m l) := by
  obtain ⟨h1, h2, h3⟩ := h
  have g1 : Blk (putB w8 w.heap.size 28 #[a, b, c]) (w.heap.size + 1) 28 #[.bool false, .slice none 0 0, .int .i64 0] := h2.far (by omega) _
  refine ⟨_, rfl, ?_⟩
  rw [store3_put h1, store3_put g1]
  refine ⟨(h1.put _).far (by omega) _, g1.put _, (h3.trans (putB_below _ _ _ _ (Nat.le_refl _))).trans (putB_below _ _ _ _ (by omega)), fun hs => ?_⟩
  exact (hs.far h1 noU3 (putB_grown _ _ _ _)).far g1 noU3 (putB_grown _ _ _ _)
/-- Two dyadic numbers. -/
def DyR2 (x y : D) (w : World) (e : Ending) (w' : World) : Prop :=
  ∃ (A : Option Addr) (n c : Nat) (B : Option Addr) (m k : Nat), e = .returned (.tuple #[.agg #[.bool x.neg, .slice A n c, .int .i64 x.e], .agg #[.bool y.neg, .slice B m k, .int .i64 y.e]]) ∧ Hid (Sl w' A n c (limbs x.k)) ∧ Hid (Sl w' B m k (limbs y.k)) ∧ Hid (Below w.heap.size w w')
def EndA (w : World) (n d : Nat) (k : Nat) (mv rv iv : Value) (wr : World) : Prop :=
  ∃ (A : Option Addr) (nm c : Nat) (l : List Nat) (M rest i : Nat), mv = .slice A nm c ∧ rv = .int .u64 rest ∧ iv = .int .i64 ((i : Int) - 1) ∧ i = k ∧ i ≤ 64 ∧ rest < d ∧ nm ≤ 64 - i ∧ Hid (Sl wr A nm c l) ∧ Hid (val l = M) ∧ Hid (n / 2 ^ i = M * d + rest) ∧ Hid (TwoZ w wr)
def EndB (w : World) (n d p : Nat) (k : Nat) (mv rv ev : Value) (wr : World) : Prop :=
  ∃ (A : Option Addr) (nm c : Nat) (l : List Nat) (M rest t : Nat), mv = .slice A nm c ∧ rv = .int .u64 rest ∧ ev = .int .i64 (-(t : Int)) ∧ p + 40 - t = k ∧ t ≤ p + 32 ∧ rest < d ∧ nm ≤ 64 + t ∧ Hid (Sl wr A nm c l) ∧ Hid (val l = M) ∧ Hid (n * 2 ^ t = M * d + rest) ∧ Hid (TwoZ w wr)
def EndC (W0 : World) (M lo p : Nat) (k : Nat) (ov iv : Value) (wr : World) : Prop :=
  ∃ (q : Nat) (o : List Nat), iv = .int .i64 (32 * (q : Int)) ∧ k = p + 32 - 32 * q ∧ 32 * q < p + 32 ∧ Hid (o.length = q) ∧ Hid (ok o) ∧ Hid (wr.ownsRow W0.heap.size tU 1 ov q (U o)) ∧ Hid (val o = M / 2 ^ lo % 2 ^ (32 * q)) ∧ Hid (Below W0.heap.size W0 wr)
set_option maxHeartbeats 16000000 in
theorem ends_r (n d p : Nat) (w : World) (hn : 1 ≤ n) (hn2 : n ≤ 1073741824) (hd : 1 ≤ d) (hd2 : d ≤ 1073741824) (hp : 8 ≤ p) (hp2 : p ≤ 512) :
    Calls Tryz.prog 50 #[.int .u64 n, .int .u64 d, .int .i64 p] w (DyR2 (canon false (encT n d p) (encU n d p)) (canon false (endQ (encT n d p) (encX n d p) true) (encU n d p)) w) := by
  have hd0 : ((d : Int) == 0) = false := by rw [beq_eq_false_iff_ne]; omega
  go_enter Tryz.func50, Tryz.ntmps50
  go_wp2_with fail
  have HTZ := Lib.hid (show TwoZ w ((((w.alloc (.cells #[.bool false, .slice none 0 0, .int .i64 0] 28)).alloc (.cells #[.bool false, .slice none 0 0, .int .i64 0] 28)).alloc (.cells #[] 39))) from ⟨((Blk.new _ _ _).alloc _).alloc _, (Blk.new1 _ _ _ _).alloc _, below_a3 _ _ _ _⟩)
  have HSL := Lib.hid (show Sl ((((w.alloc (.cells #[.bool false, .slice none 0 0, .int .i64 0] 28)).alloc (.cells #[.bool false, .slice none 0 0, .int .i64 0] 28)).alloc (.cells #[] 39))) (some ⟨w.heap.size + 1 + 1, 0, none⟩) 0 0 [] from ⟨rfl, ok_nil, Nat.le_refl _, by unfold maxLen; omega, fun h => (by cases h), rfl, fun h => absurd h (by omega)⟩)
  go_loopg [8, 9, 11] 64 (EndA w n d)
  case atStart => exact ⟨_, 0, 0, [], 0, 0, 64, rfl, rfl, rfl, rfl, by omega, by omega, by omega, HSL, Lib.hid rfl, Lib.hid (by rw [Nat.zero_mul, Nat.add_zero]; exact Nat.div_eq_of_lt (Nat.lt_of_le_of_lt hn2 (by decide))), HTZ⟩
  case round =>
    clear HSL HTZ
    obtain ⟨A, nm, c, l, M, rest, i, rfl, rfl, rfl, rfl, hi, hr, hnm, HS, HM, HI, HTZ⟩ := hrel
    cases i with
    | zero =>
      rw [show ((0 : Nat) : Int) - 1 = -1 by omega]
      go_wp2_with fail
      go_loopg [8, 9, 10] (p + 40) (EndB w n d p)
      case atStart => exact ⟨A, nm, c, l, M, rest, 0, rfl, rfl, by simp, rfl, by omega, hr, by omega, HS, HM, Lib.hid (by have := HI.out; simpa using this), HTZ⟩
      case round =>
        clear HS HM HI HTZ
        obtain ⟨A, nm, c, l, M, rest, t, rfl, rfl, rfl, rfl, ht, hr, hnm, HS, HM, HI, HTZ⟩ := hrel
        obtain ⟨b, hb⟩ : ∃ b, blen M = b := ⟨_, rfl⟩
        have KB := Lib.hid (bits_r A nm c l wr HS.out (by omega))
        rw [HM.out, hb] at KB
        by_cases hbp : b < p
        · have dp : decide ((b : Int) < p) = true := decide_eq_true (by omega)
          have ht2 : t ≤ p + 31 := ends_bound hn hd2 hr HI.out (by omega)
          clear hb
          go_wp2_with fail
          refine KB.out.mono ?_
          rintro e w' ⟨rfl, rfl⟩
          go_wp2_with fail
          refine (shifted_r A nm c l wr HS.out (by omega)).mono ?_
          rw [HM.out]
          rintro e w3 ⟨A3, n3, c3, l3, rfl, hn3, HS3, HM3, HB3⟩
          have HTZ3 := Lib.hid (HTZ.out.belowW HB3.out)
          by_cases hrd : d ≤ 2 * rest
          · have dr : decide ((d : Int) ≤ 2 * (rest : Int)) = true := decide_eq_true (by omega)
            obtain ⟨r2, hr2⟩ : ∃ r2, 2 * rest - d = r2 := ⟨_, rfl⟩
            have hri : 2 * (rest : Int) - d = (r2 : Int) := by omega
            have HIN := Lib.hid (show n * 2 ^ (t + 1) = (2 * M + 1) * d + r2 by rw [Nat.pow_succ, ← Nat.mul_assoc, HI.out, Nat.add_mul (2 * M), Nat.one_mul, Nat.add_mul, Nat.mul_comm 2 M, Nat.mul_right_comm]; omega)
            go_wp2_with fail
            refine (set_r A3 n3 c3 l3 w3 HS3.out (by omega) (by rw [HM3.out]; omega)).mono ?_
            rw [HM3.out]
            rintro e w4 ⟨A4, n4, c4, l4, rfl, hn4, HS4, HM4, HB4⟩
            have HTZ4 := Lib.hid (HTZ3.out.belowW HB4.out)
            go_wp2_with fail
            go_roundg (p + 40 - (t + 1))
            case measure => omega
            case rel => exact ⟨A4, n4, c4, l4, 2 * M + 1, r2, t + 1, rfl, rfl, by go_num, rfl, by omega, by omega, by omega, HS4, HM4, HIN, HTZ4⟩
          · have dr : decide ((d : Int) ≤ 2 * (rest : Int)) = false := decide_eq_false (by omega)
            have HIN := Lib.hid (show n * 2 ^ (t + 1) = (2 * M) * d + 2 * rest by rw [Nat.pow_succ, ← Nat.mul_assoc, HI.out, Nat.add_mul, Nat.mul_comm 2 M, Nat.mul_right_comm]; omega)
            go_wp2_with fail
            go_roundg (p + 40 - (t + 1))
            case measure => omega
            case rel => exact ⟨A3, n3, c3, l3, 2 * M, 2 * rest, t + 1, rfl, by go_num, by go_num, rfl, by omega, by omega, by omega, HS3, HM3, HIN, HTZ3⟩
        · have dp : decide ((b : Int) < p) = false := decide_eq_false (by omega)
          have HBM := Lib.hid hb
          have hb2 : b ≤ 40000 := by
            rw [← hb, ← HM.out]
            have := val_lt HS.out.ok
            rw [HS.out.len, BB_pow, ← Nat.pow_mul] at this
            exact Nat.le_trans (blen_le this) (by omega)
          obtain ⟨lo, hlo⟩ : ∃ lo, b - p = lo := ⟨_, rfl⟩
          have hloi : (b : Int) - p = (lo : Int) := by omega
          have hlob : b = lo + p := by omega
          clear hb hlo
          go_wp2_with fail
          refine KB.out.mono ?_
          rintro e w' ⟨rfl, rfl⟩
          go_wp2_with fail
          refine KB.out.mono ?_
          rintro e w' ⟨rfl, rfl⟩
          go_wp2_with fail
          obtain ⟨W0, hW0⟩ : ∃ z9 : World, z9 = wr := ⟨_, rfl⟩
          rw [← hW0] at HS HTZ ⊢
          clear hW0 KB
          go_loopg [15, 16] (p + 32) (EndC W0 M lo p)
          case atStart => exact ⟨0, [], rfl, by omega, by omega, Lib.hid rfl, Lib.hid ok_nil, Lib.hid ⟨rfl, .inl ⟨rfl, rfl⟩⟩, Lib.hid (by simp [val_nil, Nat.mod_one]), Lib.hid (Below.refl _ _)⟩
          case round =>
            obtain ⟨q, o, rfl, hk, hq, HLEN, HOK, HOW, HVO, HBL⟩ := hrel
            by_cases hst : 32 * q < p
            · have dst : decide (32 * (q : Int) < p) = true := decide_eq_true (by omega)
              have FA := Lib.hid (HS.out.below HBL.out)
              go_wp2_with fail
              go_loop [17, 18] (fun x v => ∃ kk : Nat, v = .int .i64 kk ∧ kk ≤ 32 ∧ 32 * q + kk ≤ p ∧ x = .int .u32 ((M / 2 ^ (lo + 32 * q) % 2 ^ kk : Nat) : Int)) (fun _ v => 32 - (intOf v).toNat)
              case atStart => exact ⟨0, rfl, by omega, by omega, by rw [Nat.pow_zero, Nat.mod_one]; rfl⟩
              case round =>
                obtain ⟨kk, rfl, hkk, hkp, rfl⟩ := hrel
                by_cases hgo : kk < 32 ∧ 32 * q + kk < p
                · obtain ⟨hk32, hkp2⟩ := hgo
                  have dk : decide ((kk : Int) < 32) = true := decide_eq_true (by omega)
                  have dk2 : decide (32 * (q : Int) + kk < p) = true := decide_eq_true (by omega)
                  have KB := Lib.hid (bit_r A nm c ((lo : Int) + 32 * q + kk) l wr FA.out (by omega) (by omega) (by omega))
                  rw [HM.out] at KB
                  have HW := Lib.hid (word_next M (lo + 32 * q) kk)
                  rw [show ((lo + 32 * q : Nat) : Int) + kk = (lo : Int) + 32 * q + kk by omega] at HW
                  obtain ⟨bb, hbb⟩ : ∃ bb, bitI M ((lo : Int) + 32 * q + kk) = bb := ⟨_, rfl⟩
                  have hb1 : bb ≤ 1 := by rw [← hbb]; exact bitI_le _ _
                  rw [hbb] at KB HW
                  obtain ⟨x, hx⟩ : ∃ x, M / 2 ^ (lo + 32 * q) % 2 ^ kk = x := ⟨_, rfl⟩
                  have hxk : x < 2 ^ kk := by rw [← hx]; exact Nat.mod_lt _ (Nat.two_pow_pos _)
                  have hor := word_or hxk hk32 hb1
                  rw [hx] at HW ⊢
                  clear hbb hx
                  go_wp2_with fail
                  refine KB.out.mono ?_
                  rintro e w' ⟨rfl, rfl⟩
                  go_wp2_with fail
                  refine ⟨⟨kk + 1, by go_num, by omega, by omega, ?_⟩, ?_⟩
                  · rw [HW.out, ← hor, shl_small hk32 hb1]
                  · simp [intOf]; omega
                · have HWE := Lib.hid (word_end M lo q o HLEN.out HVO.out)
                  have HMX := Lib.hid (show M / 2 ^ (lo + 32 * q) % 2 ^ kk = M / 2 ^ (lo + 32 * q) % 2 ^ 32 by
                    by_cases h32 : kk = 32
                    · rw [h32]
                    · have hpk : p = 32 * q + kk := by omega
                      have hlt : M / 2 ^ (lo + 32 * q) < 2 ^ kk := by
                        have h1 := blen_lt (Nat.le_of_eq HBM.out)
                        rw [Nat.div_lt_iff_lt_mul (Nat.two_pow_pos _), ← Nat.pow_add, show kk + (lo + 32 * q) = b by omega]
                        exact h1
                      rw [Nat.mod_eq_of_lt hlt, Nat.mod_eq_of_lt (Nat.lt_of_lt_of_le hlt (Nat.pow_le_pow_right (by decide) hkk))])
                  rw [HMX.out]
                  obtain ⟨X, hX⟩ : ∃ X, M / 2 ^ (lo + 32 * q) % 2 ^ 32 = X := ⟨_, rfl⟩
                  have hXb : X < 4294967296 := by rw [← hX]; exact Nat.mod_lt _ (by decide)
                  rw [hX] at HWE ⊢
                  clear hX HMX
                  have hdk : decide ((kk : Int) < 32) = false ∨ (decide ((kk : Int) < 32) = true ∧ decide (32 * (q : Int) + kk < p) = false) := by
                    by_cases h32 : kk < 32
                    · exact .inr ⟨decide_eq_true (by omega), decide_eq_false (by omega)⟩
                    · exact .inl (decide_eq_false (by omega))
                  obtain ⟨i0, ti, tz0, tz1, tz2⟩ := info_parts Tryz.infoU32
                  have hbs := HBL.out.size
                  have HOK2 := Lib.hid (show ok (o ++ [X]) from ok_append.2 ⟨HOK.out, ok_cons.2 ⟨by unfold BB; omega, ok_nil⟩⟩)
                  have HLEN2 := Lib.hid (show (o ++ [X]).length = q + 1 by rw [List.length_append, HLEN.out]; rfl)
                  clear hgo
                  rcases hdk with d1 | ⟨d1, d2⟩
                  all_goals
                    go_wp2_with (at_builtin; refine wpList_append_lies _ rfl _ _ _ rfl W0.heap.size 39 i0 _ 1 4 Tryz.underlying26 ti tz0 tz1 tz2 rfl (by omega) u15 q (U o) rfl (by exact HOW.out.alloc _) ⟨wr.heap.size, 0, none⟩ 1 1 [.int .u32 (X : Int)] rfl rfl (by exact World.news_of_block (cs := #[.int .u32 (X : Int)]) (t := 39) (fr := (0, 0)) (heap_alloc_new wr _)) (by simp [Value.oneCell']) (by omega) (by unfold maxLen; omega) (by omega) (by simp; omega) (wr.heap.size + 1) (by simp) ?_)
                    intro g cap w3 hown hgrow hat hlt2
                    have HO3 := Lib.hid (show w3.ownsRow W0.heap.size tU 1 (.slice (some ⟨g, 0, none⟩) (q + 1) cap) (q + 1) (U (o ++ [X])) by rw [U_append]; exact hown)
                    have HL3 := Lib.hid (show Below W0.heap.size W0 w3 from (HBL.out.alloc (by omega) _).grown hgrow (by simp; omega) (fun k hk => (HOW.out.lt k hk).1))
                    clear hown hgrow hat hlt2 ti tz0 tz1 tz2
                    go_wp2_with fail
                    go_roundg (p + 32 - 32 * (q + 1))
                    case measure => omega
                    case rel => exact ⟨q + 1, o ++ [X], by go_num, rfl, by omega, HLEN2, HOK2, HO3, HWE, HL3⟩
            · have dst : decide (32 * (q : Int) < p) = false := decide_eq_false (by omega)
              obtain ⟨A', c', hu, hnw⟩ := Nw.of_own HOW.out HOK.out
              subst hu
              have HN := Lib.hid hnw.sl
              clear hnw
              obtain ⟨bq, oq, xq, hA', _⟩ := HN.out.at_ (i := 0) (by omega)
              subst hA'
              have FA := Lib.hid (HS.out.below HBL.out)
              have HTZ2 := Lib.hid (HTZ.out.belowW HBL.out)
              have HFIN := Lib.hid (ends_fin hn hd hp HI.out hr HBM.out hlob)
              have HVO2 := Lib.hid (show val o = encT n d p by
                rw [HVO.out, ← HFIN.out.1]
                refine Nat.mod_eq_of_lt (Nat.lt_of_lt_of_le (m := 2 ^ p) ?_ (Nat.pow_le_pow_right (by decide) (by omega)))
                rw [Nat.div_lt_iff_lt_mul (Nat.two_pow_pos _), ← Nat.pow_add, show p + lo = b by omega]
                exact blen_lt (Nat.le_of_eq HBM.out))
              have hq20 : q ≤ 20 := by omega
              have hq0 : 0 < q := by omega
              have HEB := Lib.hid (show ((rest : Int) == 0) = decide (rest = 0 ∧ M % 2 ^ 0 = 0) by
                rw [Bool.eq_iff_iff]
                simp only [decide_eq_true_iff, beq_iff_eq, Nat.pow_zero, Nat.mod_one, and_true]
                omega)
              go_wp2_with fail
              go_loop [14, 19] (fun x v => ∃ (i : Nat) (xb : Bool), v = .int .i64 i ∧ i ≤ lo ∧ x = .bool xb ∧ Hid (xb = decide (rest = 0 ∧ M % 2 ^ i = 0))) (fun _ v => lo - (intOf v).toNat)
              case atStart => exact ⟨0, (rest : Int) == 0, rfl, by omega, rfl, HEB⟩
              case round =>
                obtain ⟨i, xb, rfl, hi2, rfl, HXB⟩ := hrel
                by_cases hil : i < lo
                · have di : decide ((i : Int) < lo) = true := decide_eq_true (by omega)
                  have KB := Lib.hid (bit_r A nm c (i : Int) l wr FA.out (by omega) (by omega) (by omega))
                  rw [HM.out] at KB
                  obtain ⟨bb, hbb⟩ : ∃ bb, bitI M (i : Int) = bb := ⟨_, rfl⟩
                  have HLS := Lib.hid (low_step (rest := rest) hbb)
                  rw [hbb] at KB
                  clear hbb
                  cases xb with
                  | false =>
                    go_wp2_with fail
                    refine ⟨⟨i + 1, false, by go_num, by omega, rfl, Lib.hid (by rw [HLS.out, ← HXB.out]; rfl)⟩, ?_⟩
                    simp [intOf]; omega
                  | true =>
                    go_wp2_with fail
                    refine KB.out.mono ?_
                    rintro e w' ⟨rfl, rfl⟩
                    go_wp2_with fail
                    refine ⟨⟨i + 1, ((bb : Int) == 0), by go_num, by omega, rfl, Lib.hid (by rw [HLS.out, ← HXB.out]; rfl)⟩, ?_⟩
                    simp [intOf]; omega
                · have di : decide ((i : Int) < lo) = false := decide_eq_false (by omega)
                  obtain rfl : i = lo := by omega
                  have HXE := Lib.hid (show xb = encX n d p by rw [HXB.out]; exact HFIN.out.2.2)
                  have hei : (-(t : Int)) + (i : Int) = (i : Int) - t := by omega
                  clear hil
                  rw [HFIN.out.2.1] at hei
                  obtain ⟨U, hU⟩ : ∃ U, encU n d p = U := ⟨_, rfl⟩
                  rw [hU] at hei
                  go_wp2_with fail
                  refine (made_r false (some ⟨bq, oq, none⟩) q c' o U wr HN.out (by omega) (by omega) (by omega)).mono ?_
                  rw [HVO2.out]
                  rintro e w5 ⟨A5, n5, c5, rfl, HS5, HB5⟩
                  obtain ⟨x, hx⟩ : ∃ x, canon false (encT n d p) U = x := ⟨_, rfl⟩
                  rw [hx] at HS5 ⊢
                  have HX := Lib.hid hx
                  obtain ⟨w6, hw⟩ : ∃ z9 : World, z9 = w5.alloc (.cells #[.bool x.neg, .slice A5 n5 c5, .int .i64 x.e] 28) := ⟨_, rfl⟩
                  have HB6 := Lib.hid (show Below w5.heap.size w5 w6 by rw [hw]; exact below_a1 _ _)
                  have F6x := Lib.hid (show Blk w6 w5.heap.size 28 #[.bool x.neg, .slice A5 n5 c5, .int .i64 x.e] by rw [hw]; exact Blk.new _ _ _)
                  have F6s := Lib.hid (HS5.out.belowW HB6.out)
                  have F6o := Lib.hid ((HN.out.belowW HB5.out).belowW HB6.out)
                  have F6z := Lib.hid ((HTZ2.out.belowW HB5.out).belowW HB6.out)
                  obtain ⟨gx, hgx⟩ : ∃ gx, w5.heap.size = gx := ⟨_, rfl⟩
                  rw [hgx] at F6x
                  have hgn0 : gx ≠ w.heap.size := by rw [← hgx]; have := ((HTZ2.out.belowW HB5.out).1).lt; omega
                  have hgn1 : gx ≠ w.heap.size + 1 := by rw [← hgx]; have := ((HTZ2.out.belowW HB5.out).2.1).lt; omega
                  have HX2 := Lib.hid (show canon false (encT n d p) (encU n d p) = x by rw [hU]; exact hx)
                  cases xb with
                  | true =>
                    have HX3 := Lib.hid (show canon false (endQ (encT n d p) (encX n d p) true) (encU n d p) = x by rw [← HXE.out, hU]; exact hx)
                    clear hx hU
                    go_upto_region 38 with (fail)
                    rw [← hw]
                    clear hw hgx HB5 HB6 HS5 HEB HXB HVO HN FA HTZ2 HS HTZ
                    have e0 : (w6).cell? ⟨gx, 0, none⟩ = some (.bool x.neg) := F6x.out.cell 0
                    have e1 : (w6).cell? ⟨gx, 1, none⟩ = some (.slice A5 n5 c5) := F6x.out.cell 1
                    have e2 : (w6).cell? ⟨gx, 2, none⟩ = some (.int .i64 x.e) := F6x.out.cell 2
                    have z00 : (w6).cell? ⟨w.heap.size, 0, none⟩ = some (.bool false) := F6z.out.1.cell 0
                    have y00 : (w6).frozen? ⟨w.heap.size, 0, none⟩ = false := F6z.out.1.frozen 0
                    have z01 : (w6).cell? ⟨w.heap.size, 1, none⟩ = some (.slice none 0 0) := F6z.out.1.cell 1
                    have y01 : (w6).frozen? ⟨w.heap.size, 1, none⟩ = false := F6z.out.1.frozen 1
                    have z02 : (w6).cell? ⟨w.heap.size, 2, none⟩ = some (.int .i64 0) := F6z.out.1.cell 2
                    have y02 : (w6).frozen? ⟨w.heap.size, 2, none⟩ = false := F6z.out.1.frozen 2
                    have z10 : (w6).cell? ⟨w.heap.size + 1, 0, none⟩ = some (.bool false) := F6z.out.2.1.cell 0
                    have y10 : (w6).frozen? ⟨w.heap.size + 1, 0, none⟩ = false := F6z.out.2.1.frozen 0
                    have z11 : (w6).cell? ⟨w.heap.size + 1, 1, none⟩ = some (.slice none 0 0) := F6z.out.2.1.cell 1
                    have y11 : (w6).frozen? ⟨w.heap.size + 1, 1, none⟩ = false := F6z.out.2.1.frozen 1
                    have z12 : (w6).cell? ⟨w.heap.size + 1, 2, none⟩ = some (.int .i64 0) := F6z.out.2.1.cell 2
                    have y12 : (w6).frozen? ⟨w.heap.size + 1, 2, none⟩ = false := F6z.out.2.1.frozen 2
                    have k0 := far3 w6 hgn0 (.bool x.neg) (.slice A5 n5 c5) (.int .i64 x.e) 0 e0
                    have k1 := far3 w6 hgn0 (.bool x.neg) (.slice A5 n5 c5) (.int .i64 x.e) 1 e1
                    have k2 := far3 w6 hgn0 (.bool x.neg) (.slice A5 n5 c5) (.int .i64 x.e) 2 e2
                    have l0 := far3 _ hgn1 (.bool x.neg) (.slice A5 n5 c5) (.int .i64 x.e) 0 k0
                    have l1 := far3 _ hgn1 (.bool x.neg) (.slice A5 n5 c5) (.int .i64 x.e) 1 k1
                    have l2 := far3 _ hgn1 (.bool x.neg) (.slice A5 n5 c5) (.int .i64 x.e) 2 k2
                    clear hgn0 hgn1
                    go_region
                    all_goals go_wp2_with fail
                    all_goals
                      obtain ⟨w9, hw9, G0, G1, HL9, HSL9⟩ := two_put F6z.out (.bool x.neg) (.slice A5 n5 c5) (.int .i64 x.e) (.bool x.neg) (.slice A5 n5 c5) (.int .i64 x.e)
                      rw [hw9]
                      clear hw9
                      have HR1 := Lib.hid (HSL9 F6s.out)
                      have HR2 := Lib.hid (HSL9 F6s.out)
                      have HL99 := Lib.hid HL9
                      have pr0 : w9.cell? ⟨w.heap.size, 0, none⟩ = some (.bool x.neg) := G0.cell 0
                      have pr1 : w9.cell? ⟨w.heap.size, 1, none⟩ = some (.slice A5 n5 c5) := G0.cell 1
                      have pr2 : w9.cell? ⟨w.heap.size, 2, none⟩ = some (.int .i64 x.e) := G0.cell 2
                      have pr3 : w9.cell? ⟨w.heap.size + 1, 0, none⟩ = some (.bool x.neg) := G1.cell 0
                      have pr4 : w9.cell? ⟨w.heap.size + 1, 1, none⟩ = some (.slice A5 n5 c5) := G1.cell 1
                      have pr5 : w9.cell? ⟨w.heap.size + 1, 2, none⟩ = some (.int .i64 x.e) := G1.cell 2
                      clear G0 G1 HL9 HSL9
                      refine bodyPost_ret (v := .tuple #[.agg #[.bool x.neg, .slice A5 n5 c5, .int .i64 x.e], .agg #[(.bool x.neg), (.slice A5 n5 c5), (.int .i64 x.e)]]) (by simp [results, Tryz.results50, go_sem, pr0, pr1, pr2, pr3, pr4, pr5]) rfl ?_
                      rw [HX2.out, HX3.out]
                      exact ⟨_, _, _, _, _, _, rfl, Lib.hid HR1.out, Lib.hid HR2.out, Lib.hid (below_drewN HL99.out 1)⟩
                  | false =>
                    obtain ⟨y, hy⟩ : ∃ y, canon false (encT n d p + 1) U = y := ⟨_, rfl⟩
                    have HY := Lib.hid hy
                    have HX3 := Lib.hid (show canon false (endQ (encT n d p) (encX n d p) true) (encU n d p) = y by rw [← HXE.out, hU]; exact hy)
                    have hew : IntKind.i64.wrap U = U := IntWalk.i64_in _ (by omega)
                    have hu1 : -100000 ≤ U := by omega
                    have hu2 : U ≤ 100000 := by omega
                    have hq1000 : q ≤ 1000 := by omega
                    clear hx hU hy
                    go_upto_region 39 with (fail)
                    rw [← hw]
                    clear hw hgx HB5 HB6 HS5 HEB HXB HVO HN FA HTZ2 HS HTZ
                    have F7z := Lib.hid (show TwoZ w w6.drew from F6z.out.belowW (below_drewN (Below.refl _ _) 1))
                    have F7s := Lib.hid (show Sl w6.drew A5 n5 c5 (limbs x.k) from F6s.out)
                    have F7o := Lib.hid (show Sl w6.drew (some ⟨bq, oq, none⟩) q c' o from F6o.out)
                    have F7x := Lib.hid (show Blk w6.drew gx 28 #[.bool x.neg, .slice A5 n5 c5, .int .i64 x.e] from F6x.out)
                    have e0 : (w6.drew).cell? ⟨gx, 0, none⟩ = some (.bool x.neg) := F6x.out.cell 0
                    have e1 : (w6.drew).cell? ⟨gx, 1, none⟩ = some (.slice A5 n5 c5) := F6x.out.cell 1
                    have e2 : (w6.drew).cell? ⟨gx, 2, none⟩ = some (.int .i64 x.e) := F6x.out.cell 2
                    go_region_held3 (fun w' => w'.cell? ⟨gx, 0, none⟩ = some (.bool x.neg) ∧ w'.cell? ⟨gx, 1, none⟩ = some (.slice A5 n5 c5) ∧ w'.cell? ⟨gx, 2, none⟩ = some (.int .i64 x.e)) ((with_reducible refine ⟨?_, ?_, ?_⟩) <;> (with_reducible assumption)) (first
                      | (go_at_call 96
                         (with_reducible refine (next_r bq oq q c' o _ F7o.out hq1000 hq0).mono ?_)
                         rw [HVO2.out]
                         rintro e w7 ⟨A7, n7, c7, l7, rfl, hn7, HS7, HM7, HB7⟩
                         have F8z := Lib.hid (F7z.out.belowW HB7.out)
                         have F8s := Lib.hid (F7s.out.belowW HB7.out)
                         have F8x := Lib.hid (F7x.out.belowW HB7.out)
                         have hn71 : n7 ≤ 1000 := by omega
                         have i0 : (w7).cell? ⟨gx, 0, none⟩ = some (.bool x.neg) := F8x.out.cell 0
                         have i1 : (w7).cell? ⟨gx, 1, none⟩ = some (.slice A5 n5 c5) := F8x.out.cell 1
                         have i2 : (w7).cell? ⟨gx, 2, none⟩ = some (.int .i64 x.e) := F8x.out.cell 2)
                      | (go_at_call 95
                         (with_reducible refine (made_r false A7 n7 c7 l7 U _ HS7.out hn71 hu1 hu2).mono ?_)
                         rw [HM7.out, HY.out]
                         rintro e w8 ⟨A8, n8, c8, rfl, HS8, HB8⟩
                         have F9z := Lib.hid (F8z.out.belowW HB8.out)
                         have F9s := Lib.hid (F8s.out.belowW HB8.out)
                         have F9x := Lib.hid (F8x.out.belowW HB8.out)
                         have j0 : (w8).cell? ⟨gx, 0, none⟩ = some (.bool x.neg) := F9x.out.cell 0
                         have j1 : (w8).cell? ⟨gx, 1, none⟩ = some (.slice A5 n5 c5) := F9x.out.cell 1
                         have j2 : (w8).cell? ⟨gx, 2, none⟩ = some (.int .i64 x.e) := F9x.out.cell 2
                         have z00 : (w8).cell? ⟨w.heap.size, 0, none⟩ = some (.bool false) := F9z.out.1.cell 0
                         have y00 : (w8).frozen? ⟨w.heap.size, 0, none⟩ = false := F9z.out.1.frozen 0
                         have z01 : (w8).cell? ⟨w.heap.size, 1, none⟩ = some (.slice none 0 0) := F9z.out.1.cell 1
                         have y01 : (w8).frozen? ⟨w.heap.size, 1, none⟩ = false := F9z.out.1.frozen 1
                         have z02 : (w8).cell? ⟨w.heap.size, 2, none⟩ = some (.int .i64 0) := F9z.out.1.cell 2
                         have y02 : (w8).frozen? ⟨w.heap.size, 2, none⟩ = false := F9z.out.1.frozen 2
                         have z10 : (w8).cell? ⟨w.heap.size + 1, 0, none⟩ = some (.bool false) := F9z.out.2.1.cell 0
                         have y10 : (w8).frozen? ⟨w.heap.size + 1, 0, none⟩ = false := F9z.out.2.1.frozen 0
                         have z11 : (w8).cell? ⟨w.heap.size + 1, 1, none⟩ = some (.slice none 0 0) := F9z.out.2.1.cell 1
                         have y11 : (w8).frozen? ⟨w.heap.size + 1, 1, none⟩ = false := F9z.out.2.1.frozen 1
                         have z12 : (w8).cell? ⟨w.heap.size + 1, 2, none⟩ = some (.int .i64 0) := F9z.out.2.1.cell 2
                         have y12 : (w8).frozen? ⟨w.heap.size + 1, 2, none⟩ = false := F9z.out.2.1.frozen 2
                         have k0 := far3 (w8) hgn0 (.bool x.neg) (.slice A5 n5 c5) (.int .i64 x.e) 0 j0
                         have k1 := far3 (w8) hgn0 (.bool x.neg) (.slice A5 n5 c5) (.int .i64 x.e) 1 j1
                         have k2 := far3 (w8) hgn0 (.bool x.neg) (.slice A5 n5 c5) (.int .i64 x.e) 2 j2
                         have l0 := far3 _ hgn1 (.bool y.neg) (.slice A8 n8 c8) (.int .i64 y.e) 0 k0
                         have l1 := far3 _ hgn1 (.bool y.neg) (.slice A8 n8 c8) (.int .i64 y.e) 1 k1
                         have l2 := far3 _ hgn1 (.bool y.neg) (.slice A8 n8 c8) (.int .i64 y.e) 2 k2
                         clear hgn0 hgn1))
                    all_goals go_wp2_with fail
                    obtain ⟨w9, hw9, G0, G1, HL9, HSL9⟩ := two_put F9z.out (.bool x.neg) (.slice A5 n5 c5) (.int .i64 x.e) (.bool y.neg) (.slice A8 n8 c8) (.int .i64 y.e)
                    rw [hw9]
                    clear hw9
                    have HR1 := Lib.hid (HSL9 F9s.out)
                    have HR2 := Lib.hid (HSL9 HS8.out)
                    have HL99 := Lib.hid HL9
                    have pr0 : w9.cell? ⟨w.heap.size, 0, none⟩ = some (.bool x.neg) := G0.cell 0
                    have pr1 : w9.cell? ⟨w.heap.size, 1, none⟩ = some (.slice A5 n5 c5) := G0.cell 1
                    have pr2 : w9.cell? ⟨w.heap.size, 2, none⟩ = some (.int .i64 x.e) := G0.cell 2
                    have pr3 : w9.cell? ⟨w.heap.size + 1, 0, none⟩ = some (.bool y.neg) := G1.cell 0
                    have pr4 : w9.cell? ⟨w.heap.size + 1, 1, none⟩ = some (.slice A8 n8 c8) := G1.cell 1
                    have pr5 : w9.cell? ⟨w.heap.size + 1, 2, none⟩ = some (.int .i64 y.e) := G1.cell 2
                    clear G0 G1 HL9 HSL9
                    refine bodyPost_ret (v := .tuple #[.agg #[.bool x.neg, .slice A5 n5 c5, .int .i64 x.e], .agg #[(.bool y.neg), (.slice A8 n8 c8), (.int .i64 y.e)]]) (by simp [results, Tryz.results50, go_sem, pr0, pr1, pr2, pr3, pr4, pr5]) rfl ?_
                    rw [HX2.out, HX3.out]
                    exact ⟨_, _, _, _, _, _, rfl, HR1, HR2, HL99⟩
    | succ i =>
      rw [show ((i + 1 : Nat) : Int) - 1 = i by omega]
      have hand := and1_64 n i (by omega)
      have HST := Lib.hid (long_step (i := i) hd hr HI.out)
      obtain ⟨bt, hbt⟩ : ∃ b, n / 2 ^ i % 2 = b := ⟨_, rfl⟩
      have hb1 : bt ≤ 1 := by generalize n / 2 ^ i = t at *; omega
      rw [hbt] at hand HST
      obtain ⟨R, hR⟩ : ∃ R, 2 * rest + bt = R := ⟨_, rfl⟩
      rw [hR] at HST
      have hRi : 2 * (rest : Int) + bt = (R : Int) := by omega
      have hRb : R ≤ 2147483648 := by omega
      clear hbt hR
      obtain ⟨q, hq⟩ : ∃ q, R / d = q := ⟨_, rfl⟩
      obtain ⟨r2, hr2⟩ : ∃ r2, R % d = r2 := ⟨_, rfl⟩
      have hr2d : r2 < d := by rw [← hr2]; exact Nat.mod_lt _ hd
      have hqi : (R : Int) / (d : Int) = (q : Int) := by rw [← Int.natCast_ediv, hq]
      have hqt : (R : Int).tdiv (d : Int) = (q : Int) := by rw [Int.tdiv_eq_ediv_of_nonneg (by omega)]; exact hqi
      have hri : (R : Int) % (d : Int) = (r2 : Int) := by rw [← Int.natCast_emod, hr2]
      have hrt : (R : Int).tmod (d : Int) = (r2 : Int) := by rw [Int.tmod_eq_emod_of_nonneg (by omega)]; exact hri
      rw [hq, hr2] at HST
      clear hq hr2
      obtain ⟨i0, ti, tz0, tz1, tz2⟩ := info_parts Tryz.infoU32
      have HOWN := Lib.hid (show (wr.alloc (.cells #[] tU)).ownsRow wr.heap.size tU 1 (.slice (some ⟨wr.heap.size, 0, none⟩) 0 0) 0 [] from ⟨rfl, .inr ⟨wr.heap.size, 0, #[], rfl, Nat.le_refl _, Blk.new _ _ _, Nat.le_refl _, by unfold maxLen; omega, rfl, rfl⟩⟩)
      have HL0 := Lib.hid ((Below.refl wr.heap.size wr).alloc (Nat.le_refl _) (.cells #[] tU))
      have HRD := Lib.hid (HS.out.rd.alloc (.cells #[] tU))
      cases A with
      | none =>
        obtain rfl : c = 0 := HS.out.nil rfl
        obtain rfl : nm = 0 := by have := HS.out.cap; omega
        obtain rfl : l = [] := List.eq_nil_of_length_eq_zero HS.out.len
        go_wp2_with (at_builtin; refine wpList_append_own_none rfl _ _ _ rfl wr.heap.size 39 i0 1 Tryz.underlying26 ti (.slice (some ⟨wr.heap.size, 0, none⟩) 0 0) 0 [] rfl (by exact HOWN.out) rfl ?_)
        clear ti tz0 tz1 tz2
        obtain ⟨w2, hw2⟩ : ∃ z9 : World, z9 = wr.alloc (.cells #[] tU) := ⟨_, rfl⟩
        have HB2 := Lib.hid (show Below wr.heap.size wr w2 by rw [hw2]; exact HL0.out)
        obtain ⟨A2, hA2⟩ : ∃ A2 : Option Addr, A2 = some ⟨wr.heap.size, 0, none⟩ := ⟨_, rfl⟩
        have HS2 := Lib.hid (show Sl w2 A2 0 0 [] by rw [hA2]; exact ⟨rfl, ok_nil, Nat.le_refl _, by unfold maxLen; omega, fun h => (by cases h), rfl, fun h => absurd h (by omega)⟩)
        have HTZ2 := Lib.hid (HTZ.out.belowW HB2.out)
        rw [← hw2, ← hA2]
        clear hw2 hA2 HOWN HL0 HRD HB2
        have hcm := HS2.out.max
        go_wp2_with fail
        refine (shifted_r A2 0 0 [] w2 HS2.out (by omega)).mono ?_
        rw [HM.out]
        rintro e w3 ⟨A3, n3, c3, l3, rfl, hn3, HS3, HM3, HB3⟩
        have HTZ3 := Lib.hid (HTZ2.out.belowW HB3.out)
        by_cases hq1 : q = 1
        · subst hq1
          have HIN := Lib.hid (show n / 2 ^ i = (2 * M + 1) * d + r2 from HST.out.2)
          go_wp2_with fail
          refine (set_r A3 n3 c3 l3 w3 HS3.out (by omega) (by rw [HM3.out]; omega)).mono ?_
          rw [HM3.out]
          rintro e w4 ⟨A4, n4, c4, l4, rfl, hn4, HS4, HM4, HB4⟩
          have HTZ4 := Lib.hid (HTZ3.out.belowW HB4.out)
          go_wp2_with fail
          go_roundg i
          case measure => omega
          case rel => exact ⟨A4, n4, c4, l4, 2 * M + 1, r2, i, rfl, rfl, by go_num, rfl, by omega, hr2d, by omega, HS4, HM4, HIN, HTZ4⟩
        · obtain rfl : q = 0 := by have := HST.out.1; omega
          have HIN := Lib.hid (show n / 2 ^ i = (2 * M) * d + r2 from HST.out.2)
          clear hq1
          go_wp2_with fail
          go_roundg i
          case measure => omega
          case rel => exact ⟨A3, n3, c3, l3, 2 * M, r2, i, rfl, rfl, by go_num, rfl, by omega, hr2d, by omega, HS3, HM3, HIN, HTZ3⟩
      | some ad =>
        go_wp2_with (at_builtin; refine wpList_append_rd _ rfl _ _ _ rfl wr.heap.size 39 i0 _ 1 4 Tryz.underlying26 ti tz0 tz1 tz2 rfl (by omega) (.slice (some ⟨wr.heap.size, 0, none⟩) 0 0) 0 [] rfl (by exact HOWN.out) (some ad) nm c (by simp) (U l) rfl (by exact HRD.out) (U_one _) (by unfold maxLen; omega) (by omega) (by simp) ?_)
        intro v' w2 hown2 hgrow
        have HO2 := Lib.hid (show w2.ownsRow wr.heap.size tU 1 v' nm (U l) from hown2)
        have HB2 := Lib.hid (HL0.out.trans (below_of_grown hgrow (by
          intro g hg
          have : wr.heap.size = g := by simpa [Value.ownBlock] using hg
          omega) (by simp)))
        clear hown2 hgrow ti tz0 tz1 tz2
        obtain ⟨A2, c2, rfl, hnw⟩ := Nw.of_own HO2.out HS.out.ok
        have HS2 := Lib.hid hnw.sl
        have HTZ2 := Lib.hid (HTZ.out.belowW HB2.out)
        clear hnw
        have hcm := HS2.out.max
        go_wp2_with fail
        refine (shifted_r A2 nm c2 l w2 HS2.out (by omega)).mono ?_
        rw [HM.out]
        rintro e w3 ⟨A3, n3, c3, l3, rfl, hn3, HS3, HM3, HB3⟩
        have HTZ3 := Lib.hid (HTZ2.out.belowW HB3.out)
        by_cases hq1 : q = 1
        · subst hq1
          have HIN := Lib.hid (show n / 2 ^ i = (2 * M + 1) * d + r2 from HST.out.2)
          go_wp2_with fail
          refine (set_r A3 n3 c3 l3 w3 HS3.out (by omega) (by rw [HM3.out]; omega)).mono ?_
          rw [HM3.out]
          rintro e w4 ⟨A4, n4, c4, l4, rfl, hn4, HS4, HM4, HB4⟩
          have HTZ4 := Lib.hid (HTZ3.out.belowW HB4.out)
          go_wp2_with fail
          go_roundg i
          case measure => omega
          case rel => exact ⟨A4, n4, c4, l4, 2 * M + 1, r2, i, rfl, rfl, by go_num, rfl, by omega, hr2d, by omega, HS4, HM4, HIN, HTZ4⟩
        · obtain rfl : q = 0 := by have := HST.out.1; omega
          have HIN := Lib.hid (show n / 2 ^ i = (2 * M) * d + r2 from HST.out.2)
          clear hq1
          go_wp2_with fail
          go_roundg i
          case measure => omega
          case rel => exact ⟨A3, n3, c3, l3, 2 * M, r2, i, rfl, rfl, by go_num, rfl, by omega, hr2d, by omega, HS3, HM3, HIN, HTZ3⟩
end Go.Proofs.YtnogfceojmnjiaaGreatDoor
