/-
  The walks of round.cut, signed.
-/
import Derived.Test.YtffdkakogeofmaaGreatDoorRoA
set_option linter.unusedVariables false
namespace Go.Fl.Dy
open Go.Fl.Nm
theorem noUX {A : Option Addr} {n c : Nat} {e : Int} {a : Bool} : NoU #[.slice A n c, .int .i64 e, .bool a] := by
  intro i x h
  match i with
  | 0 => simp at h
  | 1 => simp at h
  | 2 => simp at h
  | i + 3 => simp at h
theorem cutU_low {m p : Nat} {e : Int} (hp : p ≤ 512) : e + blen m - p ≤ cutU m e p ∧ -16384 ≤ cutU m e p := by unfold cutU; omega
/-- The multiple ahead of rounding up has at most p bits. -/
theorem cut_bitsL {m p : Nat} {e : Int} (hp : p ≤ 512) (h : cutU m e p ≤ e) : blen (2 ^ (e - cutU m e p).toNat * m) ≤ p := by
  have h1 := (cutU_low (m := m) (e := e) hp).1
  by_cases h0 : m = 0
  · subst h0; simp [blen_zero]
  · rw [blen_shl _ h0]; omega
theorem cut_bitsR {m p : Nat} {e : Int} (hp : p ≤ 512) (h : e < cutU m e p) : blen (m / 2 ^ (cutU m e p - e).toNat) ≤ p := by
  have h1 := (cutU_low (m := m) (e := e) hp).1
  have h2 := blen_div_le m (cutU m e p - e).toNat
  omega
theorem blen_succ (q : Nat) : blen (q + 1) ≤ blen q + 1 := by
  refine blen_le ?_
  have := blen_lt (Nat.le_refl (blen q))
  rw [Nat.pow_succ]
  have := Nat.two_pow_pos (blen q)
  omega
theorem blen_pred (p : Nat) : blen (2 ^ p - 1) ≤ p := blen_le (by have := Nat.two_pow_pos p; omega)
end Go.Fl.Dy
namespace Go.Fl.Nm
open Go.RowKit Go.Fl
theorem Sl.one {w : World} {g : Nat} {t : TypeId} {x : Nat} (hB : Blk w g t #[.int .u32 (x : Int)]) (hx : x < BB) : Sl w (some ⟨g, 0, none⟩) 1 1 [x] :=
  (Nw.of_blk (base := 0) (l := [x]) hB (ok_cons.2 ⟨hx, ok_nil⟩) (Nat.zero_le _) rfl (by unfold maxLen; simp)).sl
end Go.Fl.Nm
namespace Go.Proofs.YtffdkakogeofmaaGreatDoor
open Go.RowKit Go.Fl Go.Fl.Nm Go.Fl.Dy

set_option maxHeartbeats 2000000 in
theorem cut_L (A : Option Addr) (n c : Nat) (l : List Nat) (ex : Int) (more up : Bool) (p : Nat) (w : World) (h : Sl w A n c l) (hT : RB w) (hn : n ≤ 256) (h1 : -1000000 ≤ ex) (h2 : ex ≤ 40000) (hp : 8 ≤ p) (hp2 : p ≤ 512) (hs : cutU (val l) ex p ≤ ex) :
    Calls Tryz.prog 169 #[.agg #[.slice A n c, .int .i64 ex, .bool more], .int .i64 p, .bool up] w (DyE (cutR (val l) ex more p up) w) := by
  have H := Lib.hid h
  have HT := Lib.hid hT
  have hbl : blen (val l) ≤ 8192 := by
    have := val_lt h.ok
    rw [h.len, BB_pow, ← Nat.pow_mul] at this
    have := blen_le this
    omega
  clear h hT
  obtain ⟨b, hb⟩ : ∃ b : Int, b = (blen (val l) : Nat) := ⟨_, rfl⟩
  have HBL := Lib.hid hb.symm
  obtain ⟨U, hU⟩ : ∃ U : Int, U = cutU (val l) ex p := ⟨_, rfl⟩
  have hUm : U = max (ex + b - p) (-16384) := by rw [hU, hb]; rfl
  have hb0 : 0 ≤ b := by omega
  have hb1 : b ≤ 8192 := by omega
  have hU0 : -16384 ≤ U := by omega
  have hU1 : U ≤ 100000 := by omega
  have HMX := Lib.hid hUm.symm
  have HQ := Lib.hid (show cutR (val l) ex more p up = if 16384 < (blen (cutQ (val l) ex more p up) : Int) + U then (if up then (⟨false, 0, 0⟩, 9) else chk (canon false (2 ^ p - 1) (16384 - p))) else chk (canon false (cutQ (val l) ex more p up) U) by rw [hU]; rfl)
  rw [← hU] at hs
  have dx : decide (U ≤ ex) = true := decide_eq_true hs
  have HSH := Lib.hid (show blen (2 ^ (ex - U).toNat * val l) ≤ p by rw [hU]; exact cut_bitsL hp2 (by rw [← hU]; exact hs))
  have HU := Lib.hid hU.symm
  have hsh : U ≥ ex + b - p := by omega
  clear hb hU hUm
  have s1 : IntKind.i64.wrap (ex + b) = ex + b := IntWalk.i64_in _ (by omega)
  have s2 : IntKind.i64.wrap (ex + b - p) = ex + b - p := IntWalk.i64_in _ (by omega)
  go_enter Tryz.func169, Tryz.ntmps169
  go_wp2_with fail
  obtain ⟨w1, hw⟩ : ∃ z9 : World, z9 = ((w.alloc (.cells #[.slice A n c, .int .i64 ex, .bool more] 141)).alloc (.cells #[.bool false, .slice none 0 0, .int .i64 0] 25)) := ⟨_, rfl⟩
  have HB1 := Lib.hid (show Below w.heap.size w w1 by rw [hw]; exact below_a2 _ _ _)
  have F1a := Lib.hid (H.out.belowW HB1.out)
  have F1t := Lib.hid (HT.out.belowW HB1.out)
  have F1k := Lib.hid (show Blk w1 (w.heap.size) 141 #[.slice A n c, .int .i64 ex, .bool more] by rw [hw]; exact (Blk.new _ _ _).alloc _)
  have F1r := Lib.hid (show Blk w1 (w.heap.size + 1) 25 #[.bool false, .slice none 0 0, .int .i64 0] by rw [hw]; exact Blk.new1 _ _ _ _)
  rw [← hw]
  clear hw
  have pk0 : (w1).cell? ⟨w.heap.size, 0, none⟩ = some (.slice A n c) := F1k.out.cell 0
  have fk0 : (w1).frozen? ⟨w.heap.size, 0, none⟩ = false := F1k.out.frozen 0
  have pk1 : (w1).cell? ⟨w.heap.size, 1, none⟩ = some (.int .i64 ex) := F1k.out.cell 1
  have fk1 : (w1).frozen? ⟨w.heap.size, 1, none⟩ = false := F1k.out.frozen 1
  have pk2 : (w1).cell? ⟨w.heap.size, 2, none⟩ = some (.bool more) := F1k.out.cell 2
  have fk2 : (w1).frozen? ⟨w.heap.size, 2, none⟩ = false := F1k.out.frozen 2
  go_wp2_with fail
  go_region_held3 (fun w' => w'.cell? ⟨w.heap.size, 0, none⟩ = some (.slice A n c) ∧ w'.cell? ⟨w.heap.size, 1, none⟩ = some (.int .i64 ex)) (first | exact ⟨pk0, pk1⟩) (first
    | (go_at_call 64
       refine (bits_any A n c l _ (F1a.out.drewN 1) (by omega)).mono ?_
       rw [HBL.out]
       rintro e x1 ⟨rfl, rfl⟩))
  go_wp2_with fail
  rw [HMX.out]
  obtain ⟨w2, hw⟩ : ∃ z9 : World, z9 = w1.drewN 1 := ⟨_, rfl⟩
  have HB2 := Lib.hid (show Below w1.heap.size w1 w2 by rw [hw]; exact below_drewN (Below.refl _ _) _)
  rw [← hw]
  clear hw
  have F2a := Lib.hid (F1a.out.belowW HB2.out)
  have F2t := Lib.hid (F1t.out.belowW HB2.out)
  have F2k := Lib.hid (F1k.out.belowW HB2.out)
  have F2r := Lib.hid (F1r.out.belowW HB2.out)
  have HL2 := Lib.hid (HB1.out.trans (HB2.out.mono HB1.out.size))
  clear pk0 pk1 pk2 fk0 fk1 fk2
  have pk0 : (w2).cell? ⟨w.heap.size, 0, none⟩ = some (.slice A n c) := F2k.out.cell 0
  have fk0 : (w2).frozen? ⟨w.heap.size, 0, none⟩ = false := F2k.out.frozen 0
  have pk1 : (w2).cell? ⟨w.heap.size, 1, none⟩ = some (.int .i64 ex) := F2k.out.cell 1
  have fk1 : (w2).frozen? ⟨w.heap.size, 1, none⟩ = false := F2k.out.frozen 1
  have pk2 : (w2).cell? ⟨w.heap.size, 2, none⟩ = some (.bool more) := F2k.out.cell 2
  have fk2 : (w2).frozen? ⟨w.heap.size, 2, none⟩ = false := F2k.out.frozen 2
  go_quiet (fail)
  rename_i nq
  go_wp2_with fail
  obtain ⟨w3, hw⟩ : ∃ z9 : World, z9 = w2.drewN nq := ⟨_, rfl⟩
  have HB3 := Lib.hid (show Below w2.heap.size w2 w3 by rw [hw]; exact below_drewN (Below.refl _ _) _)
  rw [← hw]
  clear hw
  have F3a := Lib.hid (F2a.out.belowW HB3.out)
  have F3t := Lib.hid (F2t.out.belowW HB3.out)
  have F3k := Lib.hid (F2k.out.belowW HB3.out)
  have F3r := Lib.hid (F2r.out.belowW HB3.out)
  have HL3 := Lib.hid (HL2.out.trans (HB3.out.mono HL2.out.size))
  clear pk0 pk1 pk2 fk0 fk1 fk2
  refine (rshl_any A n c l (ex - U) w3 F3a.out hn (by omega) (by omega) (by have := HSH.out; omega)).mono ?_
  rintro e w4 ⟨X, x, rfl, HX, HB4⟩
  have F4a := Lib.hid (F3a.out.belowW HB4.out)
  have F4t := Lib.hid (F3t.out.belowW HB4.out)
  have F4k := Lib.hid (F3k.out.belowW HB4.out)
  have F4r := Lib.hid (F3r.out.belowW HB4.out)
  have HL4 := Lib.hid (HL3.out.trans (HB4.out.mono HL3.out.size))
  have F4x := Lib.hid (HX.out)
  have hx : x ≤ 256 := HX.out.lim (by have := HSH.out; omega)
  cases up with
  | false =>
    have HQV := Lib.hid (show cutQ (val l) ex more p false = 2 ^ (ex - U).toNat * val l by unfold cutQ; rw [HU.out, if_pos hs]; rfl)
    have HBQ := Lib.hid (show blen (2 ^ (ex - U).toNat * val l) ≤ 513 by have := HSH.out; omega)
    go_wp2_with fail
    have hx9 : x ≤ 256 := F4x.out.lim (by have := HBQ.out; omega)
    obtain ⟨bq, hbq⟩ : ∃ z : Int, z = (blen (2 ^ (ex - U).toNat * val l) : Nat) := ⟨_, rfl⟩
    have HBB := Lib.hid hbq.symm
    have hbq0 : 0 ≤ bq := by omega
    have hbq1 : bq ≤ 600 := by have := HBQ.out; omega
    clear hbq
    refine (bits_any X x x _ w4 F4x.out (by omega)).mono ?_
    rw [val_limbs, HBB.out]
    rintro e w' ⟨rfl, rfl⟩
    by_cases hbig : 16384 < bq + U
    · have db : decide (16384 < bq + U) = true := decide_eq_true hbig
      have HFIN := Lib.hid (show cutR (val l) ex more p false = chk (canon false (2 ^ p - 1) (16384 - p)) by rw [HQ.out, if_pos (by rw [HQV.out, HBB.out]; exact hbig)]; rfl)
      clear hbig
      have HP1 := Lib.hid (show 2 ^ (p : Int).toNat * val [1] = 2 ^ p by rw [Int.toNat_natCast, val_cons, val_nil]; simp)
      have HP2 := Lib.hid (show blen (2 ^ p) ≤ 8192 by have := blen_mul_le 1 p; rw [Nat.mul_one] at this; have h1 : blen 1 = 1 := rfl; omega)
      have HP3 := Lib.hid (show val (limbs (2 ^ p)) - val [1] = 2 ^ p - 1 by rw [val_limbs, val_cons, val_nil, Nat.mul_zero])
      have HP4 := Lib.hid (show blen (2 ^ p - 1) ≤ 8192 by have := blen_pred p; omega)
      have HP5 := Lib.hid (show val [1] ≤ val (limbs (2 ^ p)) by rw [val_limbs, val_cons, val_nil, Nat.mul_zero]; exact Nat.two_pow_pos p)
      go_wp2_with fail
      obtain ⟨w5, hw⟩ : ∃ z9 : World, z9 = w4.alloc (.cells #[.int .u32 1] 49) := ⟨_, rfl⟩
      have HB5 := Lib.hid (show Below w4.heap.size w4 w5 by rw [hw]; exact below_a1 _ _)
      have F5o := Lib.hid (show Blk w5 w4.heap.size 49 #[.int .u32 1] by rw [hw]; exact Blk.new _ _ _)
      rw [← hw]
      clear hw
      have F5a := Lib.hid (F4a.out.belowW HB5.out)
      have F5t := Lib.hid (F4t.out.belowW HB5.out)
      have F5k := Lib.hid (F4k.out.belowW HB5.out)
      have F5r := Lib.hid (F4r.out.belowW HB5.out)
      have F5x := Lib.hid (F4x.out.belowW HB5.out)
      have HL5 := Lib.hid (HL4.out.trans (HB5.out.mono HL4.out.size))
      have FO := Lib.hid (Sl.one (x := 1) F5o.out (by unfold BB; omega))
      refine (rshl_any (some ⟨w4.heap.size, 0, none⟩) 1 1 [1] p w5 FO.out (by omega) (by omega) (by omega) (by rw [HP1.out]; exact HP2.out)).mono ?_
      rw [HP1.out]
      rintro e w6 ⟨S, sn, rfl, HS, HB6⟩
      have F6a := Lib.hid (F5a.out.belowW HB6.out)
      have F6t := Lib.hid (F5t.out.belowW HB6.out)
      have F6k := Lib.hid (F5k.out.belowW HB6.out)
      have F6r := Lib.hid (F5r.out.belowW HB6.out)
      have F6x := Lib.hid (F5x.out.belowW HB6.out)
      have F6o := Lib.hid (FO.out.belowW HB6.out)
      have HL6 := Lib.hid (HL5.out.trans (HB6.out.mono HL5.out.size))
      have F6s := Lib.hid (HS.out)
      have hsn : sn ≤ 256 := HS.out.lim (by have := HP2.out; omega)
      go_wp2_with fail
      obtain ⟨w7, hw⟩ : ∃ z9 : World, z9 = w6.alloc (.cells #[.int .u32 1] 49) := ⟨_, rfl⟩
      have HB7 := Lib.hid (show Below w6.heap.size w6 w7 by rw [hw]; exact below_a1 _ _)
      have F7o2 := Lib.hid (show Blk w7 w6.heap.size 49 #[.int .u32 1] by rw [hw]; exact Blk.new _ _ _)
      rw [← hw]
      clear hw
      have F7a := Lib.hid (F6a.out.belowW HB7.out)
      have F7t := Lib.hid (F6t.out.belowW HB7.out)
      have F7k := Lib.hid (F6k.out.belowW HB7.out)
      have F7r := Lib.hid (F6r.out.belowW HB7.out)
      have F7x := Lib.hid (F6x.out.belowW HB7.out)
      have F7o := Lib.hid (F6o.out.belowW HB7.out)
      have F7s := Lib.hid (F6s.out.belowW HB7.out)
      have HL7 := Lib.hid (HL6.out.trans (HB7.out.mono HL6.out.size))
      have FO2 := Lib.hid (Sl.one (x := 1) F7o2.out (by unfold BB; omega))
      refine (nSub_sl S (some ⟨w6.heap.size, 0, none⟩) sn sn 1 1 _ [1] w7 F7s.out FO2.out hsn (by omega) HP5.out (by rw [HP3.out]; exact HP4.out)).mono ?_
      rw [HP3.out]
      rintro e w8 ⟨V, vn, rfl, HVv, HB8⟩
      have F8a := Lib.hid (F7a.out.belowW HB8.out)
      have F8t := Lib.hid (F7t.out.belowW HB8.out)
      have F8k := Lib.hid (F7k.out.belowW HB8.out)
      have F8r := Lib.hid (F7r.out.belowW HB8.out)
      have F8x := Lib.hid (F7x.out.belowW HB8.out)
      have F8o := Lib.hid (F7o.out.belowW HB8.out)
      have F8s := Lib.hid (F7s.out.belowW HB8.out)
      have F8o2 := Lib.hid (FO2.out.belowW HB8.out)
      have HL8 := Lib.hid (HL7.out.trans (HB8.out.mono HL7.out.size))
      have F8v := Lib.hid (HVv.out)
      have hvn : vn ≤ 256 := HVv.out.lim (by have := HP4.out; omega)
      go_wp2_with fail
      refine (make_ok' false V vn vn (16384 - p) _ w8 F8v.out F8t.out hvn (by omega) (by omega)).mono ?_
      rw [val_limbs]
      rintro e w9 ⟨M, mn, mc, rfl, HM, HB9⟩
      have F9a := Lib.hid (F8a.out.belowW HB9.out)
      have F9t := Lib.hid (F8t.out.belowW HB9.out)
      have F9k := Lib.hid (F8k.out.belowW HB9.out)
      have F9r := Lib.hid (F8r.out.belowW HB9.out)
      have F9x := Lib.hid (F8x.out.belowW HB9.out)
      have F9o := Lib.hid (F8o.out.belowW HB9.out)
      have F9s := Lib.hid (F8s.out.belowW HB9.out)
      have F9o2 := Lib.hid (F8o2.out.belowW HB9.out)
      have F9v := Lib.hid (F8v.out.belowW HB9.out)
      have HL9 := Lib.hid (HL8.out.trans (HB9.out.mono HL8.out.size))
      have F9m := Lib.hid (HM.out)
      have pr0 : (w9).cell? ⟨w.heap.size + 1, 0, none⟩ = some (.bool false) := F9r.out.cell 0
      have fr0 : (w9).frozen? ⟨w.heap.size + 1, 0, none⟩ = false := F9r.out.frozen 0
      have pr1 : (w9).cell? ⟨w.heap.size + 1, 1, none⟩ = some (.slice none 0 0) := F9r.out.cell 1
      have fr1 : (w9).frozen? ⟨w.heap.size + 1, 1, none⟩ = false := F9r.out.frozen 1
      have pr2 : (w9).cell? ⟨w.heap.size + 1, 2, none⟩ = some (.int .i64 0) := F9r.out.cell 2
      have fr2 : (w9).frozen? ⟨w.heap.size + 1, 2, none⟩ = false := F9r.out.frozen 2
      go_wp2_with fail
      refine bodyPost_ret (v := .tuple #[.agg #[.bool (chk (canon false (2 ^ p - 1) (16384 - p))).1.neg, .slice M mn mc, .int .i64 (chk (canon false (2 ^ p - 1) (16384 - p))).1.e], .int .i64 (chk (canon false (2 ^ p - 1) (16384 - p))).2]) (by simp [results, Tryz.results169, go_sem, pr0, pr1, pr2]) rfl ?_
      rw [HFIN.out]
      exact ⟨M, mn, mc, rfl, Lib.hid (store3_sl F9m.out F9r.out noU3 _ _ _), Lib.hid (store3_below HL9.out F9r.out _ _ _ (by omega))⟩
    · have db : decide (16384 < bq + U) = false := decide_eq_false hbig
      have HFIN := Lib.hid (show cutR (val l) ex more p false = chk (canon false (2 ^ (ex - U).toNat * val l) U) by rw [HQ.out, if_neg (by rw [HQV.out, HBB.out]; exact hbig), HQV.out])
      have hU2 : U ≤ 16384 := by omega
      clear hbig
      go_wp2_with fail
      refine (make_ok' false X x x U _ w4 F4x.out F4t.out hx9 (by omega) (by omega)).mono ?_
      rw [val_limbs]
      rintro e w5 ⟨M, mn, mc, rfl, HM, HB5⟩
      have F5a := Lib.hid (F4a.out.belowW HB5.out)
      have F5t := Lib.hid (F4t.out.belowW HB5.out)
      have F5k := Lib.hid (F4k.out.belowW HB5.out)
      have F5r := Lib.hid (F4r.out.belowW HB5.out)
      have F5x := Lib.hid (F4x.out.belowW HB5.out)
      have HL5 := Lib.hid (HL4.out.trans (HB5.out.mono HL4.out.size))
      have F5m := Lib.hid (HM.out)
      have pr0 : (w5).cell? ⟨w.heap.size + 1, 0, none⟩ = some (.bool false) := F5r.out.cell 0
      have fr0 : (w5).frozen? ⟨w.heap.size + 1, 0, none⟩ = false := F5r.out.frozen 0
      have pr1 : (w5).cell? ⟨w.heap.size + 1, 1, none⟩ = some (.slice none 0 0) := F5r.out.cell 1
      have fr1 : (w5).frozen? ⟨w.heap.size + 1, 1, none⟩ = false := F5r.out.frozen 1
      have pr2 : (w5).cell? ⟨w.heap.size + 1, 2, none⟩ = some (.int .i64 0) := F5r.out.cell 2
      have fr2 : (w5).frozen? ⟨w.heap.size + 1, 2, none⟩ = false := F5r.out.frozen 2
      go_wp2_with fail
      refine bodyPost_ret (v := .tuple #[.agg #[.bool (chk (canon false (2 ^ (ex - U).toNat * val l) U)).1.neg, .slice M mn mc, .int .i64 (chk (canon false (2 ^ (ex - U).toNat * val l) U)).1.e], .int .i64 (chk (canon false (2 ^ (ex - U).toNat * val l) U)).2]) (by simp [results, Tryz.results169, go_sem, pr0, pr1, pr2]) rfl ?_
      rw [HFIN.out]
      exact ⟨M, mn, mc, rfl, Lib.hid (store3_sl F5m.out F5r.out noU3 _ _ _), Lib.hid (store3_below HL5.out F5r.out _ _ _ (by omega))⟩
  | true =>
    cases more with
    | false =>
      have HQV := Lib.hid (show cutQ (val l) ex false p true = 2 ^ (ex - U).toNat * val l by unfold cutQ; rw [HU.out, if_pos hs]; rfl)
      have HBQ := Lib.hid (show blen (2 ^ (ex - U).toNat * val l) ≤ 513 by have := HSH.out; omega)
      go_wp2_with fail
      have hx9 : x ≤ 256 := F4x.out.lim (by have := HBQ.out; omega)
      obtain ⟨bq, hbq⟩ : ∃ z : Int, z = (blen (2 ^ (ex - U).toNat * val l) : Nat) := ⟨_, rfl⟩
      have HBB := Lib.hid hbq.symm
      have hbq0 : 0 ≤ bq := by omega
      have hbq1 : bq ≤ 600 := by have := HBQ.out; omega
      clear hbq
      refine (bits_any X x x _ w4 F4x.out (by omega)).mono ?_
      rw [val_limbs, HBB.out]
      rintro e w' ⟨rfl, rfl⟩
      by_cases hbig : 16384 < bq + U
      · have db : decide (16384 < bq + U) = true := decide_eq_true hbig
        have HFIN := Lib.hid (show cutR (val l) ex false p true = (⟨false, 0, 0⟩, 9) by rw [HQ.out, if_pos (by rw [HQV.out, HBB.out]; exact hbig)]; rfl)
        clear hbig
        have pr0 : (w4).cell? ⟨w.heap.size + 1, 0, none⟩ = some (.bool false) := F4r.out.cell 0
        have fr0 : (w4).frozen? ⟨w.heap.size + 1, 0, none⟩ = false := F4r.out.frozen 0
        have pr1 : (w4).cell? ⟨w.heap.size + 1, 1, none⟩ = some (.slice none 0 0) := F4r.out.cell 1
        have fr1 : (w4).frozen? ⟨w.heap.size + 1, 1, none⟩ = false := F4r.out.frozen 1
        have pr2 : (w4).cell? ⟨w.heap.size + 1, 2, none⟩ = some (.int .i64 0) := F4r.out.cell 2
        have fr2 : (w4).frozen? ⟨w.heap.size + 1, 2, none⟩ = false := F4r.out.frozen 2
        go_wp2_with fail
        refine bodyPost_ret (v := .tuple #[.agg #[.bool false, .slice none 0 0, .int .i64 0], .int .i64 9]) (by simp [results, Tryz.results169, go_sem, pr0, pr1, pr2]) rfl ?_
        rw [HFIN.out]
        exact ⟨none, 0, 0, rfl, Lib.hid (by rw [limbs_zero]; exact Sl.none_ _), Lib.hid (store3_below HL4.out F4r.out _ _ _ (by omega))⟩
      · have db : decide (16384 < bq + U) = false := decide_eq_false hbig
        have HFIN := Lib.hid (show cutR (val l) ex false p true = chk (canon false (2 ^ (ex - U).toNat * val l) U) by rw [HQ.out, if_neg (by rw [HQV.out, HBB.out]; exact hbig), HQV.out])
        have hU2 : U ≤ 16384 := by omega
        clear hbig
        go_wp2_with fail
        refine (make_ok' false X x x U _ w4 F4x.out F4t.out hx9 (by omega) (by omega)).mono ?_
        rw [val_limbs]
        rintro e w5 ⟨M, mn, mc, rfl, HM, HB5⟩
        have F5a := Lib.hid (F4a.out.belowW HB5.out)
        have F5t := Lib.hid (F4t.out.belowW HB5.out)
        have F5k := Lib.hid (F4k.out.belowW HB5.out)
        have F5r := Lib.hid (F4r.out.belowW HB5.out)
        have F5x := Lib.hid (F4x.out.belowW HB5.out)
        have HL5 := Lib.hid (HL4.out.trans (HB5.out.mono HL4.out.size))
        have F5m := Lib.hid (HM.out)
        have pr0 : (w5).cell? ⟨w.heap.size + 1, 0, none⟩ = some (.bool false) := F5r.out.cell 0
        have fr0 : (w5).frozen? ⟨w.heap.size + 1, 0, none⟩ = false := F5r.out.frozen 0
        have pr1 : (w5).cell? ⟨w.heap.size + 1, 1, none⟩ = some (.slice none 0 0) := F5r.out.cell 1
        have fr1 : (w5).frozen? ⟨w.heap.size + 1, 1, none⟩ = false := F5r.out.frozen 1
        have pr2 : (w5).cell? ⟨w.heap.size + 1, 2, none⟩ = some (.int .i64 0) := F5r.out.cell 2
        have fr2 : (w5).frozen? ⟨w.heap.size + 1, 2, none⟩ = false := F5r.out.frozen 2
        go_wp2_with fail
        refine bodyPost_ret (v := .tuple #[.agg #[.bool (chk (canon false (2 ^ (ex - U).toNat * val l) U)).1.neg, .slice M mn mc, .int .i64 (chk (canon false (2 ^ (ex - U).toNat * val l) U)).1.e], .int .i64 (chk (canon false (2 ^ (ex - U).toNat * val l) U)).2]) (by simp [results, Tryz.results169, go_sem, pr0, pr1, pr2]) rfl ?_
        rw [HFIN.out]
        exact ⟨M, mn, mc, rfl, Lib.hid (store3_sl F5m.out F5r.out noU3 _ _ _), Lib.hid (store3_below HL5.out F5r.out _ _ _ (by omega))⟩
    | true =>
      have HQV := Lib.hid (show cutQ (val l) ex true p true = 2 ^ (ex - U).toNat * val l + 1 by unfold cutQ; rw [HU.out, if_pos hs]; rfl)
      go_wp2_with fail
      obtain ⟨w5, hw⟩ : ∃ z9 : World, z9 = w4.alloc (.cells #[.int .u32 1] 49) := ⟨_, rfl⟩
      have HB5 := Lib.hid (show Below w4.heap.size w4 w5 by rw [hw]; exact below_a1 _ _)
      have F5o := Lib.hid (show Blk w5 w4.heap.size 49 #[.int .u32 1] by rw [hw]; exact Blk.new _ _ _)
      rw [← hw]
      clear hw
      have F5a := Lib.hid (F4a.out.belowW HB5.out)
      have F5t := Lib.hid (F4t.out.belowW HB5.out)
      have F5k := Lib.hid (F4k.out.belowW HB5.out)
      have F5r := Lib.hid (F4r.out.belowW HB5.out)
      have F5x := Lib.hid (F4x.out.belowW HB5.out)
      have HL5 := Lib.hid (HL4.out.trans (HB5.out.mono HL4.out.size))
      have FA := Lib.hid (Sl.one (x := 1) F5o.out (by unfold BB; omega))
      have HA1 := Lib.hid (show val (limbs (2 ^ (ex - U).toNat * val l)) + val [1] = 2 ^ (ex - U).toNat * val l + 1 by rw [val_limbs, val_cons, val_nil, Nat.mul_zero])
      have HA2 := Lib.hid (show blen (2 ^ (ex - U).toNat * val l + 1) ≤ 8192 by have := blen_succ (2 ^ (ex - U).toNat * val l); have := HSH.out; omega)
      refine (nAdd_sl X (some ⟨w4.heap.size, 0, none⟩) x x 1 1 _ [1] w5 F5x.out FA.out hx (by omega) (by rw [HA1.out]; exact HA2.out)).mono ?_
      rw [HA1.out]
      rintro e w6 ⟨Y, yn, rfl, HY, HB6⟩
      have F6a := Lib.hid (F5a.out.belowW HB6.out)
      have F6t := Lib.hid (F5t.out.belowW HB6.out)
      have F6k := Lib.hid (F5k.out.belowW HB6.out)
      have F6r := Lib.hid (F5r.out.belowW HB6.out)
      have F6x := Lib.hid (F5x.out.belowW HB6.out)
      have F6o := Lib.hid (FA.out.belowW HB6.out)
      have HL6 := Lib.hid (HL5.out.trans (HB6.out.mono HL5.out.size))
      have F6y := Lib.hid (HY.out)
      go_wp2_with fail
      have HBQ := Lib.hid (show blen (2 ^ (ex - U).toNat * val l + 1) ≤ 513 by have := blen_succ (2 ^ (ex - U).toNat * val l); have := HSH.out; omega)
      have hx9 : yn ≤ 256 := F6y.out.lim (by have := HBQ.out; omega)
      obtain ⟨bq, hbq⟩ : ∃ z : Int, z = (blen (2 ^ (ex - U).toNat * val l + 1) : Nat) := ⟨_, rfl⟩
      have HBB := Lib.hid hbq.symm
      have hbq0 : 0 ≤ bq := by omega
      have hbq1 : bq ≤ 600 := by have := HBQ.out; omega
      clear hbq
      refine (bits_any Y yn yn _ w6 F6y.out (by omega)).mono ?_
      rw [val_limbs, HBB.out]
      rintro e w' ⟨rfl, rfl⟩
      by_cases hbig : 16384 < bq + U
      · have db : decide (16384 < bq + U) = true := decide_eq_true hbig
        have HFIN := Lib.hid (show cutR (val l) ex true p true = (⟨false, 0, 0⟩, 9) by rw [HQ.out, if_pos (by rw [HQV.out, HBB.out]; exact hbig)]; rfl)
        clear hbig
        have pr0 : (w6).cell? ⟨w.heap.size + 1, 0, none⟩ = some (.bool false) := F6r.out.cell 0
        have fr0 : (w6).frozen? ⟨w.heap.size + 1, 0, none⟩ = false := F6r.out.frozen 0
        have pr1 : (w6).cell? ⟨w.heap.size + 1, 1, none⟩ = some (.slice none 0 0) := F6r.out.cell 1
        have fr1 : (w6).frozen? ⟨w.heap.size + 1, 1, none⟩ = false := F6r.out.frozen 1
        have pr2 : (w6).cell? ⟨w.heap.size + 1, 2, none⟩ = some (.int .i64 0) := F6r.out.cell 2
        have fr2 : (w6).frozen? ⟨w.heap.size + 1, 2, none⟩ = false := F6r.out.frozen 2
        go_wp2_with fail
        refine bodyPost_ret (v := .tuple #[.agg #[.bool false, .slice none 0 0, .int .i64 0], .int .i64 9]) (by simp [results, Tryz.results169, go_sem, pr0, pr1, pr2]) rfl ?_
        rw [HFIN.out]
        exact ⟨none, 0, 0, rfl, Lib.hid (by rw [limbs_zero]; exact Sl.none_ _), Lib.hid (store3_below HL6.out F6r.out _ _ _ (by omega))⟩
      · have db : decide (16384 < bq + U) = false := decide_eq_false hbig
        have HFIN := Lib.hid (show cutR (val l) ex true p true = chk (canon false (2 ^ (ex - U).toNat * val l + 1) U) by rw [HQ.out, if_neg (by rw [HQV.out, HBB.out]; exact hbig), HQV.out])
        have hU2 : U ≤ 16384 := by omega
        clear hbig
        go_wp2_with fail
        refine (make_ok' false Y yn yn U _ w6 F6y.out F6t.out hx9 (by omega) (by omega)).mono ?_
        rw [val_limbs]
        rintro e w7 ⟨M, mn, mc, rfl, HM, HB7⟩
        have F7a := Lib.hid (F6a.out.belowW HB7.out)
        have F7t := Lib.hid (F6t.out.belowW HB7.out)
        have F7k := Lib.hid (F6k.out.belowW HB7.out)
        have F7r := Lib.hid (F6r.out.belowW HB7.out)
        have F7x := Lib.hid (F6x.out.belowW HB7.out)
        have F7o := Lib.hid (F6o.out.belowW HB7.out)
        have F7y := Lib.hid (F6y.out.belowW HB7.out)
        have HL7 := Lib.hid (HL6.out.trans (HB7.out.mono HL6.out.size))
        have F7m := Lib.hid (HM.out)
        have pr0 : (w7).cell? ⟨w.heap.size + 1, 0, none⟩ = some (.bool false) := F7r.out.cell 0
        have fr0 : (w7).frozen? ⟨w.heap.size + 1, 0, none⟩ = false := F7r.out.frozen 0
        have pr1 : (w7).cell? ⟨w.heap.size + 1, 1, none⟩ = some (.slice none 0 0) := F7r.out.cell 1
        have fr1 : (w7).frozen? ⟨w.heap.size + 1, 1, none⟩ = false := F7r.out.frozen 1
        have pr2 : (w7).cell? ⟨w.heap.size + 1, 2, none⟩ = some (.int .i64 0) := F7r.out.cell 2
        have fr2 : (w7).frozen? ⟨w.heap.size + 1, 2, none⟩ = false := F7r.out.frozen 2
        go_wp2_with fail
        refine bodyPost_ret (v := .tuple #[.agg #[.bool (chk (canon false (2 ^ (ex - U).toNat * val l + 1) U)).1.neg, .slice M mn mc, .int .i64 (chk (canon false (2 ^ (ex - U).toNat * val l + 1) U)).1.e], .int .i64 (chk (canon false (2 ^ (ex - U).toNat * val l + 1) U)).2]) (by simp [results, Tryz.results169, go_sem, pr0, pr1, pr2]) rfl ?_
        rw [HFIN.out]
        exact ⟨M, mn, mc, rfl, Lib.hid (store3_sl F7m.out F7r.out noU3 _ _ _), Lib.hid (store3_below HL7.out F7r.out _ _ _ (by omega))⟩

set_option maxHeartbeats 2000000 in
theorem cut_R (A : Option Addr) (n c : Nat) (l : List Nat) (ex : Int) (more up : Bool) (p : Nat) (w : World) (h : Sl w A n c l) (hT : RB w) (hn : n ≤ 256) (h1 : -1000000 ≤ ex) (h2 : ex ≤ 40000) (hp : 8 ≤ p) (hp2 : p ≤ 512) (hs : ex < cutU (val l) ex p) :
    Calls Tryz.prog 169 #[.agg #[.slice A n c, .int .i64 ex, .bool more], .int .i64 p, .bool up] w (DyE (cutR (val l) ex more p up) w) := by
  have H := Lib.hid h
  have HT := Lib.hid hT
  have hbl : blen (val l) ≤ 8192 := by
    have := val_lt h.ok
    rw [h.len, BB_pow, ← Nat.pow_mul] at this
    have := blen_le this
    omega
  clear h hT
  obtain ⟨b, hb⟩ : ∃ b : Int, b = (blen (val l) : Nat) := ⟨_, rfl⟩
  have HBL := Lib.hid hb.symm
  obtain ⟨U, hU⟩ : ∃ U : Int, U = cutU (val l) ex p := ⟨_, rfl⟩
  have hUm : U = max (ex + b - p) (-16384) := by rw [hU, hb]; rfl
  have hb0 : 0 ≤ b := by omega
  have hb1 : b ≤ 8192 := by omega
  have hU0 : -16384 ≤ U := by omega
  have hU1 : U ≤ 100000 := by omega
  have HMX := Lib.hid hUm.symm
  have HQ := Lib.hid (show cutR (val l) ex more p up = if 16384 < (blen (cutQ (val l) ex more p up) : Int) + U then (if up then (⟨false, 0, 0⟩, 9) else chk (canon false (2 ^ p - 1) (16384 - p))) else chk (canon false (cutQ (val l) ex more p up) U) by rw [hU]; rfl)
  rw [← hU] at hs
  have dx : decide (U ≤ ex) = false := decide_eq_false (by omega)
  have HSH := Lib.hid (show blen (val l / 2 ^ (U - ex).toNat) ≤ p by rw [hU]; exact cut_bitsR hp2 (by rw [← hU]; exact hs))
  have HU := Lib.hid hU.symm
  clear hb hU hUm
  have s1 : IntKind.i64.wrap (ex + b) = ex + b := IntWalk.i64_in _ (by omega)
  have s2 : IntKind.i64.wrap (ex + b - p) = ex + b - p := IntWalk.i64_in _ (by omega)
  go_enter Tryz.func169, Tryz.ntmps169
  go_wp2_with fail
  obtain ⟨w1, hw⟩ : ∃ z9 : World, z9 = ((w.alloc (.cells #[.slice A n c, .int .i64 ex, .bool more] 141)).alloc (.cells #[.bool false, .slice none 0 0, .int .i64 0] 25)) := ⟨_, rfl⟩
  have HB1 := Lib.hid (show Below w.heap.size w w1 by rw [hw]; exact below_a2 _ _ _)
  have F1a := Lib.hid (H.out.belowW HB1.out)
  have F1t := Lib.hid (HT.out.belowW HB1.out)
  have F1k := Lib.hid (show Blk w1 (w.heap.size) 141 #[.slice A n c, .int .i64 ex, .bool more] by rw [hw]; exact (Blk.new _ _ _).alloc _)
  have F1r := Lib.hid (show Blk w1 (w.heap.size + 1) 25 #[.bool false, .slice none 0 0, .int .i64 0] by rw [hw]; exact Blk.new1 _ _ _ _)
  rw [← hw]
  clear hw
  have pk0 : (w1).cell? ⟨w.heap.size, 0, none⟩ = some (.slice A n c) := F1k.out.cell 0
  have fk0 : (w1).frozen? ⟨w.heap.size, 0, none⟩ = false := F1k.out.frozen 0
  have pk1 : (w1).cell? ⟨w.heap.size, 1, none⟩ = some (.int .i64 ex) := F1k.out.cell 1
  have fk1 : (w1).frozen? ⟨w.heap.size, 1, none⟩ = false := F1k.out.frozen 1
  have pk2 : (w1).cell? ⟨w.heap.size, 2, none⟩ = some (.bool more) := F1k.out.cell 2
  have fk2 : (w1).frozen? ⟨w.heap.size, 2, none⟩ = false := F1k.out.frozen 2
  go_wp2_with fail
  go_region_held3 (fun w' => w'.cell? ⟨w.heap.size, 0, none⟩ = some (.slice A n c) ∧ w'.cell? ⟨w.heap.size, 1, none⟩ = some (.int .i64 ex)) (first | exact ⟨pk0, pk1⟩) (first
    | (go_at_call 64
       refine (bits_any A n c l _ (F1a.out.drewN 1) (by omega)).mono ?_
       rw [HBL.out]
       rintro e x1 ⟨rfl, rfl⟩))
  go_wp2_with fail
  rw [HMX.out]
  obtain ⟨w2, hw⟩ : ∃ z9 : World, z9 = w1.drewN 1 := ⟨_, rfl⟩
  have HB2 := Lib.hid (show Below w1.heap.size w1 w2 by rw [hw]; exact below_drewN (Below.refl _ _) _)
  rw [← hw]
  clear hw
  have F2a := Lib.hid (F1a.out.belowW HB2.out)
  have F2t := Lib.hid (F1t.out.belowW HB2.out)
  have F2k := Lib.hid (F1k.out.belowW HB2.out)
  have F2r := Lib.hid (F1r.out.belowW HB2.out)
  have HL2 := Lib.hid (HB1.out.trans (HB2.out.mono HB1.out.size))
  clear pk0 pk1 pk2 fk0 fk1 fk2
  have pk0 : (w2).cell? ⟨w.heap.size, 0, none⟩ = some (.slice A n c) := F2k.out.cell 0
  have fk0 : (w2).frozen? ⟨w.heap.size, 0, none⟩ = false := F2k.out.frozen 0
  have pk1 : (w2).cell? ⟨w.heap.size, 1, none⟩ = some (.int .i64 ex) := F2k.out.cell 1
  have fk1 : (w2).frozen? ⟨w.heap.size, 1, none⟩ = false := F2k.out.frozen 1
  have pk2 : (w2).cell? ⟨w.heap.size, 2, none⟩ = some (.bool more) := F2k.out.cell 2
  have fk2 : (w2).frozen? ⟨w.heap.size, 2, none⟩ = false := F2k.out.frozen 2
  go_quiet (fail)
  rename_i nq
  go_wp2_with fail
  obtain ⟨w3, hw⟩ : ∃ z9 : World, z9 = w2.drewN nq := ⟨_, rfl⟩
  have HB3 := Lib.hid (show Below w2.heap.size w2 w3 by rw [hw]; exact below_drewN (Below.refl _ _) _)
  rw [← hw]
  clear hw
  have F3a := Lib.hid (F2a.out.belowW HB3.out)
  have F3t := Lib.hid (F2t.out.belowW HB3.out)
  have F3k := Lib.hid (F2k.out.belowW HB3.out)
  have F3r := Lib.hid (F2r.out.belowW HB3.out)
  have HL3 := Lib.hid (HL2.out.trans (HB3.out.mono HL2.out.size))
  clear pk0 pk1 pk2 fk0 fk1 fk2
  obtain ⟨lo, hlo⟩ : ∃ x, x = decide (val l % 2 ^ (U - ex).toNat ≠ 0) := ⟨_, rfl⟩
  have HLO := Lib.hid hlo.symm
  clear hlo
  refine (rshr_any A n c l (U - ex) w3 F3a.out hn (by omega)).mono ?_
  rw [HLO.out]
  rintro e w4 ⟨X, x, rfl, HX, HB4⟩
  have F4a := Lib.hid (F3a.out.belowW HB4.out)
  have F4t := Lib.hid (F3t.out.belowW HB4.out)
  have F4k := Lib.hid (F3k.out.belowW HB4.out)
  have F4r := Lib.hid (F3r.out.belowW HB4.out)
  have HL4 := Lib.hid (HL3.out.trans (HB4.out.mono HL3.out.size))
  have F4x := Lib.hid (HX.out)
  have hx : x ≤ 256 := HX.out.lim (by have := HSH.out; omega)
  cases more with
  | true =>
    cases up with
    | false =>
      have HQV := Lib.hid (show cutQ (val l) ex true p false = val l / 2 ^ (U - ex).toNat by unfold cutQ; rw [HU.out, if_neg (by omega), HLO.out]; rfl)
      go_wp2_with fail
      have HBQ := Lib.hid (show blen (val l / 2 ^ (U - ex).toNat) ≤ 513 by have := HSH.out; omega)
      have hx9 : x ≤ 256 := F4x.out.lim (by have := HBQ.out; omega)
      obtain ⟨bq, hbq⟩ : ∃ z : Int, z = (blen (val l / 2 ^ (U - ex).toNat) : Nat) := ⟨_, rfl⟩
      have HBB := Lib.hid hbq.symm
      have hbq0 : 0 ≤ bq := by omega
      have hbq1 : bq ≤ 600 := by have := HBQ.out; omega
      clear hbq
      refine (bits_any X x x _ w4 F4x.out (by omega)).mono ?_
      rw [val_limbs, HBB.out]
      rintro e w' ⟨rfl, rfl⟩
      by_cases hbig : 16384 < bq + U
      · have db : decide (16384 < bq + U) = true := decide_eq_true hbig
        have HFIN := Lib.hid (show cutR (val l) ex true p false = chk (canon false (2 ^ p - 1) (16384 - p)) by rw [HQ.out, if_pos (by rw [HQV.out, HBB.out]; exact hbig)]; rfl)
        clear hbig
        have HP1 := Lib.hid (show 2 ^ (p : Int).toNat * val [1] = 2 ^ p by rw [Int.toNat_natCast, val_cons, val_nil]; simp)
        have HP2 := Lib.hid (show blen (2 ^ p) ≤ 8192 by have := blen_mul_le 1 p; rw [Nat.mul_one] at this; have h1 : blen 1 = 1 := rfl; omega)
        have HP3 := Lib.hid (show val (limbs (2 ^ p)) - val [1] = 2 ^ p - 1 by rw [val_limbs, val_cons, val_nil, Nat.mul_zero])
        have HP4 := Lib.hid (show blen (2 ^ p - 1) ≤ 8192 by have := blen_pred p; omega)
        have HP5 := Lib.hid (show val [1] ≤ val (limbs (2 ^ p)) by rw [val_limbs, val_cons, val_nil, Nat.mul_zero]; exact Nat.two_pow_pos p)
        go_wp2_with fail
        obtain ⟨w5, hw⟩ : ∃ z9 : World, z9 = w4.alloc (.cells #[.int .u32 1] 49) := ⟨_, rfl⟩
        have HB5 := Lib.hid (show Below w4.heap.size w4 w5 by rw [hw]; exact below_a1 _ _)
        have F5o := Lib.hid (show Blk w5 w4.heap.size 49 #[.int .u32 1] by rw [hw]; exact Blk.new _ _ _)
        rw [← hw]
        clear hw
        have F5a := Lib.hid (F4a.out.belowW HB5.out)
        have F5t := Lib.hid (F4t.out.belowW HB5.out)
        have F5k := Lib.hid (F4k.out.belowW HB5.out)
        have F5r := Lib.hid (F4r.out.belowW HB5.out)
        have F5x := Lib.hid (F4x.out.belowW HB5.out)
        have HL5 := Lib.hid (HL4.out.trans (HB5.out.mono HL4.out.size))
        have FO := Lib.hid (Sl.one (x := 1) F5o.out (by unfold BB; omega))
        refine (rshl_any (some ⟨w4.heap.size, 0, none⟩) 1 1 [1] p w5 FO.out (by omega) (by omega) (by omega) (by rw [HP1.out]; exact HP2.out)).mono ?_
        rw [HP1.out]
        rintro e w6 ⟨S, sn, rfl, HS, HB6⟩
        have F6a := Lib.hid (F5a.out.belowW HB6.out)
        have F6t := Lib.hid (F5t.out.belowW HB6.out)
        have F6k := Lib.hid (F5k.out.belowW HB6.out)
        have F6r := Lib.hid (F5r.out.belowW HB6.out)
        have F6x := Lib.hid (F5x.out.belowW HB6.out)
        have F6o := Lib.hid (FO.out.belowW HB6.out)
        have HL6 := Lib.hid (HL5.out.trans (HB6.out.mono HL5.out.size))
        have F6s := Lib.hid (HS.out)
        have hsn : sn ≤ 256 := HS.out.lim (by have := HP2.out; omega)
        go_wp2_with fail
        obtain ⟨w7, hw⟩ : ∃ z9 : World, z9 = w6.alloc (.cells #[.int .u32 1] 49) := ⟨_, rfl⟩
        have HB7 := Lib.hid (show Below w6.heap.size w6 w7 by rw [hw]; exact below_a1 _ _)
        have F7o2 := Lib.hid (show Blk w7 w6.heap.size 49 #[.int .u32 1] by rw [hw]; exact Blk.new _ _ _)
        rw [← hw]
        clear hw
        have F7a := Lib.hid (F6a.out.belowW HB7.out)
        have F7t := Lib.hid (F6t.out.belowW HB7.out)
        have F7k := Lib.hid (F6k.out.belowW HB7.out)
        have F7r := Lib.hid (F6r.out.belowW HB7.out)
        have F7x := Lib.hid (F6x.out.belowW HB7.out)
        have F7o := Lib.hid (F6o.out.belowW HB7.out)
        have F7s := Lib.hid (F6s.out.belowW HB7.out)
        have HL7 := Lib.hid (HL6.out.trans (HB7.out.mono HL6.out.size))
        have FO2 := Lib.hid (Sl.one (x := 1) F7o2.out (by unfold BB; omega))
        refine (nSub_sl S (some ⟨w6.heap.size, 0, none⟩) sn sn 1 1 _ [1] w7 F7s.out FO2.out hsn (by omega) HP5.out (by rw [HP3.out]; exact HP4.out)).mono ?_
        rw [HP3.out]
        rintro e w8 ⟨V, vn, rfl, HVv, HB8⟩
        have F8a := Lib.hid (F7a.out.belowW HB8.out)
        have F8t := Lib.hid (F7t.out.belowW HB8.out)
        have F8k := Lib.hid (F7k.out.belowW HB8.out)
        have F8r := Lib.hid (F7r.out.belowW HB8.out)
        have F8x := Lib.hid (F7x.out.belowW HB8.out)
        have F8o := Lib.hid (F7o.out.belowW HB8.out)
        have F8s := Lib.hid (F7s.out.belowW HB8.out)
        have F8o2 := Lib.hid (FO2.out.belowW HB8.out)
        have HL8 := Lib.hid (HL7.out.trans (HB8.out.mono HL7.out.size))
        have F8v := Lib.hid (HVv.out)
        have hvn : vn ≤ 256 := HVv.out.lim (by have := HP4.out; omega)
        go_wp2_with fail
        refine (make_ok' false V vn vn (16384 - p) _ w8 F8v.out F8t.out hvn (by omega) (by omega)).mono ?_
        rw [val_limbs]
        rintro e w9 ⟨M, mn, mc, rfl, HM, HB9⟩
        have F9a := Lib.hid (F8a.out.belowW HB9.out)
        have F9t := Lib.hid (F8t.out.belowW HB9.out)
        have F9k := Lib.hid (F8k.out.belowW HB9.out)
        have F9r := Lib.hid (F8r.out.belowW HB9.out)
        have F9x := Lib.hid (F8x.out.belowW HB9.out)
        have F9o := Lib.hid (F8o.out.belowW HB9.out)
        have F9s := Lib.hid (F8s.out.belowW HB9.out)
        have F9o2 := Lib.hid (F8o2.out.belowW HB9.out)
        have F9v := Lib.hid (F8v.out.belowW HB9.out)
        have HL9 := Lib.hid (HL8.out.trans (HB9.out.mono HL8.out.size))
        have F9m := Lib.hid (HM.out)
        have pr0 : (w9).cell? ⟨w.heap.size + 1, 0, none⟩ = some (.bool false) := F9r.out.cell 0
        have fr0 : (w9).frozen? ⟨w.heap.size + 1, 0, none⟩ = false := F9r.out.frozen 0
        have pr1 : (w9).cell? ⟨w.heap.size + 1, 1, none⟩ = some (.slice none 0 0) := F9r.out.cell 1
        have fr1 : (w9).frozen? ⟨w.heap.size + 1, 1, none⟩ = false := F9r.out.frozen 1
        have pr2 : (w9).cell? ⟨w.heap.size + 1, 2, none⟩ = some (.int .i64 0) := F9r.out.cell 2
        have fr2 : (w9).frozen? ⟨w.heap.size + 1, 2, none⟩ = false := F9r.out.frozen 2
        go_wp2_with fail
        refine bodyPost_ret (v := .tuple #[.agg #[.bool (chk (canon false (2 ^ p - 1) (16384 - p))).1.neg, .slice M mn mc, .int .i64 (chk (canon false (2 ^ p - 1) (16384 - p))).1.e], .int .i64 (chk (canon false (2 ^ p - 1) (16384 - p))).2]) (by simp [results, Tryz.results169, go_sem, pr0, pr1, pr2]) rfl ?_
        rw [HFIN.out]
        exact ⟨M, mn, mc, rfl, Lib.hid (store3_sl F9m.out F9r.out noU3 _ _ _), Lib.hid (store3_below HL9.out F9r.out _ _ _ (by omega))⟩
      · have db : decide (16384 < bq + U) = false := decide_eq_false hbig
        have HFIN := Lib.hid (show cutR (val l) ex true p false = chk (canon false (val l / 2 ^ (U - ex).toNat) U) by rw [HQ.out, if_neg (by rw [HQV.out, HBB.out]; exact hbig), HQV.out])
        have hU2 : U ≤ 16384 := by omega
        clear hbig
        go_wp2_with fail
        refine (make_ok' false X x x U _ w4 F4x.out F4t.out hx9 (by omega) (by omega)).mono ?_
        rw [val_limbs]
        rintro e w5 ⟨M, mn, mc, rfl, HM, HB5⟩
        have F5a := Lib.hid (F4a.out.belowW HB5.out)
        have F5t := Lib.hid (F4t.out.belowW HB5.out)
        have F5k := Lib.hid (F4k.out.belowW HB5.out)
        have F5r := Lib.hid (F4r.out.belowW HB5.out)
        have F5x := Lib.hid (F4x.out.belowW HB5.out)
        have HL5 := Lib.hid (HL4.out.trans (HB5.out.mono HL4.out.size))
        have F5m := Lib.hid (HM.out)
        have pr0 : (w5).cell? ⟨w.heap.size + 1, 0, none⟩ = some (.bool false) := F5r.out.cell 0
        have fr0 : (w5).frozen? ⟨w.heap.size + 1, 0, none⟩ = false := F5r.out.frozen 0
        have pr1 : (w5).cell? ⟨w.heap.size + 1, 1, none⟩ = some (.slice none 0 0) := F5r.out.cell 1
        have fr1 : (w5).frozen? ⟨w.heap.size + 1, 1, none⟩ = false := F5r.out.frozen 1
        have pr2 : (w5).cell? ⟨w.heap.size + 1, 2, none⟩ = some (.int .i64 0) := F5r.out.cell 2
        have fr2 : (w5).frozen? ⟨w.heap.size + 1, 2, none⟩ = false := F5r.out.frozen 2
        go_wp2_with fail
        refine bodyPost_ret (v := .tuple #[.agg #[.bool (chk (canon false (val l / 2 ^ (U - ex).toNat) U)).1.neg, .slice M mn mc, .int .i64 (chk (canon false (val l / 2 ^ (U - ex).toNat) U)).1.e], .int .i64 (chk (canon false (val l / 2 ^ (U - ex).toNat) U)).2]) (by simp [results, Tryz.results169, go_sem, pr0, pr1, pr2]) rfl ?_
        rw [HFIN.out]
        exact ⟨M, mn, mc, rfl, Lib.hid (store3_sl F5m.out F5r.out noU3 _ _ _), Lib.hid (store3_below HL5.out F5r.out _ _ _ (by omega))⟩
    | true =>
      have HQV := Lib.hid (show cutQ (val l) ex true p true = val l / 2 ^ (U - ex).toNat + 1 by unfold cutQ; rw [HU.out, if_neg (by omega), HLO.out]; rfl)
      go_wp2_with fail
      obtain ⟨w5, hw⟩ : ∃ z9 : World, z9 = w4.alloc (.cells #[.int .u32 1] 49) := ⟨_, rfl⟩
      have HB5 := Lib.hid (show Below w4.heap.size w4 w5 by rw [hw]; exact below_a1 _ _)
      have F5o := Lib.hid (show Blk w5 w4.heap.size 49 #[.int .u32 1] by rw [hw]; exact Blk.new _ _ _)
      rw [← hw]
      clear hw
      have F5a := Lib.hid (F4a.out.belowW HB5.out)
      have F5t := Lib.hid (F4t.out.belowW HB5.out)
      have F5k := Lib.hid (F4k.out.belowW HB5.out)
      have F5r := Lib.hid (F4r.out.belowW HB5.out)
      have F5x := Lib.hid (F4x.out.belowW HB5.out)
      have HL5 := Lib.hid (HL4.out.trans (HB5.out.mono HL4.out.size))
      have FA := Lib.hid (Sl.one (x := 1) F5o.out (by unfold BB; omega))
      have HA1 := Lib.hid (show val (limbs (val l / 2 ^ (U - ex).toNat)) + val [1] = val l / 2 ^ (U - ex).toNat + 1 by rw [val_limbs, val_cons, val_nil, Nat.mul_zero])
      have HA2 := Lib.hid (show blen (val l / 2 ^ (U - ex).toNat + 1) ≤ 8192 by have := blen_succ (val l / 2 ^ (U - ex).toNat); have := HSH.out; omega)
      refine (nAdd_sl X (some ⟨w4.heap.size, 0, none⟩) x x 1 1 _ [1] w5 F5x.out FA.out hx (by omega) (by rw [HA1.out]; exact HA2.out)).mono ?_
      rw [HA1.out]
      rintro e w6 ⟨Y, yn, rfl, HY, HB6⟩
      have F6a := Lib.hid (F5a.out.belowW HB6.out)
      have F6t := Lib.hid (F5t.out.belowW HB6.out)
      have F6k := Lib.hid (F5k.out.belowW HB6.out)
      have F6r := Lib.hid (F5r.out.belowW HB6.out)
      have F6x := Lib.hid (F5x.out.belowW HB6.out)
      have F6o := Lib.hid (FA.out.belowW HB6.out)
      have HL6 := Lib.hid (HL5.out.trans (HB6.out.mono HL5.out.size))
      have F6y := Lib.hid (HY.out)
      go_wp2_with fail
      have HBQ := Lib.hid (show blen (val l / 2 ^ (U - ex).toNat + 1) ≤ 513 by have := blen_succ (val l / 2 ^ (U - ex).toNat); have := HSH.out; omega)
      have hx9 : yn ≤ 256 := F6y.out.lim (by have := HBQ.out; omega)
      obtain ⟨bq, hbq⟩ : ∃ z : Int, z = (blen (val l / 2 ^ (U - ex).toNat + 1) : Nat) := ⟨_, rfl⟩
      have HBB := Lib.hid hbq.symm
      have hbq0 : 0 ≤ bq := by omega
      have hbq1 : bq ≤ 600 := by have := HBQ.out; omega
      clear hbq
      refine (bits_any Y yn yn _ w6 F6y.out (by omega)).mono ?_
      rw [val_limbs, HBB.out]
      rintro e w' ⟨rfl, rfl⟩
      by_cases hbig : 16384 < bq + U
      · have db : decide (16384 < bq + U) = true := decide_eq_true hbig
        have HFIN := Lib.hid (show cutR (val l) ex true p true = (⟨false, 0, 0⟩, 9) by rw [HQ.out, if_pos (by rw [HQV.out, HBB.out]; exact hbig)]; rfl)
        clear hbig
        have pr0 : (w6).cell? ⟨w.heap.size + 1, 0, none⟩ = some (.bool false) := F6r.out.cell 0
        have fr0 : (w6).frozen? ⟨w.heap.size + 1, 0, none⟩ = false := F6r.out.frozen 0
        have pr1 : (w6).cell? ⟨w.heap.size + 1, 1, none⟩ = some (.slice none 0 0) := F6r.out.cell 1
        have fr1 : (w6).frozen? ⟨w.heap.size + 1, 1, none⟩ = false := F6r.out.frozen 1
        have pr2 : (w6).cell? ⟨w.heap.size + 1, 2, none⟩ = some (.int .i64 0) := F6r.out.cell 2
        have fr2 : (w6).frozen? ⟨w.heap.size + 1, 2, none⟩ = false := F6r.out.frozen 2
        go_wp2_with fail
        refine bodyPost_ret (v := .tuple #[.agg #[.bool false, .slice none 0 0, .int .i64 0], .int .i64 9]) (by simp [results, Tryz.results169, go_sem, pr0, pr1, pr2]) rfl ?_
        rw [HFIN.out]
        exact ⟨none, 0, 0, rfl, Lib.hid (by rw [limbs_zero]; exact Sl.none_ _), Lib.hid (store3_below HL6.out F6r.out _ _ _ (by omega))⟩
      · have db : decide (16384 < bq + U) = false := decide_eq_false hbig
        have HFIN := Lib.hid (show cutR (val l) ex true p true = chk (canon false (val l / 2 ^ (U - ex).toNat + 1) U) by rw [HQ.out, if_neg (by rw [HQV.out, HBB.out]; exact hbig), HQV.out])
        have hU2 : U ≤ 16384 := by omega
        clear hbig
        go_wp2_with fail
        refine (make_ok' false Y yn yn U _ w6 F6y.out F6t.out hx9 (by omega) (by omega)).mono ?_
        rw [val_limbs]
        rintro e w7 ⟨M, mn, mc, rfl, HM, HB7⟩
        have F7a := Lib.hid (F6a.out.belowW HB7.out)
        have F7t := Lib.hid (F6t.out.belowW HB7.out)
        have F7k := Lib.hid (F6k.out.belowW HB7.out)
        have F7r := Lib.hid (F6r.out.belowW HB7.out)
        have F7x := Lib.hid (F6x.out.belowW HB7.out)
        have F7o := Lib.hid (F6o.out.belowW HB7.out)
        have F7y := Lib.hid (F6y.out.belowW HB7.out)
        have HL7 := Lib.hid (HL6.out.trans (HB7.out.mono HL6.out.size))
        have F7m := Lib.hid (HM.out)
        have pr0 : (w7).cell? ⟨w.heap.size + 1, 0, none⟩ = some (.bool false) := F7r.out.cell 0
        have fr0 : (w7).frozen? ⟨w.heap.size + 1, 0, none⟩ = false := F7r.out.frozen 0
        have pr1 : (w7).cell? ⟨w.heap.size + 1, 1, none⟩ = some (.slice none 0 0) := F7r.out.cell 1
        have fr1 : (w7).frozen? ⟨w.heap.size + 1, 1, none⟩ = false := F7r.out.frozen 1
        have pr2 : (w7).cell? ⟨w.heap.size + 1, 2, none⟩ = some (.int .i64 0) := F7r.out.cell 2
        have fr2 : (w7).frozen? ⟨w.heap.size + 1, 2, none⟩ = false := F7r.out.frozen 2
        go_wp2_with fail
        refine bodyPost_ret (v := .tuple #[.agg #[.bool (chk (canon false (val l / 2 ^ (U - ex).toNat + 1) U)).1.neg, .slice M mn mc, .int .i64 (chk (canon false (val l / 2 ^ (U - ex).toNat + 1) U)).1.e], .int .i64 (chk (canon false (val l / 2 ^ (U - ex).toNat + 1) U)).2]) (by simp [results, Tryz.results169, go_sem, pr0, pr1, pr2]) rfl ?_
        rw [HFIN.out]
        exact ⟨M, mn, mc, rfl, Lib.hid (store3_sl F7m.out F7r.out noU3 _ _ _), Lib.hid (store3_below HL7.out F7r.out _ _ _ (by omega))⟩
  | false =>
    cases up with
    | false =>
      have HQV := Lib.hid (show cutQ (val l) ex false p false = val l / 2 ^ (U - ex).toNat by unfold cutQ; rw [HU.out, if_neg (by omega), HLO.out]; rfl)
      go_wp2_with fail
      have HBQ := Lib.hid (show blen (val l / 2 ^ (U - ex).toNat) ≤ 513 by have := HSH.out; omega)
      have hx9 : x ≤ 256 := F4x.out.lim (by have := HBQ.out; omega)
      obtain ⟨bq, hbq⟩ : ∃ z : Int, z = (blen (val l / 2 ^ (U - ex).toNat) : Nat) := ⟨_, rfl⟩
      have HBB := Lib.hid hbq.symm
      have hbq0 : 0 ≤ bq := by omega
      have hbq1 : bq ≤ 600 := by have := HBQ.out; omega
      clear hbq
      refine (bits_any X x x _ w4 F4x.out (by omega)).mono ?_
      rw [val_limbs, HBB.out]
      rintro e w' ⟨rfl, rfl⟩
      by_cases hbig : 16384 < bq + U
      · have db : decide (16384 < bq + U) = true := decide_eq_true hbig
        have HFIN := Lib.hid (show cutR (val l) ex false p false = chk (canon false (2 ^ p - 1) (16384 - p)) by rw [HQ.out, if_pos (by rw [HQV.out, HBB.out]; exact hbig)]; rfl)
        clear hbig
        have HP1 := Lib.hid (show 2 ^ (p : Int).toNat * val [1] = 2 ^ p by rw [Int.toNat_natCast, val_cons, val_nil]; simp)
        have HP2 := Lib.hid (show blen (2 ^ p) ≤ 8192 by have := blen_mul_le 1 p; rw [Nat.mul_one] at this; have h1 : blen 1 = 1 := rfl; omega)
        have HP3 := Lib.hid (show val (limbs (2 ^ p)) - val [1] = 2 ^ p - 1 by rw [val_limbs, val_cons, val_nil, Nat.mul_zero])
        have HP4 := Lib.hid (show blen (2 ^ p - 1) ≤ 8192 by have := blen_pred p; omega)
        have HP5 := Lib.hid (show val [1] ≤ val (limbs (2 ^ p)) by rw [val_limbs, val_cons, val_nil, Nat.mul_zero]; exact Nat.two_pow_pos p)
        go_wp2_with fail
        obtain ⟨w5, hw⟩ : ∃ z9 : World, z9 = w4.alloc (.cells #[.int .u32 1] 49) := ⟨_, rfl⟩
        have HB5 := Lib.hid (show Below w4.heap.size w4 w5 by rw [hw]; exact below_a1 _ _)
        have F5o := Lib.hid (show Blk w5 w4.heap.size 49 #[.int .u32 1] by rw [hw]; exact Blk.new _ _ _)
        rw [← hw]
        clear hw
        have F5a := Lib.hid (F4a.out.belowW HB5.out)
        have F5t := Lib.hid (F4t.out.belowW HB5.out)
        have F5k := Lib.hid (F4k.out.belowW HB5.out)
        have F5r := Lib.hid (F4r.out.belowW HB5.out)
        have F5x := Lib.hid (F4x.out.belowW HB5.out)
        have HL5 := Lib.hid (HL4.out.trans (HB5.out.mono HL4.out.size))
        have FO := Lib.hid (Sl.one (x := 1) F5o.out (by unfold BB; omega))
        refine (rshl_any (some ⟨w4.heap.size, 0, none⟩) 1 1 [1] p w5 FO.out (by omega) (by omega) (by omega) (by rw [HP1.out]; exact HP2.out)).mono ?_
        rw [HP1.out]
        rintro e w6 ⟨S, sn, rfl, HS, HB6⟩
        have F6a := Lib.hid (F5a.out.belowW HB6.out)
        have F6t := Lib.hid (F5t.out.belowW HB6.out)
        have F6k := Lib.hid (F5k.out.belowW HB6.out)
        have F6r := Lib.hid (F5r.out.belowW HB6.out)
        have F6x := Lib.hid (F5x.out.belowW HB6.out)
        have F6o := Lib.hid (FO.out.belowW HB6.out)
        have HL6 := Lib.hid (HL5.out.trans (HB6.out.mono HL5.out.size))
        have F6s := Lib.hid (HS.out)
        have hsn : sn ≤ 256 := HS.out.lim (by have := HP2.out; omega)
        go_wp2_with fail
        obtain ⟨w7, hw⟩ : ∃ z9 : World, z9 = w6.alloc (.cells #[.int .u32 1] 49) := ⟨_, rfl⟩
        have HB7 := Lib.hid (show Below w6.heap.size w6 w7 by rw [hw]; exact below_a1 _ _)
        have F7o2 := Lib.hid (show Blk w7 w6.heap.size 49 #[.int .u32 1] by rw [hw]; exact Blk.new _ _ _)
        rw [← hw]
        clear hw
        have F7a := Lib.hid (F6a.out.belowW HB7.out)
        have F7t := Lib.hid (F6t.out.belowW HB7.out)
        have F7k := Lib.hid (F6k.out.belowW HB7.out)
        have F7r := Lib.hid (F6r.out.belowW HB7.out)
        have F7x := Lib.hid (F6x.out.belowW HB7.out)
        have F7o := Lib.hid (F6o.out.belowW HB7.out)
        have F7s := Lib.hid (F6s.out.belowW HB7.out)
        have HL7 := Lib.hid (HL6.out.trans (HB7.out.mono HL6.out.size))
        have FO2 := Lib.hid (Sl.one (x := 1) F7o2.out (by unfold BB; omega))
        refine (nSub_sl S (some ⟨w6.heap.size, 0, none⟩) sn sn 1 1 _ [1] w7 F7s.out FO2.out hsn (by omega) HP5.out (by rw [HP3.out]; exact HP4.out)).mono ?_
        rw [HP3.out]
        rintro e w8 ⟨V, vn, rfl, HVv, HB8⟩
        have F8a := Lib.hid (F7a.out.belowW HB8.out)
        have F8t := Lib.hid (F7t.out.belowW HB8.out)
        have F8k := Lib.hid (F7k.out.belowW HB8.out)
        have F8r := Lib.hid (F7r.out.belowW HB8.out)
        have F8x := Lib.hid (F7x.out.belowW HB8.out)
        have F8o := Lib.hid (F7o.out.belowW HB8.out)
        have F8s := Lib.hid (F7s.out.belowW HB8.out)
        have F8o2 := Lib.hid (FO2.out.belowW HB8.out)
        have HL8 := Lib.hid (HL7.out.trans (HB8.out.mono HL7.out.size))
        have F8v := Lib.hid (HVv.out)
        have hvn : vn ≤ 256 := HVv.out.lim (by have := HP4.out; omega)
        go_wp2_with fail
        refine (make_ok' false V vn vn (16384 - p) _ w8 F8v.out F8t.out hvn (by omega) (by omega)).mono ?_
        rw [val_limbs]
        rintro e w9 ⟨M, mn, mc, rfl, HM, HB9⟩
        have F9a := Lib.hid (F8a.out.belowW HB9.out)
        have F9t := Lib.hid (F8t.out.belowW HB9.out)
        have F9k := Lib.hid (F8k.out.belowW HB9.out)
        have F9r := Lib.hid (F8r.out.belowW HB9.out)
        have F9x := Lib.hid (F8x.out.belowW HB9.out)
        have F9o := Lib.hid (F8o.out.belowW HB9.out)
        have F9s := Lib.hid (F8s.out.belowW HB9.out)
        have F9o2 := Lib.hid (F8o2.out.belowW HB9.out)
        have F9v := Lib.hid (F8v.out.belowW HB9.out)
        have HL9 := Lib.hid (HL8.out.trans (HB9.out.mono HL8.out.size))
        have F9m := Lib.hid (HM.out)
        have pr0 : (w9).cell? ⟨w.heap.size + 1, 0, none⟩ = some (.bool false) := F9r.out.cell 0
        have fr0 : (w9).frozen? ⟨w.heap.size + 1, 0, none⟩ = false := F9r.out.frozen 0
        have pr1 : (w9).cell? ⟨w.heap.size + 1, 1, none⟩ = some (.slice none 0 0) := F9r.out.cell 1
        have fr1 : (w9).frozen? ⟨w.heap.size + 1, 1, none⟩ = false := F9r.out.frozen 1
        have pr2 : (w9).cell? ⟨w.heap.size + 1, 2, none⟩ = some (.int .i64 0) := F9r.out.cell 2
        have fr2 : (w9).frozen? ⟨w.heap.size + 1, 2, none⟩ = false := F9r.out.frozen 2
        go_wp2_with fail
        refine bodyPost_ret (v := .tuple #[.agg #[.bool (chk (canon false (2 ^ p - 1) (16384 - p))).1.neg, .slice M mn mc, .int .i64 (chk (canon false (2 ^ p - 1) (16384 - p))).1.e], .int .i64 (chk (canon false (2 ^ p - 1) (16384 - p))).2]) (by simp [results, Tryz.results169, go_sem, pr0, pr1, pr2]) rfl ?_
        rw [HFIN.out]
        exact ⟨M, mn, mc, rfl, Lib.hid (store3_sl F9m.out F9r.out noU3 _ _ _), Lib.hid (store3_below HL9.out F9r.out _ _ _ (by omega))⟩
      · have db : decide (16384 < bq + U) = false := decide_eq_false hbig
        have HFIN := Lib.hid (show cutR (val l) ex false p false = chk (canon false (val l / 2 ^ (U - ex).toNat) U) by rw [HQ.out, if_neg (by rw [HQV.out, HBB.out]; exact hbig), HQV.out])
        have hU2 : U ≤ 16384 := by omega
        clear hbig
        go_wp2_with fail
        refine (make_ok' false X x x U _ w4 F4x.out F4t.out hx9 (by omega) (by omega)).mono ?_
        rw [val_limbs]
        rintro e w5 ⟨M, mn, mc, rfl, HM, HB5⟩
        have F5a := Lib.hid (F4a.out.belowW HB5.out)
        have F5t := Lib.hid (F4t.out.belowW HB5.out)
        have F5k := Lib.hid (F4k.out.belowW HB5.out)
        have F5r := Lib.hid (F4r.out.belowW HB5.out)
        have F5x := Lib.hid (F4x.out.belowW HB5.out)
        have HL5 := Lib.hid (HL4.out.trans (HB5.out.mono HL4.out.size))
        have F5m := Lib.hid (HM.out)
        have pr0 : (w5).cell? ⟨w.heap.size + 1, 0, none⟩ = some (.bool false) := F5r.out.cell 0
        have fr0 : (w5).frozen? ⟨w.heap.size + 1, 0, none⟩ = false := F5r.out.frozen 0
        have pr1 : (w5).cell? ⟨w.heap.size + 1, 1, none⟩ = some (.slice none 0 0) := F5r.out.cell 1
        have fr1 : (w5).frozen? ⟨w.heap.size + 1, 1, none⟩ = false := F5r.out.frozen 1
        have pr2 : (w5).cell? ⟨w.heap.size + 1, 2, none⟩ = some (.int .i64 0) := F5r.out.cell 2
        have fr2 : (w5).frozen? ⟨w.heap.size + 1, 2, none⟩ = false := F5r.out.frozen 2
        go_wp2_with fail
        refine bodyPost_ret (v := .tuple #[.agg #[.bool (chk (canon false (val l / 2 ^ (U - ex).toNat) U)).1.neg, .slice M mn mc, .int .i64 (chk (canon false (val l / 2 ^ (U - ex).toNat) U)).1.e], .int .i64 (chk (canon false (val l / 2 ^ (U - ex).toNat) U)).2]) (by simp [results, Tryz.results169, go_sem, pr0, pr1, pr2]) rfl ?_
        rw [HFIN.out]
        exact ⟨M, mn, mc, rfl, Lib.hid (store3_sl F5m.out F5r.out noU3 _ _ _), Lib.hid (store3_below HL5.out F5r.out _ _ _ (by omega))⟩
    | true =>
      cases lo with
      | false =>
        have HQV := Lib.hid (show cutQ (val l) ex false p true = val l / 2 ^ (U - ex).toNat by unfold cutQ; rw [HU.out, if_neg (by omega), HLO.out]; rfl)
        go_wp2_with fail
        have HBQ := Lib.hid (show blen (val l / 2 ^ (U - ex).toNat) ≤ 513 by have := HSH.out; omega)
        have hx9 : x ≤ 256 := F4x.out.lim (by have := HBQ.out; omega)
        obtain ⟨bq, hbq⟩ : ∃ z : Int, z = (blen (val l / 2 ^ (U - ex).toNat) : Nat) := ⟨_, rfl⟩
        have HBB := Lib.hid hbq.symm
        have hbq0 : 0 ≤ bq := by omega
        have hbq1 : bq ≤ 600 := by have := HBQ.out; omega
        clear hbq
        refine (bits_any X x x _ w4 F4x.out (by omega)).mono ?_
        rw [val_limbs, HBB.out]
        rintro e w' ⟨rfl, rfl⟩
        by_cases hbig : 16384 < bq + U
        · have db : decide (16384 < bq + U) = true := decide_eq_true hbig
          have HFIN := Lib.hid (show cutR (val l) ex false p true = (⟨false, 0, 0⟩, 9) by rw [HQ.out, if_pos (by rw [HQV.out, HBB.out]; exact hbig)]; rfl)
          clear hbig
          have pr0 : (w4).cell? ⟨w.heap.size + 1, 0, none⟩ = some (.bool false) := F4r.out.cell 0
          have fr0 : (w4).frozen? ⟨w.heap.size + 1, 0, none⟩ = false := F4r.out.frozen 0
          have pr1 : (w4).cell? ⟨w.heap.size + 1, 1, none⟩ = some (.slice none 0 0) := F4r.out.cell 1
          have fr1 : (w4).frozen? ⟨w.heap.size + 1, 1, none⟩ = false := F4r.out.frozen 1
          have pr2 : (w4).cell? ⟨w.heap.size + 1, 2, none⟩ = some (.int .i64 0) := F4r.out.cell 2
          have fr2 : (w4).frozen? ⟨w.heap.size + 1, 2, none⟩ = false := F4r.out.frozen 2
          go_wp2_with fail
          refine bodyPost_ret (v := .tuple #[.agg #[.bool false, .slice none 0 0, .int .i64 0], .int .i64 9]) (by simp [results, Tryz.results169, go_sem, pr0, pr1, pr2]) rfl ?_
          rw [HFIN.out]
          exact ⟨none, 0, 0, rfl, Lib.hid (by rw [limbs_zero]; exact Sl.none_ _), Lib.hid (store3_below HL4.out F4r.out _ _ _ (by omega))⟩
        · have db : decide (16384 < bq + U) = false := decide_eq_false hbig
          have HFIN := Lib.hid (show cutR (val l) ex false p true = chk (canon false (val l / 2 ^ (U - ex).toNat) U) by rw [HQ.out, if_neg (by rw [HQV.out, HBB.out]; exact hbig), HQV.out])
          have hU2 : U ≤ 16384 := by omega
          clear hbig
          go_wp2_with fail
          refine (make_ok' false X x x U _ w4 F4x.out F4t.out hx9 (by omega) (by omega)).mono ?_
          rw [val_limbs]
          rintro e w5 ⟨M, mn, mc, rfl, HM, HB5⟩
          have F5a := Lib.hid (F4a.out.belowW HB5.out)
          have F5t := Lib.hid (F4t.out.belowW HB5.out)
          have F5k := Lib.hid (F4k.out.belowW HB5.out)
          have F5r := Lib.hid (F4r.out.belowW HB5.out)
          have F5x := Lib.hid (F4x.out.belowW HB5.out)
          have HL5 := Lib.hid (HL4.out.trans (HB5.out.mono HL4.out.size))
          have F5m := Lib.hid (HM.out)
          have pr0 : (w5).cell? ⟨w.heap.size + 1, 0, none⟩ = some (.bool false) := F5r.out.cell 0
          have fr0 : (w5).frozen? ⟨w.heap.size + 1, 0, none⟩ = false := F5r.out.frozen 0
          have pr1 : (w5).cell? ⟨w.heap.size + 1, 1, none⟩ = some (.slice none 0 0) := F5r.out.cell 1
          have fr1 : (w5).frozen? ⟨w.heap.size + 1, 1, none⟩ = false := F5r.out.frozen 1
          have pr2 : (w5).cell? ⟨w.heap.size + 1, 2, none⟩ = some (.int .i64 0) := F5r.out.cell 2
          have fr2 : (w5).frozen? ⟨w.heap.size + 1, 2, none⟩ = false := F5r.out.frozen 2
          go_wp2_with fail
          refine bodyPost_ret (v := .tuple #[.agg #[.bool (chk (canon false (val l / 2 ^ (U - ex).toNat) U)).1.neg, .slice M mn mc, .int .i64 (chk (canon false (val l / 2 ^ (U - ex).toNat) U)).1.e], .int .i64 (chk (canon false (val l / 2 ^ (U - ex).toNat) U)).2]) (by simp [results, Tryz.results169, go_sem, pr0, pr1, pr2]) rfl ?_
          rw [HFIN.out]
          exact ⟨M, mn, mc, rfl, Lib.hid (store3_sl F5m.out F5r.out noU3 _ _ _), Lib.hid (store3_below HL5.out F5r.out _ _ _ (by omega))⟩
      | true =>
        have HQV := Lib.hid (show cutQ (val l) ex false p true = val l / 2 ^ (U - ex).toNat + 1 by unfold cutQ; rw [HU.out, if_neg (by omega), HLO.out]; rfl)
        go_wp2_with fail
        obtain ⟨w5, hw⟩ : ∃ z9 : World, z9 = w4.alloc (.cells #[.int .u32 1] 49) := ⟨_, rfl⟩
        have HB5 := Lib.hid (show Below w4.heap.size w4 w5 by rw [hw]; exact below_a1 _ _)
        have F5o := Lib.hid (show Blk w5 w4.heap.size 49 #[.int .u32 1] by rw [hw]; exact Blk.new _ _ _)
        rw [← hw]
        clear hw
        have F5a := Lib.hid (F4a.out.belowW HB5.out)
        have F5t := Lib.hid (F4t.out.belowW HB5.out)
        have F5k := Lib.hid (F4k.out.belowW HB5.out)
        have F5r := Lib.hid (F4r.out.belowW HB5.out)
        have F5x := Lib.hid (F4x.out.belowW HB5.out)
        have HL5 := Lib.hid (HL4.out.trans (HB5.out.mono HL4.out.size))
        have FA := Lib.hid (Sl.one (x := 1) F5o.out (by unfold BB; omega))
        have HA1 := Lib.hid (show val (limbs (val l / 2 ^ (U - ex).toNat)) + val [1] = val l / 2 ^ (U - ex).toNat + 1 by rw [val_limbs, val_cons, val_nil, Nat.mul_zero])
        have HA2 := Lib.hid (show blen (val l / 2 ^ (U - ex).toNat + 1) ≤ 8192 by have := blen_succ (val l / 2 ^ (U - ex).toNat); have := HSH.out; omega)
        refine (nAdd_sl X (some ⟨w4.heap.size, 0, none⟩) x x 1 1 _ [1] w5 F5x.out FA.out hx (by omega) (by rw [HA1.out]; exact HA2.out)).mono ?_
        rw [HA1.out]
        rintro e w6 ⟨Y, yn, rfl, HY, HB6⟩
        have F6a := Lib.hid (F5a.out.belowW HB6.out)
        have F6t := Lib.hid (F5t.out.belowW HB6.out)
        have F6k := Lib.hid (F5k.out.belowW HB6.out)
        have F6r := Lib.hid (F5r.out.belowW HB6.out)
        have F6x := Lib.hid (F5x.out.belowW HB6.out)
        have F6o := Lib.hid (FA.out.belowW HB6.out)
        have HL6 := Lib.hid (HL5.out.trans (HB6.out.mono HL5.out.size))
        have F6y := Lib.hid (HY.out)
        go_wp2_with fail
        have HBQ := Lib.hid (show blen (val l / 2 ^ (U - ex).toNat + 1) ≤ 513 by have := blen_succ (val l / 2 ^ (U - ex).toNat); have := HSH.out; omega)
        have hx9 : yn ≤ 256 := F6y.out.lim (by have := HBQ.out; omega)
        obtain ⟨bq, hbq⟩ : ∃ z : Int, z = (blen (val l / 2 ^ (U - ex).toNat + 1) : Nat) := ⟨_, rfl⟩
        have HBB := Lib.hid hbq.symm
        have hbq0 : 0 ≤ bq := by omega
        have hbq1 : bq ≤ 600 := by have := HBQ.out; omega
        clear hbq
        refine (bits_any Y yn yn _ w6 F6y.out (by omega)).mono ?_
        rw [val_limbs, HBB.out]
        rintro e w' ⟨rfl, rfl⟩
        by_cases hbig : 16384 < bq + U
        · have db : decide (16384 < bq + U) = true := decide_eq_true hbig
          have HFIN := Lib.hid (show cutR (val l) ex false p true = (⟨false, 0, 0⟩, 9) by rw [HQ.out, if_pos (by rw [HQV.out, HBB.out]; exact hbig)]; rfl)
          clear hbig
          have pr0 : (w6).cell? ⟨w.heap.size + 1, 0, none⟩ = some (.bool false) := F6r.out.cell 0
          have fr0 : (w6).frozen? ⟨w.heap.size + 1, 0, none⟩ = false := F6r.out.frozen 0
          have pr1 : (w6).cell? ⟨w.heap.size + 1, 1, none⟩ = some (.slice none 0 0) := F6r.out.cell 1
          have fr1 : (w6).frozen? ⟨w.heap.size + 1, 1, none⟩ = false := F6r.out.frozen 1
          have pr2 : (w6).cell? ⟨w.heap.size + 1, 2, none⟩ = some (.int .i64 0) := F6r.out.cell 2
          have fr2 : (w6).frozen? ⟨w.heap.size + 1, 2, none⟩ = false := F6r.out.frozen 2
          go_wp2_with fail
          refine bodyPost_ret (v := .tuple #[.agg #[.bool false, .slice none 0 0, .int .i64 0], .int .i64 9]) (by simp [results, Tryz.results169, go_sem, pr0, pr1, pr2]) rfl ?_
          rw [HFIN.out]
          exact ⟨none, 0, 0, rfl, Lib.hid (by rw [limbs_zero]; exact Sl.none_ _), Lib.hid (store3_below HL6.out F6r.out _ _ _ (by omega))⟩
        · have db : decide (16384 < bq + U) = false := decide_eq_false hbig
          have HFIN := Lib.hid (show cutR (val l) ex false p true = chk (canon false (val l / 2 ^ (U - ex).toNat + 1) U) by rw [HQ.out, if_neg (by rw [HQV.out, HBB.out]; exact hbig), HQV.out])
          have hU2 : U ≤ 16384 := by omega
          clear hbig
          go_wp2_with fail
          refine (make_ok' false Y yn yn U _ w6 F6y.out F6t.out hx9 (by omega) (by omega)).mono ?_
          rw [val_limbs]
          rintro e w7 ⟨M, mn, mc, rfl, HM, HB7⟩
          have F7a := Lib.hid (F6a.out.belowW HB7.out)
          have F7t := Lib.hid (F6t.out.belowW HB7.out)
          have F7k := Lib.hid (F6k.out.belowW HB7.out)
          have F7r := Lib.hid (F6r.out.belowW HB7.out)
          have F7x := Lib.hid (F6x.out.belowW HB7.out)
          have F7o := Lib.hid (F6o.out.belowW HB7.out)
          have F7y := Lib.hid (F6y.out.belowW HB7.out)
          have HL7 := Lib.hid (HL6.out.trans (HB7.out.mono HL6.out.size))
          have F7m := Lib.hid (HM.out)
          have pr0 : (w7).cell? ⟨w.heap.size + 1, 0, none⟩ = some (.bool false) := F7r.out.cell 0
          have fr0 : (w7).frozen? ⟨w.heap.size + 1, 0, none⟩ = false := F7r.out.frozen 0
          have pr1 : (w7).cell? ⟨w.heap.size + 1, 1, none⟩ = some (.slice none 0 0) := F7r.out.cell 1
          have fr1 : (w7).frozen? ⟨w.heap.size + 1, 1, none⟩ = false := F7r.out.frozen 1
          have pr2 : (w7).cell? ⟨w.heap.size + 1, 2, none⟩ = some (.int .i64 0) := F7r.out.cell 2
          have fr2 : (w7).frozen? ⟨w.heap.size + 1, 2, none⟩ = false := F7r.out.frozen 2
          go_wp2_with fail
          refine bodyPost_ret (v := .tuple #[.agg #[.bool (chk (canon false (val l / 2 ^ (U - ex).toNat + 1) U)).1.neg, .slice M mn mc, .int .i64 (chk (canon false (val l / 2 ^ (U - ex).toNat + 1) U)).1.e], .int .i64 (chk (canon false (val l / 2 ^ (U - ex).toNat + 1) U)).2]) (by simp [results, Tryz.results169, go_sem, pr0, pr1, pr2]) rfl ?_
          rw [HFIN.out]
          exact ⟨M, mn, mc, rfl, Lib.hid (store3_sl F7m.out F7r.out noU3 _ _ _), Lib.hid (store3_below HL7.out F7r.out _ _ _ (by omega))⟩

theorem cut_any (A : Option Addr) (n c : Nat) (l : List Nat) (ex : Int) (more up : Bool) (p : Nat) (w : World) (h : Sl w A n c l) (hT : RB w) (hn : n ≤ 256) (h1 : -1000000 ≤ ex) (h2 : ex ≤ 40000) (hp : 8 ≤ p) (hp2 : p ≤ 512) :
    Calls Tryz.prog 169 #[.agg #[.slice A n c, .int .i64 ex, .bool more], .int .i64 p, .bool up] w (DyE (cutR (val l) ex more p up) w) := by
  by_cases hs : cutU (val l) ex p ≤ ex
  · exact cut_L A n c l ex more up p w h hT hn h1 h2 hp hp2 hs
  · exact cut_R A n c l ex more up p w h hT hn h1 h2 hp hp2 (by omega)
end Go.Proofs.YtffdkakogeofmaaGreatDoor
