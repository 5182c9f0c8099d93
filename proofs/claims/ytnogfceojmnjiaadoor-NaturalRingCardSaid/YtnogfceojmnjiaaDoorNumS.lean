/-
  The walk of natural's Text.
-/
import Derived.Test.YtnogfceojmnjiaaDoorNumQ
import Derived.Test.YtnogfceojmnjiaaDoorNumR
import Derived.Lib.OwnBridge
import Derived.Lib.Join
set_option linter.unusedVariables false
namespace Go.Fl.Nm
open Go.Lib Go.RowKit Go.Fl

/-- The k last decimal digits. -/
def fixD : Nat → Nat → List UInt8
  | 0, _ => []
  | k + 1, r => fixD k (r / 10) ++ [UInt8.ofNat (48 + r % 10)]
theorem fix_zero (k : Nat) : fixD k 0 = List.replicate k 48 := by
  induction k with
  | zero => rfl
  | succ k ih => rw [fixD, Nat.zero_div, ih, List.replicate_succ']; rfl
theorem nDigits_le (k : Nat) : ∀ r, r < 10 ^ (k + 1) → nDigits r ≤ k + 1 := by
  induction k with
  | zero => intro r h; rw [nDigits_small (by simpa using h)]; omega
  | succ k ih =>
    intro r h
    by_cases h10 : r < 10
    · rw [nDigits_small h10]; omega
    · rw [nDigits_big h10]
      have := ih (r / 10) (by rw [Nat.div_lt_iff_lt_mul (by omega)]; rw [Nat.pow_succ] at h; exact h)
      omega
theorem nDigits_pos (r : Nat) : 0 < nDigits r := by
  by_cases h10 : r < 10
  · rw [nDigits_small h10]; omega
  · rw [nDigits_big h10]; omega
theorem dec_big {u : Nat} (h : ¬ u < 10) : decDigits u = decDigits (u / 10) ++ [UInt8.ofNat (48 + u % 10)] := by
  rw [decDigits, dif_neg h]
theorem pad_fix (k : Nat) : ∀ r, r < 10 ^ (k + 1) → List.replicate (k + 1 - nDigits r) 48 ++ decDigits r = fixD (k + 1) r := by
  induction k with
  | zero =>
    intro r h
    have h10 : r < 10 := by simpa using h
    rw [nDigits_small h10, decDigits_one h10]
    simp only [fixD]
    rw [Nat.mod_eq_of_lt h10]
    rfl
  | succ k ih =>
    intro r h
    by_cases h10 : r < 10
    · rw [nDigits_small h10, decDigits_one h10, fixD, Nat.div_eq_of_lt h10, fix_zero, Nat.mod_eq_of_lt h10]
      rfl
    · rw [nDigits_big h10, dec_big h10, fixD, ← List.append_assoc]
      have := ih (r / 10) (by rw [Nat.div_lt_iff_lt_mul (by omega)]; rw [Nat.pow_succ] at h; exact h)
      rw [← this]
      congr 3
      omega
theorem dec_split (k : Nat) : ∀ v, 10 ^ k ≤ v → 0 < v / 10 ^ k → decDigits v = decDigits (v / 10 ^ k) ++ fixD k (v % 10 ^ k) := by
  induction k with
  | zero => intro v _ _; simp [fixD]
  | succ k ih =>
    intro v h h0
    have hp : 0 < 10 ^ k := Nat.pow_pos (by omega)
    have h10 : ¬ v < 10 := by
      have : 1 * 10 ≤ 10 ^ k * 10 := Nat.mul_le_mul_right _ hp
      rw [Nat.pow_succ] at h
      omega
    have e1 : v / 10 / 10 ^ k = v / 10 ^ (k + 1) := by rw [Nat.div_div_eq_div_mul, Nat.pow_succ, Nat.mul_comm]
    have e2 : v % 10 ^ (k + 1) / 10 = v / 10 % 10 ^ k := by rw [Nat.pow_succ, Nat.mul_comm, Nat.mod_mul_right_div_self]
    have e3 : v % 10 ^ (k + 1) % 10 = v % 10 := by rw [Nat.pow_succ, Nat.mul_comm, Nat.mod_mul_right_mod]
    rw [dec_big h10, ih (v / 10) (by rw [Nat.le_div_iff_mul_le (by omega)]; rw [Nat.pow_succ] at h; exact h) (by rw [e1]; exact h0), fixD, e1, e2, e3, List.append_assoc]
def decE (v : Nat) : List UInt8 := if v = 0 then [] else decDigits v
/-- A part of the text. -/
def partD (v : Nat) : List UInt8 := if v / 1000000000 = 0 then decDigits (v % 1000000000) else List.replicate (9 - nDigits (v % 1000000000)) 48 ++ decDigits (v % 1000000000)
theorem decE_step (v : Nat) (h : 0 < v) : decE v = decE (v / 1000000000) ++ partD v := by
  unfold decE partD
  rw [if_neg (by omega)]
  by_cases h0 : v / 1000000000 = 0
  · rw [if_pos h0, if_pos h0, Nat.mod_eq_of_lt (by omega)]; rfl
  · rw [if_neg h0, if_neg h0, pad_fix 8 (v % 1000000000) (by have := Nat.mod_lt v (show 0 < 1000000000 by omega); simpa using this)]
    have := dec_split 9 v (by omega) (by simp; omega)
    simpa using this
theorem partD_pos (v : Nat) : 0 < (partD v).length := by
  unfold partD
  have := nDigits_pos (v % 1000000000)
  split <;> simp [decDigits_length] <;> omega
theorem dec_len_le {v n N : Nat} (h : v < BB ^ n) (hn : 32 * n ≤ N + 1) : (decDigits v).length ≤ N + 1 := by
  rw [decDigits_length]
  apply nDigits_le
  rw [BB_pow, ← Nat.pow_mul] at h
  exact Nat.lt_of_lt_of_le h (Nat.le_trans (Nat.pow_le_pow_left (by omega) _) (Nat.pow_le_pow_right (by omega) hn))
theorem flat_len {ps : List (List UInt8)} (h : ∀ p ∈ ps, 0 < p.length) : ps.length ≤ ps.flatten.length := by
  induction ps with
  | nil => simp
  | cons p ps ih =>
    have h1 := h p (by simp)
    have h2 := ih (fun q hq => h q (by simp [hq]))
    rw [List.flatten_cons, List.length_append, List.length_cons]; omega
theorem join_none (ps : List (List UInt8)) : Lib.join ps [] = ps.flatten := by
  cases ps with
  | nil => rfl
  | cons p r =>
    rw [Lib.join_cons]
    simp [Lib.joinTail]
theorem flat_rev_len (ps : List (List UInt8)) : ps.reverse.flatten.length = ps.flatten.length := by
  simp [List.length_flatten]
def strC (ps : List (List UInt8)) : List Value := ps.map fun p => Value.string ⟨p.toArray⟩
theorem ba_cat (a b : List UInt8) : (⟨a.toArray⟩ ++ ⟨b.toArray⟩ : ByteArray) = ⟨(a ++ b).toArray⟩ := by
  apply ByteArray.ext
  simp
theorem Sl.kept4 {w w' : World} {A : Option Addr} {n c : Nat} {l : List Nat} {row : Option Nat} (h : Sl w A n c l) (hg : w.grownBy w' row) (hA : 0 < n → ∀ b o, A = some ⟨b, o, none⟩ → ∀ k, row = some k → k ≠ b) : Sl w' A n c l :=
  ⟨h.1, h.2.1, h.2.2.1, h.2.2.2.1, h.2.2.2.2.1, h.rd.1, fun h0 => by
    obtain ⟨b, off, hAA, hb, hc⟩ := h.rd.2 h0
    refine ⟨b, off, hAA, by have := hg.size; omega, fun j u hu => hg.cell (hc j u hu) ?_⟩
    intro e
    exact hA h0 b off hAA b e.symm rfl⟩
theorem own_below' {w w' : World} {base size n : Nat} {e : TypeId} {v : Value} {xs : List Value} (h : w.ownsRow base e size v n xs) (hb : Below w.heap.size w w') : w'.ownsRow base e size v n xs := by
  have hg : w.grownBy w' none := ⟨hb.os, hb.tape, hb.output, hb.size, fun k hk _ => hb.block k hk⟩
  cases hv : v.ownBlock with
  | none => exact h.kept hg (.inl hv)
  | some k => exact h.kept hg (.inr (by simp [hv]))
end Go.Fl.Nm

namespace Go.Proofs.YtnogfceojmnjiaaDoor
open Go.RowKit Go.Fl Go.Fl.Nm Go.Lib

theorem Tryd.infoStr : (Tryd.prog.info? 9).map (fun i => (i.zero, i.size, i.bytes)) = some (some (.string ⟨#[]⟩), 1, 16) := by kernel_rfl

def TextP (v : Nat) (w : World) (e : Ending) (w' : World) : Prop := e = .returned (.tuple #[.string ⟨(decDigits v).toArray⟩, .int .i64 0]) ∧ Hid (Below w.heap.size w w')
def TextErr (w : World) (e : Ending) (w' : World) : Prop := e = .returned (.tuple #[.string ⟨#[]⟩, .int .i64 9]) ∧ Hid (Below w.heap.size w w')

set_option maxHeartbeats 400000 in
theorem nText_big (A : Option Addr) (n c : Nat) (a : List Nat) (w : World) (ha : Sl w A n c a) (h : 256 < n) :
    Calls Tryd.prog 15 #[.slice A n c] w (TextErr w) := by
  have hnm := ha.max
  have hd : decide (256 < n) = true := by simpa using h
  clear ha
  go_enter Tryd.func15, Tryd.ntmps15
  go_wp2_with fail
  refine (longFn_natural.one A n c _ hnm).mono ?_
  rintro e w1 ⟨rfl, hw1⟩
  rw [hd]
  have HL1 := Lib.hid (show Below w.heap.size w w1 by rw [hw1]; exact (Below.refl _ _).alloc (Nat.le_refl _) _)
  clear hw1
  go_wp2_with fail
  refine bodyPost_ret (v := .tuple #[.string ⟨#[]⟩, .int .i64 9]) (by simp [results, Tryd.results15, go_sem]) rfl ?_
  exact ⟨rfl, HL1⟩

def TextRel (w : World) (V : Nat) (k : Nat) (av pv : Value) (wr : World) : Prop :=
  ∃ (X : Option Addr) (nx cx : Nat) (lx : List Nat) (ps : List (List UInt8)) (m : Nat), av = .slice X nx cx ∧ Hid (Sl wr X nx cx lx) ∧ Hid (val lx = k) ∧ nx ≤ 256 ∧ Hid (tl lx = nx) ∧ Hid (ps.length = m) ∧ m ≤ 8192 ∧
    Hid (wr.ownsRow w.heap.size 9 1 pv m (strC ps)) ∧ Hid (decE k ++ ps.reverse.flatten = decDigits V) ∧ Hid (∀ p ∈ ps, 0 < p.length) ∧ Hid (Below w.heap.size w wr)

set_option maxHeartbeats 1600000 in
set_option maxRecDepth 100000 in
theorem nText_ok (A : Option Addr) (n c : Nat) (a : List Nat) (w : World) (ha : Sl w A n c a) (hn : n ≤ 256) (ht : TB w) :
    Calls Tryd.prog 15 #[.slice A n c] w (TextP (val a) w) := by
  have HA := Lib.hid ha
  have HT := Lib.hid ht
  have hnm := ha.max
  have hd : decide (256 < n) = false := by simp; omega
  have hta := (trim_sl ha).1
  have HA2 := Lib.hid (trim_sl ha).2
  have HVA := Lib.hid (val_trim a)
  have HTT := Lib.hid (tl_take a)
  have HZ := Lib.hid (val_zero_iff (l := a))
  have HLEN := Lib.hid (dec_len_le (N := 8191) (val_lt_tl ha.ok) (by omega))
  generalize hka : tl a = ka at *
  have HKA := Lib.hid hka
  clear ha ht hka
  go_enter Tryd.func15, Tryd.ntmps15
  go_wp2_with fail
  refine (longFn_natural.one A n c _ hnm).mono ?_
  rintro e w1 ⟨rfl, hw1⟩
  rw [hd]
  clear hd
  have HL1 := Lib.hid (show Below w.heap.size w w1 by rw [hw1]; exact (Below.refl _ _).alloc (Nat.le_refl _) _)
  clear hw1
  have HA1 := Lib.hid (HA.out.below HL1.out)
  go_wp2_with fail
  refine (trim_any A n c a w1 HA1.out).mono ?_
  rintro e w1' ⟨rfl, rfl⟩
  rw [HKA.out]
  by_cases hk0 : ka = 0
  · subst hk0
    have HV0 := Lib.hid (HZ.out.2 rfl)
    go_wp2_with fail
    refine bodyPost_ret (v := .tuple #[.string ⟨#[48]⟩, .int .i64 0]) (by simp [results, Tryd.results15, go_sem]) rfl ?_
    refine ⟨?_, HL1⟩
    rw [HV0.out, decDigits_one (by omega)]
    rfl
  · have hkd : ((ka : Int) == 0) = false := by rw [beq_eq_false_iff_ne]; omega
    have HVP := Lib.hid (show 0 < val a from by
      rcases Nat.eq_zero_or_pos (val a) with h | h
      · exact absurd (HZ.out.1 h) hk0
      · exact h)
    clear hk0
    go_wp2_with fail
    go_loopg [0, 4] (val a) (TextRel w (val a))
    case atStart =>
      refine ⟨A, ka, c, _, [], 0, rfl, Lib.hid (HA2.out.below HL1.out), HVA, by omega, HTT, Lib.hid rfl, by omega, Lib.hid ⟨rfl, .inl ⟨rfl, rfl⟩⟩, Lib.hid ?_, Lib.hid (fun p hp => by cases hp), HL1⟩
      unfold decE
      rw [if_neg (by have := HVP.out; omega)]
      simp
    case round =>
      obtain ⟨X, nx, cx, lx, ps, m, rfl, HX, HXV, hnx, HXT, HPL, hm, HOW, HD, HPP, HBL⟩ := hrel
      by_cases h0 : nx = 0
      · subst h0
        have HK0 := Lib.hid (show gk = 0 by rw [← HXV.out]; exact val_zero_iff.2 HXT.out)
        have hfl : ps.reverse.flatten = decDigits (val a) := by
          have := HD.out
          rw [HK0.out] at this
          exact this
        have hps : 0 < m := by
          rcases Nat.eq_zero_or_pos m with h | h
          · have h1 := HPL.out
            rw [h] at h1
            rw [List.eq_nil_of_length_eq_zero h1] at hfl
            have h2 := congrArg List.length hfl
            rw [decDigits_length] at h2
            have h3 := Go.Fl.Nm.nDigits_pos (val a)
            simp at h2
            omega
          · exact h
        obtain ⟨hol, ho⟩ := HOW.out
        rcases ho with ⟨ho1, ho2⟩ | ⟨g, cap, cs, rfl, hg, hB, hcap, hcm, hcs, htk⟩
        · exfalso
          have h1 := HPL.out
          simp [strC] at hol
          omega
        have hB : Blk wr g 9 cs := hB
        have HFL := Lib.hid hfl
        have HH := Lib.hid (show Sort.Holds encStr wr g 0 ps.toArray from fun j hj => by
          have hj' : j < ps.length := by simpa using hj
          refine ⟨?_, hB.frozen _⟩
          rw [hB.cell, Nat.zero_add]
          have h1 : (strC ps)[j]? = some (encStr ps.toArray[j]!) := by
            simp [strC, hj', encStr]
          rw [← htk] at h1
          rw [Nat.mul_one] at h1
          rw [List.getElem?_take] at h1
          split at h1
          · rw [← h1, Array.getElem?_toList]
          · cases h1)
        have hgs := hB.lt
        clear hol hB hcs htk hfl
        have h1 := HPL.out
        subst h1
        go_wp2_with fail
        refine (Tryd.slices_Reverse_string g 0 cap ps wr HH.out (by omega)).mono ?_
        rintro e w2 ⟨rfl, q, hw2⟩
        have HL2 := Lib.hid (show Below w.heap.size w w2 by rw [hw2]; exact below_putRow HBL.out hg)
        have HC2 := Lib.hid (show ∀ (j : Nat) x, (ps.reverse.map fun p => (⟨p.toArray⟩ : ByteArray))[j]? = some x → w2.cell? ⟨g, 0 + j, none⟩ = some (.string x) by
          intro j x hx
          rw [List.getElem?_map, Option.map_eq_some_iff] at hx
          obtain ⟨p, hp, rfl⟩ := hx
          have hjl : j < ps.reverse.length := by
            rcases Nat.lt_or_ge j ps.reverse.length with h | h
            · exact h
            · rw [List.getElem?_eq_none h] at hp; cases hp
          rw [hw2, Sort.cell?_putRow encStr _ g 0 ps.toArray ps.reverse.toArray (show Sort.Holds encStr (Sort.ahead wr q) g 0 ps.toArray from fun j hj => HH.out j hj) (by simp) j (by simpa using hjl)]
          have hg : ps.reverse.toArray[j]! = p := by
            rw [getElem!_def, List.getElem?_toArray, hp]
          rw [hg])
        have hs2 : g < w2.heap.size := by
          have h2 := HC2.out 0
          have h3 : 0 < (ps.reverse.map fun p => (⟨p.toArray⟩ : ByteArray)).length := by simpa using hps
          exact World.block_lt_of_cell? w2 _ (h2 _ (List.getElem?_eq_getElem h3))
        clear hw2
        obtain ⟨xs, hxs⟩ : ∃ xs : List ByteArray, xs = ps.reverse.map fun p => ⟨p.toArray⟩ := ⟨_, rfl⟩
        have HXS := Lib.hid hxs
        rw [← hxs] at HC2
        have hxl : xs.length = ps.length := by rw [hxs]; simp
        have hxj : Lib.join (xs.map (·.data.toList)) (⟨#[]⟩ : ByteArray).data.toList = decDigits (val a) := by
          rw [hxs, ← HFL.out, ← join_none]
          congr 1
          rw [List.map_map]
          exact List.map_id _
        have J := Tryd.strings_Join g 0 cap xs ⟨#[]⟩ w2 HC2.out hs2 (by omega) (by omega) (by rw [hxj]; have := HLEN.out; omega)
        rw [hxl, hxj] at J
        have HJ := Lib.hid J
        clear J hxs hxl hxj
        go_wp2_with fail
        refine HJ.out.mono ?_
        rintro e w3 ⟨rfl, hb3⟩
        have HL3 := Lib.hid (HL2.out.trans (hb3.mono HL2.out.size))
        clear hb3
        go_wp2_with fail
        refine bodyPost_ret (v := .tuple #[.string ⟨(decDigits (val a)).toArray⟩, .int .i64 0]) (by simp [results, Tryd.results15, go_sem]) rfl ?_
        exact ⟨rfl, HL3⟩
      · have hd : decide (0 < nx) = true := by simp; omega
        have hk0 : 0 < gk := by
          rw [← HXV.out]
          rcases Nat.eq_zero_or_pos (val lx) with h | h
          · exact absurd (HXT.out.symm.trans (val_zero_iff.1 h)) h0
          · exact h
        clear h0
        have HST := Lib.hid (decE_step gk hk0)
        go_wp2_with fail
        refine (short_any X nx cx 1000000000 lx wr HX.out (by omega) (by omega) (by omega)).mono ?_
        rw [HXV.out]
        rintro e w2 ⟨Q, cq, lq, rfl, HQ, HQV, HL2⟩
        have hrB : gk % 1000000000 < 1000000000 := Nat.mod_lt _ (by omega)
        have htq := (trim_nw HQ.out).1
        have HTQ := Lib.hid (trim_nw HQ.out).2
        have HTV := Lib.hid (val_trim lq)
        have HTT2 := Lib.hid (tl_take lq)
        have HZ2 := Lib.hid (val_zero_iff (l := lq))
        rw [HQV.out] at HTV HZ2
        generalize hkq : tl lq = kq at *
        have HKQ := Lib.hid hkq
        clear hkq
        have HNE := Lib.hid (show 0 < kq → ∀ b o, Q = some ⟨b, o, none⟩ → ∀ k, u4.ownBlock = some k → k ≠ b from fun h0 b o hQ k hk => by
          obtain ⟨g, cs, hg, hge, _⟩ := HTQ.out.2 h0
          rw [hg] at hQ
          cases hQ
          have := (HOW.out.lt k hk).2
          omega)
        have HT2 := Lib.hid (TB.below (TB.below HT.out HBL.out) HL2.out)
        have HOW2 := Lib.hid (own_below' HOW.out HL2.out)
        have HBL2 := Lib.hid (HBL.out.trans (HL2.out.mono HBL.out.size))
        have hnd1 := Go.Fl.Nm.nDigits_pos (gk % 1000000000)
        have hnd9 := nDigits_le 8 (gk % 1000000000) (by simpa using hrB)
        have HPD := Lib.hid (show partD gk = if gk / 1000000000 = 0 then decDigits (gk % 1000000000) else List.replicate (9 - nDigits (gk % 1000000000)) 48 ++ decDigits (gk % 1000000000) from rfl)
        have HPP2 := Lib.hid (partD_pos gk)
        have HDL := Lib.hid (decDigits_length (gk % 1000000000))
        have HQL := Lib.hid (Nat.div_lt_self hk0 (show 1 < 1000000000 by omega))
        generalize hpd : partD gk = pd at *
        generalize hrr : gk % 1000000000 = r at *
        generalize hqq : gk / 1000000000 = q at *
        have HBND := Lib.hid (show m + 1 ≤ 8192 by
          have h1 := HD.out
          rw [HST.out, List.append_assoc] at h1
          have h2 := congrArg List.length h1
          simp only [List.length_append] at h2
          have h3 := flat_len HPP.out
          rw [← flat_rev_len, HPL.out] at h3
          have h4 := HLEN.out
          have h5 := HPP2.out
          omega)
        clear hpd hrr hqq
        go_wp2_with fail
        refine (trim_any Q nx cq lq w2 HQ.out.sl).mono ?_
        rintro e w2' ⟨rfl, rfl⟩
        rw [HKQ.out]
        go_wp2_with fail
        refine (fmtUint_any r (by omega) w2 HT2.out).mono ?_
        rintro e w3 ⟨rfl, HL3⟩
        have hsz : (⟨(decDigits r).toArray⟩ : ByteArray).size = nDigits r := by rw [← HDL.out]; rfl
        have HOW3 := Lib.hid (own_below' HOW2.out HL3.out)
        have HBL3 := Lib.hid (HBL2.out.trans (HL3.out.mono HBL2.out.size))
        have HTQ3 := Lib.hid (HTQ.out.sl.below HL3.out)
        obtain ⟨nd, hnd⟩ : ∃ nd, nd = nDigits r := ⟨_, rfl⟩
        rw [← hnd] at hsz hnd1 hnd9 HPD
        have HND := Lib.hid hnd
        clear hnd
        by_cases hq0 : kq = 0
        · subst hq0
          have HQ0 := Lib.hid (HZ2.out.2 rfl)
          have HPE := Lib.hid (show decDigits r = pd by rw [HPD.out, if_pos HQ0.out])
          rw [HPE.out] at hsz ⊢
          obtain ⟨i0, ti, tz0, tz1, tz2⟩ := info_parts Tryd.infoStr
          have hbs := HBL3.out.size
          go_wp2_with (at_builtin; refine wpList_append_lies _ rfl _ _ _ rfl w.heap.size 9 i0 _ 1 16 Tryd.underlying44 ti tz0 tz1 tz2 rfl (by omega) u4 m (strC ps) rfl (by exact HOW3.out.alloc _) ⟨w3.heap.size, 0, none⟩ 1 1 [.string ⟨pd.toArray⟩] rfl rfl (by exact World.news_of_block (cs := #[.string ⟨pd.toArray⟩]) (t := 9) (fr := (0, 0)) (by have := heap_alloc_new w3 (.cells #[.string ⟨pd.toArray⟩] 9); simpa using this)) (by simp [Value.oneCell']) (by omega) (by unfold maxLen; omega) (by omega) (by simp; omega) (w3.heap.size + 1) (by simp) ?_)
          intro g cap w4 hown hgrow hat hlt2
          have HO4 := Lib.hid hown
          have HL4 := Lib.hid (show Below w.heap.size w w4 from (HBL3.out.alloc (by omega) _).grown hgrow (by simp; omega) (fun k hk => (HOW3.out.lt k hk).1))
          have HQ4 := Lib.hid ((HTQ3.out.alloc (.cells #[.string ⟨pd.toArray⟩] 9)).kept4 hgrow HNE.out)
          clear hown hgrow hat hlt2 ti tz0 tz1 tz2
          go_wp2_with fail
          go_roundg q
          case measure => exact HQL.out
          case rel =>
            refine ⟨Q, 0, cq, _, ps ++ [pd], m + 1, rfl, HQ4, HTV, by omega, HTT2, Lib.hid (by rw [List.length_append, HPL.out]; rfl), HBND.out, Lib.hid ?_, Lib.hid ?_, Lib.hid ?_, HL4⟩
            · have := HO4.out
              unfold strC at this ⊢
              rw [List.map_append]
              exact this
            · have := HD.out
              rw [HST.out] at this
              rw [List.reverse_append, List.reverse_singleton, List.flatten_append, List.flatten_singleton, ← List.append_assoc]
              exact this
            · intro p hp
              rcases List.mem_append.1 hp with h | h
              · exact HPP.out p h
              · rw [List.mem_singleton.1 h]; exact HPP2.out
        · have hqd : decide (0 < kq) = true := by simp; omega
          have HPE := Lib.hid (show repeatL (⟨#[48]⟩ : ByteArray).data.toList (9 - nd) ++ decDigits r = pd by
            rw [HPD.out, if_neg (fun h => hq0 (HZ2.out.1 h))]
            congr 1
            have := repeatL_replicate 48 1 (9 - nd)
            simpa using this)
          have R := Tryd.strings_Repeat ⟨#[48]⟩ (9 - nd) w3 (by omega) (by simp [ByteArray.size]; omega)
          rw [show ((9 - nd : Nat) : Int) = 9 - (nd : Int) by omega] at R
          have HR := Lib.hid R
          clear R hq0
          go_wp2_with fail
          refine HR.out.mono ?_
          rintro e w5 ⟨rfl, hb5⟩
          have HOW5 := Lib.hid (own_below' HOW3.out hb5)
          have HBL5 := Lib.hid (HBL3.out.trans (hb5.mono HBL3.out.size))
          have HTQ5 := Lib.hid (HTQ3.out.below hb5)
          have hcat := ba_cat (repeatL [48] (9 - nd)) (decDigits r)
          rw [show repeatL [48] (9 - nd) ++ decDigits r = pd from HPE.out] at hcat
          have hsz2 : (⟨(repeatL [48] (9 - nd)).toArray⟩ : ByteArray).size = 9 - nd := by
            have := repeatL_length [48] (9 - nd)
            simpa [ByteArray.size] using this
          clear hb5
          obtain ⟨i0, ti, tz0, tz1, tz2⟩ := info_parts Tryd.infoStr
          have hbs := HBL5.out.size
          go_wp2_with (at_builtin; refine wpList_append_lies _ rfl _ _ _ rfl w.heap.size 9 i0 _ 1 16 Tryd.underlying44 ti tz0 tz1 tz2 rfl (by omega) u4 m (strC ps) rfl (by exact HOW5.out.alloc _) ⟨w5.heap.size, 0, none⟩ 1 1 [.string ⟨pd.toArray⟩] rfl rfl (by exact World.news_of_block (cs := #[.string ⟨pd.toArray⟩]) (t := 9) (fr := (0, 0)) (by have := heap_alloc_new w5 (.cells #[.string ⟨pd.toArray⟩] 9); simpa using this)) (by simp [Value.oneCell']) (by omega) (by unfold maxLen; omega) (by omega) (by simp; omega) (w5.heap.size + 1) (by simp) ?_)
          intro g cap w4 hown hgrow hat hlt2
          have HO4 := Lib.hid hown
          have HL4 := Lib.hid (show Below w.heap.size w w4 from (HBL5.out.alloc (by omega) _).grown hgrow (by simp; omega) (fun k hk => (HOW5.out.lt k hk).1))
          have HQ4 := Lib.hid ((HTQ5.out.alloc (.cells #[.string ⟨pd.toArray⟩] 9)).kept4 hgrow HNE.out)
          clear hown hgrow hat hlt2 ti tz0 tz1 tz2
          go_wp2_with fail
          go_roundg q
          case measure => exact HQL.out
          case rel =>
            refine ⟨Q, kq, cq, _, ps ++ [pd], m + 1, rfl, HQ4, HTV, by omega, HTT2, Lib.hid (by rw [List.length_append, HPL.out]; rfl), HBND.out, Lib.hid ?_, Lib.hid ?_, Lib.hid ?_, HL4⟩
            · have := HO4.out
              unfold strC at this ⊢
              rw [List.map_append]
              exact this
            · have := HD.out
              rw [HST.out] at this
              rw [List.reverse_append, List.reverse_singleton, List.flatten_append, List.flatten_singleton, ← List.append_assoc]
              exact this
            · intro p hp
              rcases List.mem_append.1 hp with h | h
              · exact HPP.out p h
              · rw [List.mem_singleton.1 h]; exact HPP2.out
end Go.Proofs.YtnogfceojmnjiaaDoor
