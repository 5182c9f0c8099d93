/-
  The walk of take.
-/
import Derived.Test.YtnogfceojmnjiaaDoorNumK
set_option linter.unusedVariables false
namespace Go.Fl.Nm
open Go.RowKit Go.Fl

theorem and_mask64 (x : Nat) (h : x < 18446744073709551616) : bits .and .u64 (x : Int) 4294967295 = ((x % 4294967296 : Nat) : Int) := by
  have := bits_mask .u64 64 (by decide) (fun n h0 h1 => by simp [IntKind.wrap, IntKind.bits, IntKind.signed]; omega) 32 (by decide) (x : Int) (by omega) (by omega)
  have e : ((2 : Int) ^ 32 - 1) = 4294967295 := by decide
  rw [e] at this
  rw [this]; omega
/-- A step of take: what is left of a limb, and what is borrowed. -/
theorem take_limb (o m b : Nat) (ho : o < BB) (hm : m < BB) (hb : b ≤ 1) : ∃ d r : Nat, d < BB ∧ r ≤ 1 ∧ d + m + b = o + BB * r ∧
    IntKind.u64.wrap (IntKind.u64.wrap ((o : Int) - m) - b) % 4294967296 = d ∧ IntKind.u64.wrap (IntKind.u64.wrap ((o : Int) - m) - b) / 9223372036854775808 = r := by
  have hw : ∀ x : Int, IntKind.u64.wrap x = x % 18446744073709551616 := fun x => by simp [IntKind.wrap, IntKind.bits, IntKind.signed]
  rw [hw, hw]
  unfold BB at *
  by_cases h : o < m + b
  · exact ⟨o + 4294967296 - m - b, 1, by omega, by omega, by omega, by omega, by omega⟩
  · exact ⟨o - m - b, 0, by omega, by omega, by omega, by omega, by omega⟩
theorem take_step {us l v : List Nat} {i j n q y o cc bb d r : Nat} (hl : l.length = us.length) (hok : ok l) (hj : j + n < us.length) (hi : i < n)
    (hv : val l + BB ^ j * (q * val (v.take i)) = val us + BB ^ (j + i) * (cc + bb)) (hk : ∀ x, x < j ∨ j + i ≤ x → l[x]? = us[x]?)
    (hy : val (v.take (i + 1)) = val (v.take i) + BB ^ i * y) (ho : l[j + i]? = some o) (hd : d < BB) (he : d + (q * y + cc) % BB + bb = o + BB * r) :
    (l.set (j + i) d).length = us.length ∧ ok (l.set (j + i) d) ∧ val (l.set (j + i) d) + BB ^ j * (q * val (v.take (i + 1))) = val us + BB ^ (j + (i + 1)) * ((q * y + cc) / BB + r) ∧
      (∀ x, x < j ∨ j + (i + 1) ≤ x → (l.set (j + i) d)[x]? = us[x]?) := by
  refine ⟨by simp [hl], ok_set hok _ _ hd, ?_, fun x hx => by rw [at_set_ne _ (by omega)]; exact hk x (by omega)⟩
  have h1 := val_set d ho
  rw [hy, ← Nat.add_assoc j i 1, Nat.pow_succ, Nat.mul_assoc (BB ^ (j + i))]
  have e2 : BB ^ j * (q * (val (v.take i) + BB ^ i * y)) = BB ^ j * (q * val (v.take i)) + BB ^ (j + i) * (q * y) := by
    rw [Nat.mul_add q, Nat.mul_add, Nat.pow_add, Nat.mul_left_comm q, Nat.mul_assoc (BB ^ j)]
  rw [e2]
  have e3 : BB ^ (j + i) * (d + (q * y + cc) % BB + bb) = BB ^ (j + i) * (o + BB * r) := by rw [he]
  have e4 : BB ^ (j + i) * (q * y + cc) = BB ^ (j + i) * ((q * y + cc) % BB) + BB ^ (j + i) * (BB * ((q * y + cc) / BB)) := by rw [← Nat.mul_add, Nat.mod_add_div]
  simp only [Nat.mul_add] at e3 e4 h1 hv ⊢
  omega
theorem take_end {us l v : List Nat} {j n q o cc bb d r : Nat} (hl : l.length = us.length) (hok : ok l) (hj : j + n < us.length)
    (hv : val l + BB ^ j * (q * val v) = val us + BB ^ (j + n) * (cc + bb)) (hk : ∀ x, x < j ∨ j + n ≤ x → l[x]? = us[x]?)
    (ho : l[j + n]? = some o) (hd : d < BB) (he : d + cc + bb = o + BB * r) :
    (l.set (j + n) d).length = us.length ∧ ok (l.set (j + n) d) ∧ val (l.set (j + n) d) + BB ^ j * (q * val v) = val us + BB ^ (j + n + 1) * r ∧
      (∀ x, x < j ∨ j + n < x → (l.set (j + n) d)[x]? = us[x]?) := by
  refine ⟨by simp [hl], ok_set hok _ _ hd, ?_, fun x hx => by rw [at_set_ne _ (by omega)]; exact hk x (by omega)⟩
  have h1 := val_set d ho
  rw [Nat.pow_succ, Nat.mul_assoc (BB ^ (j + n))]
  have e3 : BB ^ (j + n) * (d + cc + bb) = BB ^ (j + n) * (o + BB * r) := by rw [he]
  simp only [Nat.mul_add] at e3 h1 hv ⊢
  omega
theorem grown_setCell (w : World) (g i : Nat) (v : Value) : w.grownBy (w.setCell ⟨g, i, none⟩ v) (some g) :=
  ⟨rfl, rfl, rfl, by simp [World.setCell], fun k _ hk => Below.heap_setCell w ⟨g, i, none⟩ v k (fun e => hk (by rw [e]))⟩
theorem grown_trans {a b c : World} {row : Option Nat} (h1 : a.grownBy b row) (h2 : b.grownBy c row) : a.grownBy c row :=
  ⟨h2.os.trans h1.os, h2.tape.trans h1.tape, h2.output.trans h1.output, Nat.le_trans h1.size h2.size, fun k hk hr => (h2.block k (by have := h1.size; omega) hr).trans (h1.block k hk hr)⟩
theorem grown_refl (w : World) (row : Option Nat) : w.grownBy w row := World.grownBy.refl w row
end Go.Fl.Nm

namespace Go.Proofs.YtnogfceojmnjiaaDoor
open Go.RowKit Go.Fl Go.Fl.Nm

def TakePost (w : World) (g j n q : Nat) (us v : List Nat) (e : Ending) (w' : World) : Prop :=
  ∃ (us' : List Nat) (r : Nat), e = .returned (.bool (decide (r = 1))) ∧ r ≤ 1 ∧ Hid (us'.length = us.length) ∧ Hid (ok us') ∧ Hid (Blk w' g tU (UA us')) ∧
    Hid (val us' + BB ^ j * (q * val v) = val us + BB ^ (j + n + 1) * r) ∧ Hid (∀ x, x < j ∨ j + n < x → us'[x]? = us[x]?) ∧ Hid (w.grownBy w' (some g))
def TakeRel (w : World) (g j n q : Nat) (us v : List Nat) (k : Nat) (cv bv iv : Value) (wr : World) : Prop :=
  ∃ (i cc bb : Nat) (l : List Nat), iv = .int .i64 i ∧ cv = .int .u64 cc ∧ bv = .int .u64 bb ∧ cc < 4294967296 ∧ bb ≤ 1 ∧ i ≤ n ∧ k = n - i ∧ Hid (l.length = us.length) ∧ Hid (ok l) ∧ Hid (Blk wr g tU (UA l)) ∧
    Hid (val l + BB ^ j * (q * val (v.take i)) = val us + BB ^ (j + i) * (cc + bb)) ∧ Hid (∀ x, x < j ∨ j + i ≤ x → l[x]? = us[x]?) ∧ Hid (w.grownBy wr (some g))

set_option maxHeartbeats 800000 in
set_option maxRecDepth 100000 in
theorem take_any (g j n C d q : Nat) (B : Option Addr) (us v : List Nat) (w : World) (hB : Blk w g tU (UA us)) (hok : ok us) (hj : j + n < us.length) (hul : us.length ≤ 200000) (hv : Sl w B n d v)
    (hne : ∀ b o, B = some ⟨b, o, none⟩ → b ≠ g) (hq : q < 4294967296) :
    Calls Tryd.prog 40 #[.slice (some ⟨g, j, none⟩) (n + 1) C, .slice B n d, .int .u64 q] w (TakePost w g j n q us v) := by
  have HV := Lib.hid hv
  have HNE := Lib.hid hne
  have HB := Lib.hid hB
  have HOK0 := Lib.hid hok
  have hjn : j + n < 200000 := by omega
  have HJ := Lib.hid hj
  clear hv hne hB hok hj hul
  go_enter Tryd.func40, Tryd.ntmps40
  go_wp2_with fail
  go_loopg [7, 8, 16] n (TakeRel w g j n q us v)
  case atStart => exact ⟨0, 0, 0, us, rfl, rfl, rfl, by omega, by omega, by omega, rfl, Lib.hid rfl, HOK0, HB, Lib.hid (by simp [val_nil]), Lib.hid (fun _ _ => rfl), Lib.hid (grown_refl _ _)⟩
  case round =>
    obtain ⟨i, cc, bb, l, rfl, rfl, rfl, hcc, hbb, hi, rfl, HLEN, HOK, HBK, HVV, HKK, HGR⟩ := hrel
    by_cases hin : i < n
    · obtain ⟨b1, o1, y, hA, hb1, hy, hyB, hcell1⟩ := HV.out.at_ hin
      subst hA
      have hc1 : wr.cell? ⟨b1, o1 + i, none⟩ = some (.int .u32 y) := HGR.out.cell hcell1 (by
        intro h
        injection h with h
        exact HNE.out b1 o1 rfl h)
      obtain ⟨o, ho⟩ : ∃ o, l[j + i]? = some o := ⟨_, List.getElem?_eq_getElem (by have := HJ.out; rw [HLEN.out]; omega)⟩
      have hoB := ok_at HOK.out ho
      have hg1 : wr.cell? ⟨g, j + i, none⟩ = some (.int .u32 o) := blkU_cell HBK.out ho
      have hg2 : wr.frozen? ⟨g, j + i, none⟩ = false := HBK.out.frozen _
      unfold BB at hyB
      obtain ⟨p1, p2, p3⟩ := mul_bd hq hyB
      have HPD := Lib.hid p3
      have hS64 : q * y + cc < 18446744073709551616 := by omega
      obtain ⟨dd, r, hd, hr, he, h32, h63⟩ := take_limb o ((q * y + cc) % BB) bb hoB (Nat.mod_lt _ BB_pos) hbb
      have HS := Lib.hid (take_step HLEN.out HOK.out HJ.out hin HVV.out HKK.out (val_take_succ hy) ho hd he)
      have hand := and_mask64 (q * y + cc) hS64
      have hSi : (q : Int) * y + cc = ((q * y + cc : Nat) : Int) := by simp
      have hlow : q * y + cc ≤ 18446744069414584320 := by omega
      have HM := Lib.hid (show (q * y + cc) % BB = (q * y + cc) % 4294967296 from rfl)
      rw [HM.out] at h32 h63
      have HY := Lib.hid hy
      clear hcell1 hy ho he HM
      generalize hS : q * y + cc = S at *
      have HSS := Lib.hid hS
      clear hS
      unfold BB at hoB hd
      generalize hm : S % 4294967296 = m at *
      have hmB : m < 4294967296 := by omega
      have HM := Lib.hid hm
      clear hm
      have H32 := Lib.hid h32
      have H63 := Lib.hid h63
      clear h32 h63 p3 hS64
      go_wp2_with fail
      go_roundg (n - (i + 1))
      case measure => omega
      case rel =>
        refine ⟨i + 1, S / BB, r, l.set (j + i) dd, by go_num, by unfold BB; simp, by rw [H63.out], by unfold BB; omega, hr, by omega, rfl, Lib.hid HS.out.1, Lib.hid HS.out.2.1, Lib.hid ?_, Lib.hid HS.out.2.2.1, Lib.hid HS.out.2.2.2, Lib.hid (grown_trans HGR.out (grown_setCell _ _ _ _))⟩
        rw [H32.out]
        exact blkU_set HBK.out _ dd
    · obtain rfl : i = n := by omega
      obtain ⟨o, ho⟩ : ∃ o, l[j + i]? = some o := ⟨_, List.getElem?_eq_getElem (by have := HJ.out; rw [HLEN.out]; omega)⟩
      have hoB := ok_at HOK.out ho
      have hg1 : wr.cell? ⟨g, j + i, none⟩ = some (.int .u32 o) := blkU_cell HBK.out ho
      have hg2 : wr.frozen? ⟨g, j + i, none⟩ = false := HBK.out.frozen _
      obtain ⟨dd, r, hd, hr, he, h32, h63⟩ := take_limb o cc bb hoB hcc hbb
      have HVE := HVV
      rw [List.take_of_length_le (by rw [HV.out.len]; omega)] at HVE
      have HS := Lib.hid (take_end HLEN.out HOK.out HJ.out HVE.out HKK.out ho hd he)
      have H32 := Lib.hid h32
      have H63 := Lib.hid h63
      clear ho he h32 h63
      unfold BB at hoB hd
      go_wp2_with fail
      go_ret
      refine ⟨l.set (j + i) dd, r, ret_bool ?_, hr, Lib.hid HS.out.1, Lib.hid HS.out.2.1, Lib.hid ?_, Lib.hid HS.out.2.2.1, Lib.hid HS.out.2.2.2, Lib.hid (grown_trans HGR.out (grown_setCell _ _ _ _))⟩
      · rw [H63.out, Bool.eq_iff_iff]
        simp
        omega
      · rw [H32.out]
        exact blkU_set HBK.out _ dd
end Go.Proofs.YtnogfceojmnjiaaDoor
