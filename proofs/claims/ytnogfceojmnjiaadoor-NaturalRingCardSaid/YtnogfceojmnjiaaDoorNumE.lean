/-
  New slices of limbs; the walk of add.
-/
import Derived.Test.YtnogfceojmnjiaaDoorNumD
import Derived.Laws.MakeOwn
namespace Go.Fl.Nm
open Go.RowKit Go.Fl

/-- The cells of a block that holds just the limbs l. -/
def UA (l : List Nat) : Array Value := (U l).toArray
theorem UA_size (l : List Nat) : (UA l).size = l.length := by simp [UA, U]
theorem UA_at (l : List Nat) (i x : Nat) (h : l[i]? = some x) : (UA l)[i]? = some (.int .u32 x) := by
  unfold UA; rw [List.getElem?_toArray]; exact U_at l i x h
theorem UA_set (l : List Nat) (i x : Nat) : (UA l).setIfInBounds i (.int .u32 x) = UA (l.set i x) := by
  unfold UA; rw [U_set]; simp
def zeros (n : Nat) : List Nat := List.replicate n 0
theorem zeros_len (n : Nat) : (zeros n).length = n := by simp [zeros]
theorem zeros_at (n j : Nat) (h : j < n) : (zeros n)[j]? = some 0 := by simp [zeros, h]
theorem made_zeros (n : Nat) : madeCells (Value.int .u32 0).cells (n * 1) = UA (zeros n) := by
  apply Array.ext_getElem?
  intro i
  unfold madeCells UA U zeros
  by_cases h : i < n
  · simp [Value.cells, h, Nat.mod_one]
  · simp [h]
theorem blkU_cell {w : World} {g : Nat} {t : TypeId} {l : List Nat} (h : Blk w g t (UA l)) {i x : Nat} (hx : l[i]? = some x) : w.cell? ⟨g, i, none⟩ = some (.int .u32 x) := (h.cell i).trans (UA_at l i x hx)
theorem blkU_set {w : World} {g : Nat} {t : TypeId} {l : List Nat} (h : Blk w g t (UA l)) (i x : Nat) : Blk (w.setCell ⟨g, i, none⟩ (.int .u32 x)) g t (UA (l.set i x)) := by
  rw [h.setCell_eq, UA_set]; exact h.put _
theorem setCell_size (w : World) (a : Addr) (v : Value) : (w.setCell a v).heap.size = w.heap.size := by simp [World.setCell]
theorem at_set_ne {α : Type} {l : List α} {i j : Nat} (x : α) (h : i ≠ j) : (l.set i x)[j]? = l[j]? := by rw [List.getElem?_set_ne h]
theorem val_set {l : List Nat} {j o : Nat} (z : Nat) (h : l[j]? = some o) : val (l.set j z) + BB ^ j * o = val l + BB ^ j * z := by
  induction l generalizing j with
  | nil => simp at h
  | cons x l ih =>
    cases j with
    | zero => simp at h; subst h; simp [val_cons]; omega
    | succ j =>
      simp only [List.getElem?_cons_succ] at h
      have := ih h
      simp only [List.set_cons_succ, val_cons, Nat.pow_succ]
      have e1 : BB ^ j * BB * o = BB * (BB ^ j * o) := by rw [Nat.mul_comm (BB ^ j) BB, Nat.mul_assoc]
      have e2 : BB ^ j * BB * z = BB * (BB ^ j * z) := by rw [Nat.mul_comm (BB ^ j) BB, Nat.mul_assoc]
      have e3 : BB * (val (l.set j z) + BB ^ j * o) = BB * (val l + BB ^ j * z) := by rw [this]
      rw [Nat.mul_add, Nat.mul_add] at e3
      rw [e1, e2]; omega
theorem val_set0 {l : List Nat} {j : Nat} (z : Nat) (h : l[j]? = some 0) : val (l.set j z) = val l + BB ^ j * z := by
  have := val_set z h; simpa using this

/-- A slice in a block from 'base' on, at the block's head, that nothing else names. -/
def Nw (w : World) (t : TypeId) (base : Nat) (A : Option Addr) (n c : Nat) (l : List Nat) : Prop :=
  Sl w A n c l ∧ (0 < n → ∃ (g : Nat) (cs : Array Value), A = some ⟨g, 0, none⟩ ∧ base ≤ g ∧ Blk w g t cs)
theorem Nw.sl {w : World} {t : TypeId} {base : Nat} {A : Option Addr} {n c : Nat} {l : List Nat} (h : Nw w t base A n c l) : Sl w A n c l := h.1
theorem Nw.cut {w : World} {t : TypeId} {base : Nat} {A : Option Addr} {n c : Nat} {l : List Nat} (h : Nw w t base A n c l) {m c' : Nat} (hm : m ≤ n) (hc : m ≤ c') (hc' : c' ≤ maxLen) (hn : A = none → c' = 0) : Nw w t base A m c' (l.take m) :=
  ⟨h.1.cut hm hc hc' hn, fun h0 => h.2 (by omega)⟩
theorem Nw.below {w w' : World} {t : TypeId} {base : Nat} {A : Option Addr} {n c : Nat} {l : List Nat} (h : Nw w t base A n c l) (hb : Below w.heap.size w w') : Nw w' t base A n c l :=
  ⟨h.1.below hb, fun h0 => by
    obtain ⟨g, cs, hA, hg, hB⟩ := h.2 h0
    exact ⟨g, cs, hA, hg, hB.below hb hB.lt⟩⟩
theorem Nw.base {w : World} {t : TypeId} {base base' : Nat} {A : Option Addr} {n c : Nat} {l : List Nat} (h : Nw w t base A n c l) (hb : base' ≤ base) : Nw w t base' A n c l :=
  ⟨h.1, fun h0 => by
    obtain ⟨g, cs, hA, hg, hB⟩ := h.2 h0
    exact ⟨g, cs, hA, by omega, hB⟩⟩
theorem Nw.alloc {w : World} {t : TypeId} {base : Nat} {A : Option Addr} {n c : Nat} {l : List Nat} (h : Nw w t base A n c l) (o : Obj) : Nw (w.alloc o) t base A n c l :=
  ⟨h.1.alloc o, fun h0 => by
    obtain ⟨g, cs, hA, hg, hB⟩ := h.2 h0
    exact ⟨g, cs, hA, hg, hB.alloc o⟩⟩
theorem Nw.none_ (w : World) (t : TypeId) (base : Nat) : Nw w t base none 0 0 [] := ⟨Sl.none_ w, fun h => absurd h (by omega)⟩
/-- Out of a block that is known whole. -/
theorem Nw.of_blk {w : World} {t : TypeId} {base g n : Nat} {l : List Nat} (hB : Blk w g t (UA l)) (hok : ok l) (hg : base ≤ g) (hn : l.length = n) (hm : n ≤ maxLen) : Nw w t base (some ⟨g, 0, none⟩) n n l :=
  ⟨⟨hn, hok, Nat.le_refl _, hm, fun h => (by cases h), by rw [U_len, hn]; omega, fun _ => ⟨g, 0, rfl, hB.lt, fun j u hu => by
    rw [Nat.zero_add, hB.cell]
    unfold UA
    rw [List.getElem?_toArray]; exact hu⟩⟩, fun _ => ⟨g, _, rfl, hg, hB⟩⟩
end Go.Fl.Nm

namespace Go.Proofs.YtnogfceojmnjiaaDoor
open Go.RowKit Go.Fl Go.Fl.Nm

/-- The element type of the new slices. -/
abbrev tU : TypeId := 30
theorem Tryd.infoU32 : (Tryd.prog.info? 30).map (fun i => (i.zero, i.size, i.bytes)) = some (some (.int .u32 0), 1, 4) := by kernel_rfl
theorem make_u32 (n c : Nat) (N C : Int) (hN : N = n) (hC : C = c) (hnc : n ≤ c) (hc : c ≤ 1000000) (w : World) : (Instr.makeSlice 22 (.int .i64 N) (.int .i64 C)).run Tryd.prog w = .ok (.slice (some ⟨w.heap.size, 0, none⟩) n c) (w.alloc (.cells (UA (zeros c)) 30)) := by
  subst hN hC
  obtain ⟨i0, hi, hz0, hz1, hz2⟩ := info_parts Tryd.infoU32
  have := run_make (P := Tryd.prog) w 22 30 i0 _ Tryd.underlying22 hi hz0 .i64 .i64 n c (by omega) (by omega) (by rw [hz2]; omega) (by omega)
  rw [this, hz1, Int.toNat_natCast, Int.toNat_natCast, made_zeros]

/-- A new slice with the value v, of at most N limbs. -/
def Fv (N v : Nat) (w : World) (e : Ending) (w' : World) : Prop :=
  ∃ (A : Option Addr) (n c : Nat) (l : List Nat), e = .returned (.slice A n c) ∧ Hid (Nw w' tU w.heap.size A n c l) ∧ Hid (val l = v) ∧ n ≤ N ∧ Hid (Below w.heap.size w w')

def AddRel (w : World) (g n : Nat) (a b : List Nat) (k : Nat) (cv iv : Value) (wr : World) : Prop :=
  ∃ (i cc : Nat) (l : List Nat), iv = .int .i64 i ∧ cv = .int .u32 cc ∧ cc ≤ 1 ∧ i ≤ n ∧ k = n - i ∧ Hid (l.length = n + 1) ∧ Hid (ok l) ∧ Hid (Blk wr g tU (UA l)) ∧
    Hid (val l + BB ^ i * cc = val (a.take i) + val (b.take i)) ∧ Hid (∀ j, i ≤ j → j < n + 1 → l[j]? = some 0) ∧ Hid (Below w.heap.size w wr)

theorem add_step {l a b : List Nat} {i n x y cc : Nat} (hl : l.length = n + 1) (hok : ok l) (hi : i < n) (hv : val l + BB ^ i * cc = val (a.take i) + val (b.take i)) (hz : ∀ j, i ≤ j → j < n + 1 → l[j]? = some 0)
    (ha : val (a.take (i + 1)) = val (a.take i) + BB ^ i * x) (hb : val (b.take (i + 1)) = val (b.take i) + BB ^ i * y) :
    (l.set i ((x + y + cc) % BB)).length = n + 1 ∧ ok (l.set i ((x + y + cc) % BB)) ∧ val (l.set i ((x + y + cc) % BB)) + BB ^ (i + 1) * ((x + y + cc) / BB) = val (a.take (i + 1)) + val (b.take (i + 1)) ∧
      (∀ j, i + 1 ≤ j → j < n + 1 → (l.set i ((x + y + cc) % BB))[j]? = some 0) := by
  refine ⟨by simp [hl], ok_set hok _ _ (Nat.mod_lt _ BB_pos), ?_, fun j h1 h2 => by rw [at_set_ne _ (by omega)]; exact hz j (by omega) h2⟩
  rw [val_set0 _ (hz i (by omega) (by omega)), ha, hb, Nat.pow_succ, Nat.mul_assoc]
  have e : BB ^ i * (x + y + cc) = BB ^ i * ((x + y + cc) % BB) + BB ^ i * (BB * ((x + y + cc) / BB)) := by rw [← Nat.mul_add, Nat.mod_add_div]
  simp only [Nat.mul_add] at e ⊢
  omega

set_option maxHeartbeats 800000 in
set_option maxRecDepth 100000 in
/-- add, the first number being no shorter. -/
theorem add_ge (A B : Option Addr) (n c m d : Nat) (a b : List Nat) (w : World) (ha : Sl w A n c a) (hb : Sl w B m d b) (hmn : m ≤ n) (hn : n ≤ 100000) :
    Calls Tryd.prog 19 #[.slice A n c, .slice B m d] w (Fv (n + 1) (val a + val b) w) := by
  have HA := Lib.hid ha
  have HB := Lib.hid hb
  clear ha hb
  have hlt : decide (n < m) = false := by simp; omega
  have hmk := make_u32 (n + 1) (n + 1) ((n : Int) + 1) ((n : Int) + 1) (by omega) (by omega) (by omega) (by omega)
  have HB0 := Lib.hid (Blk.new w tU (UA (zeros (n + 1))))
  have HL0 := Lib.hid ((Below.refl w.heap.size w).alloc (Nat.le_refl _) (.cells (UA (zeros (n + 1))) tU))
  go_enter Tryd.func19, Tryd.ntmps19
  go_wp2_with fail
  clear hmk
  go_loopg [6, 23] n (AddRel w w.heap.size n a b)
  case atStart => exact ⟨0, 0, zeros (n + 1), rfl, rfl, by omega, by omega, rfl, Lib.hid (zeros_len _), Lib.hid (ok_zeros _), HB0, Lib.hid (by simp [val_nil, zeros, val_zeros]), Lib.hid (fun j _ h => zeros_at _ j h), HL0⟩
  case round =>
    obtain ⟨i, cc, l, rfl, rfl, hcc, hi, rfl, HLEN, HOK, HBK, HV, HZ, HBL⟩ := hrel
    by_cases hin : i < n
    · obtain ⟨b1, o1, x, hA, hb1, hx, hxB, hcell1⟩ := HA.out.at_ hin
      subst hA
      have hc1 : wr.cell? ⟨b1, o1 + i, none⟩ = some (.int .u32 x) := (HBL.out.cell (p := ⟨b1, _, none⟩) hb1).trans hcell1
      have HX := Lib.hid hx
      clear hcell1 hx
      unfold BB at hxB
      have hg1 : wr.cell? ⟨w.heap.size, i, none⟩ = some (.int .u32 (0 : Nat)) := blkU_cell HBK.out (HZ.out i (by omega) (by omega))
      have hg2 : wr.frozen? ⟨w.heap.size, i, none⟩ = false := HBK.out.frozen i
      by_cases him : i < m
      · obtain ⟨b2, o2, y, hB, hb2, hy, hyB, hcell2⟩ := HB.out.at_ him
        subst hB
        have hc2 : wr.cell? ⟨b2, o2 + i, none⟩ = some (.int .u32 y) := (HBL.out.cell (p := ⟨b2, _, none⟩) hb2).trans hcell2
        have HS := Lib.hid (add_step HLEN.out HOK.out hin HV.out HZ.out (val_take_succ HX.out) (val_take_succ hy))
        clear hcell2 hy
        unfold BB at hyB
        go_wp2_with fail
        refine (add32_any x y cc _ hxB hyB hcc).mono ?_
        rintro e w1 ⟨rfl, rfl⟩
        go_wp2_with fail
        go_roundg (n - (i + 1))
        case measure => omega
        case rel =>
          refine ⟨i + 1, (x + y + cc) / BB, l.set i ((x + y + cc) % BB), by go_num, by unfold BB; simp, by unfold BB; omega, by omega, rfl, Lib.hid HS.out.1, Lib.hid HS.out.2.1, Lib.hid ?_, Lib.hid HS.out.2.2.1, Lib.hid HS.out.2.2.2, Lib.hid (HBL.out.setCell (Nat.le_refl _) _)⟩
          have := blkU_set HBK.out i ((x + y + cc) % BB)
          rw [show (((x + y + cc) % BB : Nat) : Int) = ((x : Int) + y + cc) % 4294967296 by unfold BB; omega] at this
          exact this
      · have HS := Lib.hid (add_step (y := 0) HLEN.out HOK.out hin HV.out HZ.out (val_take_succ HX.out) (by rw [List.take_of_length_le (by rw [HB.out.len]; omega), List.take_of_length_le (by rw [HB.out.len]; omega)]; simp))
        have K := add32_any x 0 cc wr hxB (by omega) hcc
        rw [show ((0 : Nat) : Int) = 0 from rfl] at K
        have HK := Lib.hid K
        clear K
        go_wp2_with fail
        refine HK.out.mono ?_
        rintro e w1 ⟨rfl, rfl⟩
        clear HK
        go_wp2_with fail
        go_roundg (n - (i + 1))
        case measure => omega
        case rel =>
          refine ⟨i + 1, (x + 0 + cc) / BB, l.set i ((x + 0 + cc) % BB), by go_num, by unfold BB; simp, by unfold BB; omega, by omega, rfl, Lib.hid HS.out.1, Lib.hid HS.out.2.1, Lib.hid ?_, Lib.hid HS.out.2.2.1, Lib.hid HS.out.2.2.2, Lib.hid (HBL.out.setCell (Nat.le_refl _) _)⟩
          have := blkU_set HBK.out i ((x + 0 + cc) % BB)
          rw [show (((x + 0 + cc) % BB : Nat) : Int) = ((x : Int) + cc) % 4294967296 by unfold BB; omega] at this
          exact this
    · obtain rfl : i = n := by omega
      have hg1 : wr.cell? ⟨w.heap.size, i, none⟩ = some (.int .u32 (0 : Nat)) := blkU_cell HBK.out (HZ.out i (by omega) (by omega))
      have hg2 : wr.frozen? ⟨w.heap.size, i, none⟩ = false := HBK.out.frozen i
      go_wp2_with fail
      go_ret
      refine ⟨_, _, _, l.set i cc, rfl, Lib.hid (Nw.of_blk (blkU_set HBK.out i cc) (ok_set HOK.out _ _ (by unfold BB; omega)) (Nat.le_refl _) (by rw [List.length_set]; exact HLEN.out) (by unfold maxLen; omega)), Lib.hid ?_, by omega, Lib.hid (HBL.out.setCell (Nat.le_refl _) _)⟩
      have := HV.out
      rw [List.take_of_length_le (by rw [HA.out.len]; omega), List.take_of_length_le (by rw [HB.out.len]; omega)] at this
      rw [val_set0 _ (HZ.out i (by omega) (by omega)), this]

set_option maxHeartbeats 800000 in
set_option maxRecDepth 100000 in
/-- add, the first number being shorter. -/
theorem add_lt (A B : Option Addr) (n c m d : Nat) (a b : List Nat) (w : World) (ha : Sl w A n c a) (hb : Sl w B m d b) (hmn : m < n) (hn : n ≤ 100000) :
    Calls Tryd.prog 19 #[.slice B m d, .slice A n c] w (Fv (n + 1) (val a + val b) w) := by
  have HA := Lib.hid ha
  have HB := Lib.hid hb
  clear ha hb
  have hlt : decide (m < n) = true := by simp; omega
  have hmk := make_u32 (n + 1) (n + 1) ((n : Int) + 1) ((n : Int) + 1) (by omega) (by omega) (by omega) (by omega)
  have HB0 := Lib.hid (Blk.new w tU (UA (zeros (n + 1))))
  have HL0 := Lib.hid ((Below.refl w.heap.size w).alloc (Nat.le_refl _) (.cells (UA (zeros (n + 1))) tU))
  go_enter Tryd.func19, Tryd.ntmps19
  go_wp2_with fail
  clear hmk
  go_loopg [6, 23] n (AddRel w w.heap.size n a b)
  case atStart => exact ⟨0, 0, zeros (n + 1), rfl, rfl, by omega, by omega, rfl, Lib.hid (zeros_len _), Lib.hid (ok_zeros _), HB0, Lib.hid (by simp [val_nil, zeros, val_zeros]), Lib.hid (fun j _ h => zeros_at _ j h), HL0⟩
  case round =>
    obtain ⟨i, cc, l, rfl, rfl, hcc, hi, rfl, HLEN, HOK, HBK, HV, HZ, HBL⟩ := hrel
    by_cases hin : i < n
    · obtain ⟨b1, o1, x, hA, hb1, hx, hxB, hcell1⟩ := HA.out.at_ hin
      subst hA
      have hc1 : wr.cell? ⟨b1, o1 + i, none⟩ = some (.int .u32 x) := (HBL.out.cell (p := ⟨b1, _, none⟩) hb1).trans hcell1
      have HX := Lib.hid hx
      clear hcell1 hx
      unfold BB at hxB
      have hg1 : wr.cell? ⟨w.heap.size, i, none⟩ = some (.int .u32 (0 : Nat)) := blkU_cell HBK.out (HZ.out i (by omega) (by omega))
      have hg2 : wr.frozen? ⟨w.heap.size, i, none⟩ = false := HBK.out.frozen i
      by_cases him : i < m
      · obtain ⟨b2, o2, y, hB, hb2, hy, hyB, hcell2⟩ := HB.out.at_ him
        subst hB
        have hc2 : wr.cell? ⟨b2, o2 + i, none⟩ = some (.int .u32 y) := (HBL.out.cell (p := ⟨b2, _, none⟩) hb2).trans hcell2
        have HS := Lib.hid (add_step HLEN.out HOK.out hin HV.out HZ.out (val_take_succ HX.out) (val_take_succ hy))
        clear hcell2 hy
        unfold BB at hyB
        go_wp2_with fail
        refine (add32_any x y cc _ hxB hyB hcc).mono ?_
        rintro e w1 ⟨rfl, rfl⟩
        go_wp2_with fail
        go_roundg (n - (i + 1))
        case measure => omega
        case rel =>
          refine ⟨i + 1, (x + y + cc) / BB, l.set i ((x + y + cc) % BB), by go_num, by unfold BB; simp, by unfold BB; omega, by omega, rfl, Lib.hid HS.out.1, Lib.hid HS.out.2.1, Lib.hid ?_, Lib.hid HS.out.2.2.1, Lib.hid HS.out.2.2.2, Lib.hid (HBL.out.setCell (Nat.le_refl _) _)⟩
          have := blkU_set HBK.out i ((x + y + cc) % BB)
          rw [show (((x + y + cc) % BB : Nat) : Int) = ((x : Int) + y + cc) % 4294967296 by unfold BB; omega] at this
          exact this
      · have HS := Lib.hid (add_step (y := 0) HLEN.out HOK.out hin HV.out HZ.out (val_take_succ HX.out) (by rw [List.take_of_length_le (by rw [HB.out.len]; omega), List.take_of_length_le (by rw [HB.out.len]; omega)]; simp))
        have K := add32_any x 0 cc wr hxB (by omega) hcc
        rw [show ((0 : Nat) : Int) = 0 from rfl] at K
        have HK := Lib.hid K
        clear K
        go_wp2_with fail
        refine HK.out.mono ?_
        rintro e w1 ⟨rfl, rfl⟩
        clear HK
        go_wp2_with fail
        go_roundg (n - (i + 1))
        case measure => omega
        case rel =>
          refine ⟨i + 1, (x + 0 + cc) / BB, l.set i ((x + 0 + cc) % BB), by go_num, by unfold BB; simp, by unfold BB; omega, by omega, rfl, Lib.hid HS.out.1, Lib.hid HS.out.2.1, Lib.hid ?_, Lib.hid HS.out.2.2.1, Lib.hid HS.out.2.2.2, Lib.hid (HBL.out.setCell (Nat.le_refl _) _)⟩
          have := blkU_set HBK.out i ((x + 0 + cc) % BB)
          rw [show (((x + 0 + cc) % BB : Nat) : Int) = ((x : Int) + cc) % 4294967296 by unfold BB; omega] at this
          exact this
    · obtain rfl : i = n := by omega
      have hg1 : wr.cell? ⟨w.heap.size, i, none⟩ = some (.int .u32 (0 : Nat)) := blkU_cell HBK.out (HZ.out i (by omega) (by omega))
      have hg2 : wr.frozen? ⟨w.heap.size, i, none⟩ = false := HBK.out.frozen i
      go_wp2_with fail
      go_ret
      refine ⟨_, _, _, l.set i cc, rfl, Lib.hid (Nw.of_blk (blkU_set HBK.out i cc) (ok_set HOK.out _ _ (by unfold BB; omega)) (Nat.le_refl _) (by rw [List.length_set]; exact HLEN.out) (by unfold maxLen; omega)), Lib.hid ?_, by omega, Lib.hid (HBL.out.setCell (Nat.le_refl _) _)⟩
      have := HV.out
      rw [List.take_of_length_le (by rw [HA.out.len]; omega), List.take_of_length_le (by rw [HB.out.len]; omega)] at this
      rw [val_set0 _ (HZ.out i (by omega) (by omega)), this]

set_option maxHeartbeats 800000 in
set_option maxRecDepth 100000 in
theorem add_any (A B : Option Addr) (n c m d : Nat) (a b : List Nat) (w : World) (ha : Sl w A n c a) (hb : Sl w B m d b) (hn : n ≤ 100000) (hm : m ≤ 100000) :
    Calls Tryd.prog 19 #[.slice A n c, .slice B m d] w (Fv (max n m + 1) (val a + val b) w) := by
  by_cases hmn : m ≤ n
  · rw [Nat.max_eq_left hmn]
    exact add_ge A B n c m d a b w ha hb hmn hn
  · rw [Nat.max_eq_right (by omega), Nat.add_comm (val a)]
    exact add_lt B A m d n c b a w hb ha (by omega) hm
end Go.Proofs.YtnogfceojmnjiaaDoor
