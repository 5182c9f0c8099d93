/-
  The walks of natural's exported functions Add, Sub, Mul, Shl, Shr, DivMod.
-/
import Derived.Test.YtnogfceojmnjiaaDoorNumO
set_option linter.unusedVariables false
namespace Go.Proofs.YtnogfceojmnjiaaDoor
open Go.RowKit Go.Fl Go.Fl.Nm

/-- What a result is: the limbs of a number, or ErrBig. -/
def ResV (v : Nat) (l : List Nat) (er : Int) : Prop := (er = 0 ∧ l = limbs v ∧ (limbs v).length ≤ 256) ∨ (er = 9 ∧ l = [] ∧ 256 < (limbs v).length)
def Res (base v : Nat) (w : World) (e : Ending) (w' : World) : Prop :=
  ∃ (A : Option Addr) (n : Nat) (l : List Nat) (er : Int), e = .returned (.tuple #[.slice A n n, .int .i64 er]) ∧ Hid (Nw w' tU base A n n l) ∧ Hid (ResV v l er) ∧ Hid (Below w.heap.size w w')
def ErrP (er : Int) (w : World) (e : Ending) (w' : World) : Prop := e = .returned (.tuple #[.slice none 0 0, .int .i64 er]) ∧ Hid (Below w.heap.size w w')
theorem ResV.len {v : Nat} {l : List Nat} {er : Int} (h : ResV v l er) : l.length ≤ 256 := by
  rcases h with ⟨_, rfl, h⟩ | ⟨_, rfl, _⟩
  · exact h
  · simp

set_option maxHeartbeats 400000 in
theorem done_any (A : Option Addr) (n c : Nat) (l : List Nat) (w : World) (base : Nat) (h : Nw w tU base A n c l) :
    Calls Tryd.prog 18 #[.slice A n c] w (Res base (val l) w) := by
  have H := Lib.hid h
  have hnm := h.sl.max
  have hcm := h.sl.capMax
  have hno := h.sl.nil
  have htl : tl l ≤ n := by rw [← h.sl.len]; exact tl_le l
  have hnc := h.sl.cap
  have HT := Lib.hid (trim_limbs h.sl.ok)
  have HTL := Lib.hid (tl_limbs h.sl.ok)
  have HNO := Lib.hid hno
  clear h hno
  generalize hk : tl l = k at *
  have HK := Lib.hid hk
  clear hk
  go_enter Tryd.func18, Tryd.ntmps18
  go_wp2_with fail
  refine (trim_any A n c l w H.out.sl).mono ?_
  rintro e w1 ⟨rfl, rfl⟩
  rw [HK.out]
  go_wp2_with fail
  refine (longFn_natural.one A k c _ (by omega)).mono ?_
  rintro e w1 ⟨rfl, hw1⟩
  have HN1 := Lib.hid (show Nw w1 tU base A n c l by rw [hw1]; exact H.out.alloc _)
  have HL1 := Lib.hid (show Below w.heap.size w w1 by rw [hw1]; exact (Below.refl _ _).alloc (Nat.le_refl _) _)
  clear hw1
  by_cases hb : 256 < k
  · have hd : decide (256 < k) = true := by simpa using hb
    rw [hd]
    clear hd
    go_wp2_with fail
    refine bodyPost_ret (v := .tuple #[.slice none 0 0, .int .i64 9]) (by simp [results, Tryd.results18, go_sem]) rfl ?_
    exact ⟨none, 0, [], 9, rfl, Lib.hid (Nw.none_ _ _ _), Lib.hid (.inr ⟨rfl, rfl, by rw [← HTL.out]; exact hb⟩), HL1⟩
  · have hd : decide (256 < k) = false := by simpa using hb
    rw [hd]
    clear hd
    go_wp2_with fail
    refine (clip_any A k c w1 (by omega) hcm HNO.out).mono ?_
    rintro e w2 ⟨rfl, rfl⟩
    go_wp2_with fail
    refine bodyPost_ret (v := .tuple #[.slice A k k, .int .i64 0]) (by simp [results, Tryd.results18, go_sem]) rfl ?_
    refine ⟨A, k, limbs (val l), 0, rfl, Lib.hid ?_, Lib.hid (.inl ⟨rfl, rfl, by rw [← HTL.out]; omega⟩), HL1⟩
    rw [← HT.out]
    exact HN1.out.cut htl (Nat.le_refl _) (by omega) (fun h => by have := HNO.out h; omega)

set_option maxHeartbeats 400000 in
theorem nAdd_big (A B : Option Addr) (n c m d : Nat) (a b : List Nat) (w : World) (ha : Sl w A n c a) (hb : Sl w B m d b) (h : 256 < n ∨ 256 < m) :
    Calls Tryd.prog 7 #[.slice A n c, .slice B m d] w (ErrP 9 w) := by
  have HA := Lib.hid ha
  have hnm := ha.max
  have HB := Lib.hid hb
  have hmm := hb.max
  have hd : decide (256 < n ∨ 256 < m) = true := by simpa using h
  clear ha hb
  go_enter Tryd.func7, Tryd.ntmps7
  go_wp2_with fail
  refine (longFn_natural.two A B n c m d _ hnm hmm).mono ?_
  rintro e w1 ⟨rfl, hw1⟩
  rw [hd]
  clear hd
  have HA1 := Lib.hid (show Sl w1 A n c a by rw [hw1]; exact HA.out.alloc _)
  have HB1 := Lib.hid (show Sl w1 B m d b by rw [hw1]; exact HB.out.alloc _)
  have HL1 := Lib.hid (show Below w.heap.size w w1 by rw [hw1]; exact (Below.refl _ _).alloc (Nat.le_refl _) _)
  clear hw1
  go_wp2_with fail
  refine bodyPost_ret (v := .tuple #[.slice none 0 0, .int .i64 9]) (by simp [results, Tryd.results7, go_sem]) rfl ?_
  exact ⟨rfl, HL1⟩

set_option maxHeartbeats 400000 in
theorem nSub_big (A B : Option Addr) (n c m d : Nat) (a b : List Nat) (w : World) (ha : Sl w A n c a) (hb : Sl w B m d b) (h : 256 < n ∨ 256 < m) :
    Calls Tryd.prog 12 #[.slice A n c, .slice B m d] w (ErrP 9 w) := by
  have HA := Lib.hid ha
  have hnm := ha.max
  have HB := Lib.hid hb
  have hmm := hb.max
  have hd : decide (256 < n ∨ 256 < m) = true := by simpa using h
  clear ha hb
  go_enter Tryd.func12, Tryd.ntmps12
  go_wp2_with fail
  refine (longFn_natural.two A B n c m d _ hnm hmm).mono ?_
  rintro e w1 ⟨rfl, hw1⟩
  rw [hd]
  clear hd
  have HA1 := Lib.hid (show Sl w1 A n c a by rw [hw1]; exact HA.out.alloc _)
  have HB1 := Lib.hid (show Sl w1 B m d b by rw [hw1]; exact HB.out.alloc _)
  have HL1 := Lib.hid (show Below w.heap.size w w1 by rw [hw1]; exact (Below.refl _ _).alloc (Nat.le_refl _) _)
  clear hw1
  go_wp2_with fail
  refine bodyPost_ret (v := .tuple #[.slice none 0 0, .int .i64 9]) (by simp [results, Tryd.results12, go_sem]) rfl ?_
  exact ⟨rfl, HL1⟩

set_option maxHeartbeats 400000 in
theorem nMul_big (A B : Option Addr) (n c m d : Nat) (a b : List Nat) (w : World) (ha : Sl w A n c a) (hb : Sl w B m d b) (h : 256 < n ∨ 256 < m) :
    Calls Tryd.prog 9 #[.slice A n c, .slice B m d] w (ErrP 9 w) := by
  have HA := Lib.hid ha
  have hnm := ha.max
  have HB := Lib.hid hb
  have hmm := hb.max
  have hd : decide (256 < n ∨ 256 < m) = true := by simpa using h
  clear ha hb
  go_enter Tryd.func9, Tryd.ntmps9
  go_wp2_with fail
  refine (longFn_natural.two A B n c m d _ hnm hmm).mono ?_
  rintro e w1 ⟨rfl, hw1⟩
  rw [hd]
  clear hd
  have HA1 := Lib.hid (show Sl w1 A n c a by rw [hw1]; exact HA.out.alloc _)
  have HB1 := Lib.hid (show Sl w1 B m d b by rw [hw1]; exact HB.out.alloc _)
  have HL1 := Lib.hid (show Below w.heap.size w w1 by rw [hw1]; exact (Below.refl _ _).alloc (Nat.le_refl _) _)
  clear hw1
  go_wp2_with fail
  refine bodyPost_ret (v := .tuple #[.slice none 0 0, .int .i64 9]) (by simp [results, Tryd.results9, go_sem]) rfl ?_
  exact ⟨rfl, HL1⟩

set_option maxHeartbeats 400000 in
theorem nSqrt_big (A : Option Addr) (n c : Nat) (a : List Nat) (w : World) (ha : Sl w A n c a) (h : 256 < n) :
    Calls Tryd.prog 14 #[.slice A n c] w (ErrP 9 w) := by
  have HA := Lib.hid ha
  have hnm := ha.max
  have hd : decide (256 < n) = true := by simpa using h
  clear ha
  go_enter Tryd.func14, Tryd.ntmps14
  go_wp2_with fail
  refine (longFn_natural.one A n c _ hnm).mono ?_
  rintro e w1 ⟨rfl, hw1⟩
  rw [hd]
  clear hd
  have HA1 := Lib.hid (show Sl w1 A n c a by rw [hw1]; exact HA.out.alloc _)
  have HL1 := Lib.hid (show Below w.heap.size w w1 by rw [hw1]; exact (Below.refl _ _).alloc (Nat.le_refl _) _)
  clear hw1
  go_wp2_with fail
  refine bodyPost_ret (v := .tuple #[.slice none 0 0, .int .i64 9]) (by simp [results, Tryd.results14, go_sem]) rfl ?_
  exact ⟨rfl, HL1⟩

set_option maxHeartbeats 400000 in
theorem nAdd_ok (A B : Option Addr) (n c m d : Nat) (a b : List Nat) (w : World) (ha : Sl w A n c a) (hb : Sl w B m d b) (hn : n ≤ 256) (hm : m ≤ 256) :
    Calls Tryd.prog 7 #[.slice A n c, .slice B m d] w (Res w.heap.size (val a + val b) w) := by
  have HA := Lib.hid ha
  have hnm := ha.max
  have HB := Lib.hid hb
  have hmm := hb.max
  have hd : decide (256 < n ∨ 256 < m) = false := by simp; omega
  clear ha hb
  go_enter Tryd.func7, Tryd.ntmps7
  go_wp2_with fail
  refine (longFn_natural.two A B n c m d _ hnm hmm).mono ?_
  rintro e w1 ⟨rfl, hw1⟩
  rw [hd]
  clear hd
  have HA1 := Lib.hid (show Sl w1 A n c a by rw [hw1]; exact HA.out.alloc _)
  have HB1 := Lib.hid (show Sl w1 B m d b by rw [hw1]; exact HB.out.alloc _)
  have HL1 := Lib.hid (show Below w.heap.size w w1 by rw [hw1]; exact (Below.refl _ _).alloc (Nat.le_refl _) _)
  clear hw1
  go_wp2_with fail
  refine (add_any A B n c m d a b w1 HA1.out HB1.out (by omega) (by omega)).mono ?_
  rintro e w2 ⟨C, x, cx, l, rfl, HN, HV, hx, HL2⟩
  go_wp2_with fail
  refine (done_any C x cx l w2 w.heap.size (HN.out.base HL1.out.size)).mono ?_
  rw [HV.out]
  rintro e w3 ⟨D, y, ly, er, rfl, HN3, HR3, HL3⟩
  go_wp2_with fail
  refine bodyPost_ret (v := .tuple #[.slice D y y, .int .i64 er]) (by simp [results, Tryd.results7, go_sem]) rfl ?_
  exact ⟨D, y, ly, er, rfl, HN3, HR3, Lib.hid ((HL1.out.trans (HL2.out.mono HL1.out.size)).trans (HL3.out.mono (Nat.le_trans HL1.out.size HL2.out.size)))⟩

set_option maxHeartbeats 400000 in
theorem nSub_less (A B : Option Addr) (n c m d : Nat) (a b : List Nat) (w : World) (ha : Sl w A n c a) (hb : Sl w B m d b) (hn : n ≤ 256) (hm : m ≤ 256) (hlt : val a < val b) :
    Calls Tryd.prog 12 #[.slice A n c, .slice B m d] w (ErrP 2 w) := by
  have hcl : decide (cmpN (val a) (val b) < 0) = true := by simpa using (cmpN_neg _ _).2 hlt
  have hr := cmpN_range (val a) (val b)
  have HA := Lib.hid ha
  have hnm := ha.max
  have HB := Lib.hid hb
  have hmm := hb.max
  have hd : decide (256 < n ∨ 256 < m) = false := by simp; omega
  clear ha hb
  go_enter Tryd.func12, Tryd.ntmps12
  go_wp2_with fail
  refine (longFn_natural.two A B n c m d _ hnm hmm).mono ?_
  rintro e w1 ⟨rfl, hw1⟩
  rw [hd]
  clear hd
  have HA1 := Lib.hid (show Sl w1 A n c a by rw [hw1]; exact HA.out.alloc _)
  have HB1 := Lib.hid (show Sl w1 B m d b by rw [hw1]; exact HB.out.alloc _)
  have HL1 := Lib.hid (show Below w.heap.size w w1 by rw [hw1]; exact (Below.refl _ _).alloc (Nat.le_refl _) _)
  clear hw1
  generalize hcc : cmpN (val a) (val b) = cc at *
  have HCC := Lib.hid hcc
  clear hcc
  go_wp2_with fail
  refine (cmp_any A B n c m d a b w1 HA1.out HB1.out).mono ?_
  rw [HCC.out]
  rintro e w2 ⟨rfl, q, hq⟩
  have HA2 := Lib.hid (show Sl w2 A n c a by rw [hq]; exact HA1.out.drewN q)
  have HB2 := Lib.hid (show Sl w2 B m d b by rw [hq]; exact HB1.out.drewN q)
  have HL0 := Lib.hid (show Below w.heap.size w w2 by rw [hq]; exact below_drewN HL1.out q)
  clear hq
  go_wp2_with fail
  refine bodyPost_ret (v := .tuple #[.slice none 0 0, .int .i64 2]) (by simp [results, Tryd.results12, go_sem]) rfl ?_
  exact ⟨rfl, HL0⟩

set_option maxHeartbeats 400000 in
theorem nSub_ok (A B : Option Addr) (n c m d : Nat) (a b : List Nat) (w : World) (ha : Sl w A n c a) (hb : Sl w B m d b) (hn : n ≤ 256) (hm : m ≤ 256) (hle : val b ≤ val a) :
    Calls Tryd.prog 12 #[.slice A n c, .slice B m d] w (Res w.heap.size (val a - val b) w) := by
  have hcl : decide (cmpN (val a) (val b) < 0) = false := by simp only [decide_eq_false_iff_not]; intro h; have := (cmpN_neg _ _).1 h; omega
  have hr := cmpN_range (val a) (val b)
  have HA := Lib.hid ha
  have hnm := ha.max
  have HB := Lib.hid hb
  have hmm := hb.max
  have hd : decide (256 < n ∨ 256 < m) = false := by simp; omega
  clear ha hb
  go_enter Tryd.func12, Tryd.ntmps12
  go_wp2_with fail
  refine (longFn_natural.two A B n c m d _ hnm hmm).mono ?_
  rintro e w1 ⟨rfl, hw1⟩
  rw [hd]
  clear hd
  have HA1 := Lib.hid (show Sl w1 A n c a by rw [hw1]; exact HA.out.alloc _)
  have HB1 := Lib.hid (show Sl w1 B m d b by rw [hw1]; exact HB.out.alloc _)
  have HL1 := Lib.hid (show Below w.heap.size w w1 by rw [hw1]; exact (Below.refl _ _).alloc (Nat.le_refl _) _)
  clear hw1
  generalize hcc : cmpN (val a) (val b) = cc at *
  have HCC := Lib.hid hcc
  clear hcc
  go_wp2_with fail
  refine (cmp_any A B n c m d a b w1 HA1.out HB1.out).mono ?_
  rw [HCC.out]
  rintro e w2 ⟨rfl, q, hq⟩
  have HA2 := Lib.hid (show Sl w2 A n c a by rw [hq]; exact HA1.out.drewN q)
  have HB2 := Lib.hid (show Sl w2 B m d b by rw [hq]; exact HB1.out.drewN q)
  have HL0 := Lib.hid (show Below w.heap.size w w2 by rw [hq]; exact below_drewN HL1.out q)
  clear hq
  go_wp2_with fail
  refine (sub_any A B n c m d a b w2 HA2.out HB2.out (by omega) (by omega) hle).mono ?_
  rintro e w2' ⟨C, x, cx, l, rfl, HN, HV, hx, HL2'⟩
  go_wp2_with fail
  refine (done_any C x cx l w2' w.heap.size (HN.out.base HL0.out.size)).mono ?_
  rw [HV.out]
  rintro e w3 ⟨D, y, ly, er, rfl, HN3, HR3, HL3⟩
  go_wp2_with fail
  refine bodyPost_ret (v := .tuple #[.slice D y y, .int .i64 er]) (by simp [results, Tryd.results12, go_sem]) rfl ?_
  exact ⟨D, y, ly, er, rfl, HN3, HR3, Lib.hid ((HL0.out.trans (HL2'.out.mono HL0.out.size)).trans (HL3.out.mono (Nat.le_trans HL0.out.size HL2'.out.size)))⟩

set_option maxHeartbeats 400000 in
theorem nMul_ok (A B : Option Addr) (n c m d : Nat) (a b : List Nat) (w : World) (ha : Sl w A n c a) (hb : Sl w B m d b) (hn : n ≤ 256) (hm : m ≤ 256) :
    Calls Tryd.prog 9 #[.slice A n c, .slice B m d] w (Res w.heap.size (val a * val b) w) := by
  have HA := Lib.hid ha
  have hnm := ha.max
  have HB := Lib.hid hb
  have hmm := hb.max
  have hd : decide (256 < n ∨ 256 < m) = false := by simp; omega
  clear ha hb
  go_enter Tryd.func9, Tryd.ntmps9
  go_wp2_with fail
  refine (longFn_natural.two A B n c m d _ hnm hmm).mono ?_
  rintro e w1 ⟨rfl, hw1⟩
  rw [hd]
  clear hd
  have HA1 := Lib.hid (show Sl w1 A n c a by rw [hw1]; exact HA.out.alloc _)
  have HB1 := Lib.hid (show Sl w1 B m d b by rw [hw1]; exact HB.out.alloc _)
  have HL1 := Lib.hid (show Below w.heap.size w w1 by rw [hw1]; exact (Below.refl _ _).alloc (Nat.le_refl _) _)
  clear hw1
  have HVA := Lib.hid (val_trim a)
  have HVB := Lib.hid (val_trim b)
  have hta := (trim_sl HA1.out).1
  have htb := (trim_sl HB1.out).1
  have HA2 := Lib.hid (trim_sl HA1.out).2
  have HB2 := Lib.hid (trim_sl HB1.out).2
  generalize hka : tl a = ka at *
  generalize hkb : tl b = kb at *
  have HKA := Lib.hid hka
  have HKB := Lib.hid hkb
  clear hka hkb
  go_wp2_with fail
  refine (trim_any A n c a w1 HA1.out).mono ?_
  rintro e w1' ⟨rfl, rfl⟩
  rw [HKA.out]
  go_wp2_with fail
  refine (trim_any B m d b w1 HB1.out).mono ?_
  rintro e w1' ⟨rfl, rfl⟩
  rw [HKB.out]
  go_wp2_with fail
  refine (mul_any A B ka c kb d _ _ w1 HA2.out HB2.out (by omega) (by omega)).mono ?_
  rw [HVA.out, HVB.out]
  rintro e w2 ⟨C, x, cx, l, rfl, HN, HV, hx, HL2⟩
  go_wp2_with fail
  refine (done_any C x cx l w2 w.heap.size (HN.out.base HL1.out.size)).mono ?_
  rw [HV.out]
  rintro e w3 ⟨D, y, ly, er, rfl, HN3, HR3, HL3⟩
  go_wp2_with fail
  refine bodyPost_ret (v := .tuple #[.slice D y y, .int .i64 er]) (by simp [results, Tryd.results9, go_sem]) rfl ?_
  exact ⟨D, y, ly, er, rfl, HN3, HR3, Lib.hid ((HL1.out.trans (HL2.out.mono HL1.out.size)).trans (HL3.out.mono (Nat.le_trans HL1.out.size HL2.out.size)))⟩

def DivRes (q r : Nat) (w : World) (e : Ending) (w' : World) : Prop :=
  ∃ (A B : Option Addr) (n m : Nat), e = .returned (.tuple #[.slice A n n, .slice B m m, .int .i64 0]) ∧ Hid (Nw w' tU w.heap.size A n n (limbs q)) ∧ Hid (Nw w' tU w.heap.size B m m (limbs r)) ∧ Hid (Below w.heap.size w w')
def DivErr (er : Int) (w : World) (e : Ending) (w' : World) : Prop := e = .returned (.tuple #[.slice none 0 0, .slice none 0 0, .int .i64 er]) ∧ Hid (Below w.heap.size w w')

set_option maxHeartbeats 400000 in
theorem nDivMod_big (A B : Option Addr) (n c m d : Nat) (a b : List Nat) (w : World) (ha : Sl w A n c a) (hb : Sl w B m d b) (h : 256 < n ∨ 256 < m) :
    Calls Tryd.prog 13 #[.slice A n c, .slice B m d] w (DivErr 9 w) := by
  have HA := Lib.hid ha
  have hnm := ha.max
  have HB := Lib.hid hb
  have hmm := hb.max
  have hd : decide (256 < n ∨ 256 < m) = true := by simpa using h
  clear ha hb
  go_enter Tryd.func13, Tryd.ntmps13
  go_wp2_with fail
  refine (longFn_natural.two A B n c m d _ hnm hmm).mono ?_
  rintro e w1 ⟨rfl, hw1⟩
  rw [hd]
  clear hd
  have HA1 := Lib.hid (show Sl w1 A n c a by rw [hw1]; exact HA.out.alloc _)
  have HB1 := Lib.hid (show Sl w1 B m d b by rw [hw1]; exact HB.out.alloc _)
  have HL1 := Lib.hid (show Below w.heap.size w w1 by rw [hw1]; exact (Below.refl _ _).alloc (Nat.le_refl _) _)
  clear hw1
  go_wp2_with fail
  refine bodyPost_ret (v := .tuple #[.slice none 0 0, .slice none 0 0, .int .i64 9]) (by simp [results, Tryd.results13, go_sem]) rfl ?_
  exact ⟨rfl, HL1⟩

set_option maxHeartbeats 400000 in
theorem nDivMod_zero (A B : Option Addr) (n c m d : Nat) (a b : List Nat) (w : World) (ha : Sl w A n c a) (hb : Sl w B m d b) (hn : n ≤ 256) (hm : m ≤ 256) (h0 : val b = 0) :
    Calls Tryd.prog 13 #[.slice A n c, .slice B m d] w (DivErr 10 w) := by
  have HT := Lib.hid (val_zero_iff.1 h0)
  clear h0
  have HA := Lib.hid ha
  have hnm := ha.max
  have HB := Lib.hid hb
  have hmm := hb.max
  have hd : decide (256 < n ∨ 256 < m) = false := by simp; omega
  clear ha hb
  go_enter Tryd.func13, Tryd.ntmps13
  go_wp2_with fail
  refine (longFn_natural.two A B n c m d _ hnm hmm).mono ?_
  rintro e w1 ⟨rfl, hw1⟩
  rw [hd]
  clear hd
  have HA1 := Lib.hid (show Sl w1 A n c a by rw [hw1]; exact HA.out.alloc _)
  have HB1 := Lib.hid (show Sl w1 B m d b by rw [hw1]; exact HB.out.alloc _)
  have HL1 := Lib.hid (show Below w.heap.size w w1 by rw [hw1]; exact (Below.refl _ _).alloc (Nat.le_refl _) _)
  clear hw1
  go_wp2_with fail
  refine (trim_any B m d b w1 HB1.out).mono ?_
  rintro e w1' ⟨rfl, rfl⟩
  rw [HT.out]
  go_wp2_with fail
  refine bodyPost_ret (v := .tuple #[.slice none 0 0, .slice none 0 0, .int .i64 10]) (by simp [results, Tryd.results13, go_sem]) rfl ?_
  exact ⟨rfl, HL1⟩

set_option maxHeartbeats 400000 in
theorem nDivMod_ok (A B : Option Addr) (n c m d : Nat) (a b : List Nat) (w : World) (ha : Sl w A n c a) (hb : Sl w B m d b) (hn : n ≤ 256) (hm : m ≤ 256) (h0 : 0 < val b) :
    Calls Tryd.prog 13 #[.slice A n c, .slice B m d] w (DivRes (val a / val b) (val a % val b) w) := by
  have HA := Lib.hid ha
  have hnm := ha.max
  have HB := Lib.hid hb
  have hmm := hb.max
  have hd : decide (256 < n ∨ 256 < m) = false := by simp; omega
  clear ha hb
  go_enter Tryd.func13, Tryd.ntmps13
  go_wp2_with fail
  refine (longFn_natural.two A B n c m d _ hnm hmm).mono ?_
  rintro e w1 ⟨rfl, hw1⟩
  rw [hd]
  clear hd
  have HA1 := Lib.hid (show Sl w1 A n c a by rw [hw1]; exact HA.out.alloc _)
  have HB1 := Lib.hid (show Sl w1 B m d b by rw [hw1]; exact HB.out.alloc _)
  have HL1 := Lib.hid (show Below w.heap.size w w1 by rw [hw1]; exact (Below.refl _ _).alloc (Nat.le_refl _) _)
  clear hw1
  have hk0 : tl b ≠ 0 := fun e => by have := val_zero_iff.2 e; omega
  have htb := (trim_sl HB1.out).1
  generalize hkb : tl b = kb at *
  have HKB := Lib.hid hkb
  have hd1 : ((kb : Int) == 0) = false := by rw [beq_eq_false_iff_ne]; omega
  clear hkb hk0
  go_wp2_with fail
  refine (trim_any B m d b w1 HB1.out).mono ?_
  rintro e w1' ⟨rfl, rfl⟩
  rw [HKB.out]
  go_wp2_with fail
  refine (divide_any A B n c m d a b w1 HA1.out HB1.out (by omega) h0).mono ?_
  rintro e w2 ⟨C, x, cx, lq, D, y, cy, lr, rfl, HQ, HR, HVQ, HVR, hx, hy, HL2⟩
  have hqm := HQ.out.sl.capMax
  have hqc := HQ.out.sl.cap
  have hrm := HR.out.sl.capMax
  have hrc := HR.out.sl.cap
  have htq := (trim_sl HQ.out.sl).1
  have htr := (trim_sl HR.out.sl).1
  have HTQ := Lib.hid (trim_limbs HQ.out.sl.ok)
  have HTR := Lib.hid (trim_limbs HR.out.sl.ok)
  rw [HVQ.out] at HTQ
  rw [HVR.out] at HTR
  generalize hkq : tl lq = kq at *
  generalize hkr : tl lr = kr at *
  have HKQ := Lib.hid hkq
  have HKR := Lib.hid hkr
  clear hkq hkr
  go_wp2_with fail
  refine (trim_any C x cx lq w2 HQ.out.sl).mono ?_
  rintro e w2' ⟨rfl, rfl⟩
  rw [HKQ.out]
  go_wp2_with fail
  refine (clip_any C kq cx w2 (by omega) hqm HQ.out.sl.nil).mono ?_
  rintro e w2' ⟨rfl, rfl⟩
  go_wp2_with fail
  refine (trim_any D y cy lr w2 HR.out.sl).mono ?_
  rintro e w2' ⟨rfl, rfl⟩
  rw [HKR.out]
  go_wp2_with fail
  refine (clip_any D kr cy w2 (by omega) hrm HR.out.sl.nil).mono ?_
  rintro e w2' ⟨rfl, rfl⟩
  go_wp2_with fail
  refine bodyPost_ret (v := .tuple #[.slice C kq kq, .slice D kr kr, .int .i64 0]) (by simp [results, Tryd.results13, go_sem]) rfl ?_
  refine ⟨C, D, kq, kr, rfl, Lib.hid ?_, Lib.hid ?_, Lib.hid (HL1.out.trans (HL2.out.mono HL1.out.size))⟩
  · rw [← HTQ.out]
    exact (HQ.out.base HL1.out.size).cut htq (Nat.le_refl _) (by omega) (fun h => by have := HQ.out.sl.nil h; omega)
  · rw [← HTR.out]
    exact (HR.out.base HL1.out.size).cut htr (Nat.le_refl _) (by omega) (fun h => by have := HR.out.sl.nil h; omega)

end Go.Proofs.YtnogfceojmnjiaaDoor
