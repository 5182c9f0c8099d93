/-
  The walks of natural's exported functions Add, Sub, Mul, Shl, Shr, DivMod.
  The walks of natural's Sqrt and Gcd.
  Contracts of the kit's shelf at this dump: written by its lay-shelf.mjs and lay-plain.mjs, cut down to what is used here (cutshelf.py).
  The walk of strconv.FormatUint at base 10.
  The walk of natural's Text.
  The walks of slices.Equal at limbs, and of the law's helpers: none, is, awake.
-/
import Derived.Test.YtoogeihbhhcpaaaGreatDoorNumO
import Derived.Shelf.Strings.OnBuilder
import Derived.Shelf.Strconv.Itoa0
import Derived.Shelf.Strconv.Itoa1
import Derived.Shelf.LaysM
import Derived.Shelf.Strconv.Itoa2
import Derived.Shelf.Strings.Repeat
import Derived.Ground.Names2Prog
import Derived.Shelf.Slices.ReverseS
import Derived.Shelf.Slices.Cells
import Derived.Test.YtoogeihbhhcpaaaGreatDoorProg
import Derived.Test.YtoogeihbhhcpaaaGreatDoorPkB
import Derived.Lib.ItoaMem
import Derived.Lib.Walk
import Derived.WalkKit
import Derived.BigCall
import Derived.BigGuard
import Derived.Lib.OwnBridge
import Derived.Lib.Join
set_option linter.unusedVariables false
namespace Go.Proofs.YtoogeihbhhcpaaaGreatDoor
open Go.RowKit Go.Fl Go.Fl.Nm

/-- What a result is: the limbs of a number, or ErrBig. -/
def ResV (v : Nat) (l : List Nat) (er : Int) : Prop := (er = 0 ∧ l = limbs v ∧ (limbs v).length ≤ 256) ∨ (er = 9 ∧ l = [] ∧ 256 < (limbs v).length)
def Res (base v : Nat) (w : World) (e : Ending) (w' : World) : Prop :=
  ∃ (A : Option Addr) (n : Nat) (l : List Nat) (er : Int), e = .returned (.tuple #[.slice A n n, .int .i64 er]) ∧ Hid (Nw w' tU base A n n l) ∧ Hid (ResV v l er) ∧ Hid (Below w.heap.size w w')
theorem ResV.len {v : Nat} {l : List Nat} {er : Int} (h : ResV v l er) : l.length ≤ 256 := by
  rcases h with ⟨_, rfl, h⟩ | ⟨_, rfl, _⟩
  · exact h
  · simp

set_option maxHeartbeats 400000 in
theorem done_any (A : Option Addr) (n c : Nat) (l : List Nat) (w : World) (base : Nat) (h : Nw w tU base A n c l) :
    Calls Tryz.prog 144 #[.slice A n c] w (Res base (val l) w) := by
  have H := Lib.hid h
  have hnm := h.sl.max
  have hcm := h.sl.capMax
  have hno := h.sl.nil
  have htl : tl l ≤ n := by rw [← h.sl.len]; exact tl_le l
  have hnc := h.sl.cap
  have HT := Lib.hid (trim_limbs h.sl.ok)
  have HTL := Lib.hid (tl_limbs h.sl.ok)
  have HNO := Lib.hid hno
  clear h hno
  generalize hk : tl l = k at *
  have HK := Lib.hid hk
  clear hk
  go_enter Tryz.func144, Tryz.ntmps144
  go_wp2_with fail
  refine (trim_any A n c l w H.out.sl).mono ?_
  rintro e w1 ⟨rfl, rfl⟩
  rw [HK.out]
  go_wp2_with fail
  refine (longFn_natural.one A k c _ (by omega)).mono ?_
  rintro e w1 ⟨rfl, hw1⟩
  have HN1 := Lib.hid (show Nw w1 tU base A n c l by rw [hw1]; exact H.out.alloc _)
  have HL1 := Lib.hid (show Below w.heap.size w w1 by rw [hw1]; exact (Below.refl _ _).alloc (Nat.le_refl _) _)
  clear hw1
  by_cases hb : 256 < k
  · have hd : decide (256 < k) = true := by simpa using hb
    rw [hd]
    clear hd
    go_wp2_with fail
    refine bodyPost_ret (v := .tuple #[.slice none 0 0, .int .i64 9]) (by simp [results, Tryz.results144, go_sem]) rfl ?_
    exact ⟨none, 0, [], 9, rfl, Lib.hid (Nw.none_ _ _ _), Lib.hid (.inr ⟨rfl, rfl, by rw [← HTL.out]; exact hb⟩), HL1⟩
  · have hd : decide (256 < k) = false := by simpa using hb
    rw [hd]
    clear hd
    go_wp2_with fail
    refine (clip_any A k c w1 (by omega) hcm HNO.out).mono ?_
    rintro e w2 ⟨rfl, rfl⟩
    go_wp2_with fail
    refine bodyPost_ret (v := .tuple #[.slice A k k, .int .i64 0]) (by simp [results, Tryz.results144, go_sem]) rfl ?_
    refine ⟨A, k, limbs (val l), 0, rfl, Lib.hid ?_, Lib.hid (.inl ⟨rfl, rfl, by rw [← HTL.out]; omega⟩), HL1⟩
    rw [← HT.out]
    exact HN1.out.cut htl (Nat.le_refl _) (by omega) (fun h => by have := HNO.out h; omega)

set_option maxHeartbeats 400000 in
theorem nAdd_ok (A B : Option Addr) (n c m d : Nat) (a b : List Nat) (w : World) (ha : Sl w A n c a) (hb : Sl w B m d b) (hn : n ≤ 256) (hm : m ≤ 256) :
    Calls Tryz.prog 104 #[.slice A n c, .slice B m d] w (Res w.heap.size (val a + val b) w) := by
  have HA := Lib.hid ha
  have hnm := ha.max
  have HB := Lib.hid hb
  have hmm := hb.max
  have hd : decide (256 < n ∨ 256 < m) = false := by simp; omega
  clear ha hb
  go_enter Tryz.func104, Tryz.ntmps104
  go_wp2_with fail
  refine (longFn_natural.two A B n c m d _ hnm hmm).mono ?_
  rintro e w1 ⟨rfl, hw1⟩
  rw [hd]
  clear hd
  have HA1 := Lib.hid (show Sl w1 A n c a by rw [hw1]; exact HA.out.alloc _)
  have HB1 := Lib.hid (show Sl w1 B m d b by rw [hw1]; exact HB.out.alloc _)
  have HL1 := Lib.hid (show Below w.heap.size w w1 by rw [hw1]; exact (Below.refl _ _).alloc (Nat.le_refl _) _)
  clear hw1
  go_wp2_with fail
  refine (add_any A B n c m d a b w1 HA1.out HB1.out (by omega) (by omega)).mono ?_
  rintro e w2 ⟨C, x, cx, l, rfl, HN, HV, hx, HL2⟩
  go_wp2_with fail
  refine (done_any C x cx l w2 w.heap.size (HN.out.base HL1.out.size)).mono ?_
  rw [HV.out]
  rintro e w3 ⟨D, y, ly, er, rfl, HN3, HR3, HL3⟩
  go_wp2_with fail
  refine bodyPost_ret (v := .tuple #[.slice D y y, .int .i64 er]) (by simp [results, Tryz.results104, go_sem]) rfl ?_
  exact ⟨D, y, ly, er, rfl, HN3, HR3, Lib.hid ((HL1.out.trans (HL2.out.mono HL1.out.size)).trans (HL3.out.mono (Nat.le_trans HL1.out.size HL2.out.size)))⟩

set_option maxHeartbeats 400000 in
theorem nMul_ok (A B : Option Addr) (n c m d : Nat) (a b : List Nat) (w : World) (ha : Sl w A n c a) (hb : Sl w B m d b) (hn : n ≤ 256) (hm : m ≤ 256) :
    Calls Tryz.prog 98 #[.slice A n c, .slice B m d] w (Res w.heap.size (val a * val b) w) := by
  have HA := Lib.hid ha
  have hnm := ha.max
  have HB := Lib.hid hb
  have hmm := hb.max
  have hd : decide (256 < n ∨ 256 < m) = false := by simp; omega
  clear ha hb
  go_enter Tryz.func98, Tryz.ntmps98
  go_wp2_with fail
  refine (longFn_natural.two A B n c m d _ hnm hmm).mono ?_
  rintro e w1 ⟨rfl, hw1⟩
  rw [hd]
  clear hd
  have HA1 := Lib.hid (show Sl w1 A n c a by rw [hw1]; exact HA.out.alloc _)
  have HB1 := Lib.hid (show Sl w1 B m d b by rw [hw1]; exact HB.out.alloc _)
  have HL1 := Lib.hid (show Below w.heap.size w w1 by rw [hw1]; exact (Below.refl _ _).alloc (Nat.le_refl _) _)
  clear hw1
  have HVA := Lib.hid (val_trim a)
  have HVB := Lib.hid (val_trim b)
  have hta := (trim_sl HA1.out).1
  have htb := (trim_sl HB1.out).1
  have HA2 := Lib.hid (trim_sl HA1.out).2
  have HB2 := Lib.hid (trim_sl HB1.out).2
  generalize hka : tl a = ka at *
  generalize hkb : tl b = kb at *
  have HKA := Lib.hid hka
  have HKB := Lib.hid hkb
  clear hka hkb
  go_wp2_with fail
  refine (trim_any A n c a w1 HA1.out).mono ?_
  rintro e w1' ⟨rfl, rfl⟩
  rw [HKA.out]
  go_wp2_with fail
  refine (trim_any B m d b w1 HB1.out).mono ?_
  rintro e w1' ⟨rfl, rfl⟩
  rw [HKB.out]
  go_wp2_with fail
  refine (mul_any A B ka c kb d _ _ w1 HA2.out HB2.out (by omega) (by omega)).mono ?_
  rw [HVA.out, HVB.out]
  rintro e w2 ⟨C, x, cx, l, rfl, HN, HV, hx, HL2⟩
  go_wp2_with fail
  refine (done_any C x cx l w2 w.heap.size (HN.out.base HL1.out.size)).mono ?_
  rw [HV.out]
  rintro e w3 ⟨D, y, ly, er, rfl, HN3, HR3, HL3⟩
  go_wp2_with fail
  refine bodyPost_ret (v := .tuple #[.slice D y y, .int .i64 er]) (by simp [results, Tryz.results98, go_sem]) rfl ?_
  exact ⟨D, y, ly, er, rfl, HN3, HR3, Lib.hid ((HL1.out.trans (HL2.out.mono HL1.out.size)).trans (HL3.out.mono (Nat.le_trans HL1.out.size HL2.out.size)))⟩

set_option maxHeartbeats 400000 in
theorem nShl_ok (A : Option Addr) (n c : Nat) (k : Int) (a : List Nat) (w : World) (ha : Sl w A n c a) (hn : n ≤ 256) (hk : 0 ≤ k) (hk1 : k ≤ 65536) :
    Calls Tryz.prog 100 #[.slice A n c, .int .i64 k] w (Res w.heap.size (val a * 2 ^ k.toNat) w) := by
  have HA := Lib.hid ha
  have hnm := ha.max
  have hd : decide (256 < n) = false := by simp; omega
  clear ha
  go_enter Tryz.func100, Tryz.ntmps100
  go_wp2_with fail
  refine (longFn_natural.one A n c _ hnm).mono ?_
  rintro e w1 ⟨rfl, hw1⟩
  rw [hd]
  clear hd
  have HA1 := Lib.hid (show Sl w1 A n c a by rw [hw1]; exact HA.out.alloc _)
  have HL1 := Lib.hid (show Below w.heap.size w w1 by rw [hw1]; exact (Below.refl _ _).alloc (Nat.le_refl _) _)
  clear hw1
  have hd0 : decide (k < 0) = false := by simp; omega
  have hd1 : decide (65536 < k) = false := by simp; omega
  obtain ⟨q, rfl⟩ : ∃ q : Nat, k = q := ⟨k.toNat, by omega⟩
  rw [Int.toNat_natCast]
  clear hk
  go_wp2_with fail
  refine (shl_any A n c q a w1 HA1.out (by omega) (by omega)).mono ?_
  rintro e w2 ⟨C, x, cx, l, rfl, HN, HV, hx, HL2⟩
  go_wp2_with fail
  refine (done_any C x cx l w2 w.heap.size (HN.out.base HL1.out.size)).mono ?_
  rw [HV.out]
  rintro e w3 ⟨D, y, ly, er, rfl, HN3, HR3, HL3⟩
  go_wp2_with fail
  refine bodyPost_ret (v := .tuple #[.slice D y y, .int .i64 er]) (by simp [results, Tryz.results100, go_sem]) rfl ?_
  exact ⟨D, y, ly, er, rfl, HN3, HR3, Lib.hid ((HL1.out.trans (HL2.out.mono HL1.out.size)).trans (HL3.out.mono (Nat.le_trans HL1.out.size HL2.out.size)))⟩

set_option maxHeartbeats 400000 in
theorem nShr_ok (A : Option Addr) (n c : Nat) (k : Int) (a : List Nat) (w : World) (ha : Sl w A n c a) (hn : n ≤ 256) (hk : 0 ≤ k) (hk1 : k ≤ 65536) :
    Calls Tryz.prog 102 #[.slice A n c, .int .i64 k] w (Res w.heap.size (val a / 2 ^ k.toNat) w) := by
  have HA := Lib.hid ha
  have hnm := ha.max
  have hd : decide (256 < n) = false := by simp; omega
  clear ha
  go_enter Tryz.func102, Tryz.ntmps102
  go_wp2_with fail
  refine (longFn_natural.one A n c _ hnm).mono ?_
  rintro e w1 ⟨rfl, hw1⟩
  rw [hd]
  clear hd
  have HA1 := Lib.hid (show Sl w1 A n c a by rw [hw1]; exact HA.out.alloc _)
  have HL1 := Lib.hid (show Below w.heap.size w w1 by rw [hw1]; exact (Below.refl _ _).alloc (Nat.le_refl _) _)
  clear hw1
  have hd0 : decide (k < 0) = false := by simp; omega
  have hd1 : decide (65536 < k) = false := by simp; omega
  obtain ⟨q, rfl⟩ : ∃ q : Nat, k = q := ⟨k.toNat, by omega⟩
  rw [Int.toNat_natCast]
  clear hk
  go_wp2_with fail
  refine (shr_any A n c q a w1 HA1.out (by omega) (by omega)).mono ?_
  rintro e w2 ⟨C, x, cx, l, rfl, HN, HV, hx, HL2⟩
  go_wp2_with fail
  refine (done_any C x cx l w2 w.heap.size (HN.out.base HL1.out.size)).mono ?_
  rw [HV.out]
  rintro e w3 ⟨D, y, ly, er, rfl, HN3, HR3, HL3⟩
  go_wp2_with fail
  refine bodyPost_ret (v := .tuple #[.slice D y y, .int .i64 er]) (by simp [results, Tryz.results102, go_sem]) rfl ?_
  exact ⟨D, y, ly, er, rfl, HN3, HR3, Lib.hid ((HL1.out.trans (HL2.out.mono HL1.out.size)).trans (HL3.out.mono (Nat.le_trans HL1.out.size HL2.out.size)))⟩

end Go.Proofs.YtoogeihbhhcpaaaGreatDoor
namespace Go.Fl.Nm
end Go.Fl.Nm

namespace Go.Proofs.YtoogeihbhhcpaaaGreatDoor
open Go.RowKit Go.Fl Go.Fl.Nm

theorem trim_nw {w : World} {base : Nat} {A : Option Addr} {n c : Nat} {l : List Nat} (h : Nw w tU base A n c l) : tl l ≤ n ∧ Nw w tU base A (tl l) c (l.take (tl l)) := by
  have hta := (trim_sl h.sl).1
  exact ⟨hta, h.cut hta (by have := h.sl.cap; omega) h.sl.capMax h.sl.nil⟩

end Go.Proofs.YtoogeihbhhcpaaaGreatDoor
namespace Go.Proofs
open Go.Shelf
def Tryz.lays156_ren : Go.Shelf.Ren := ⟨fun | 156 => 33 | 165 => 68 | 166 => 20 | 169 => 25 | 240 => 41 | 241 => 105 | 276 => 87 | 277 => 150 | n => n, fun | 31 => 86 | 9 => 9 | 3 => 3 | 4 => 4 | 0 => 0 | 20 => 20 | 72 => 68 | 76 => 72 | 70 => 65 | 37 => 66 | 75 => 71 | 127 => 98 | 164 => 123 | 5 => 5 | 80 => 80 | n => n, fun | n => n⟩
theorem Tryz.lays156 : Go.Proofs.Lays.n156 Tryz.prog Tryz.lays156_ren := {
  mixed := by kernel_rfl
  f156 := Tryz.func33.trans (congrArg some (by kernel_rfl))
  f165 := Tryz.func68.trans (congrArg some (by kernel_rfl))
  f166 := Tryz.func20.trans (congrArg some (by kernel_rfl))
  f169 := Tryz.func25.trans (congrArg some (by kernel_rfl))
  f240 := Tryz.func41.trans (congrArg some (by kernel_rfl))
  f241 := Tryz.func105.trans (congrArg some (by kernel_rfl))
  f276 := Tryz.func87.trans (congrArg some (by kernel_rfl))
  f277 := Tryz.func150.trans (congrArg some (by kernel_rfl))
  t0 := Tryz.underlying0
  a0 := Tryz.isAgg0
  z0 := Tryz.sizeOf0
  v0 := Tryz.zeroValue0
  t3 := Tryz.underlying3
  a3 := Tryz.isAgg3
  z3 := Tryz.sizeOf3
  v3 := Tryz.zeroValue3
  t4 := Tryz.underlying4
  a4 := Tryz.isAgg4
  z4 := Tryz.sizeOf4
  v4 := Tryz.zeroValue4
  t9 := Tryz.underlying9
  a9 := Tryz.isAgg9
  z9 := Tryz.sizeOf9
  v9 := Tryz.zeroValue9
  t20 := Tryz.underlying20
  a20 := Tryz.isAgg20
  z20 := Tryz.sizeOf20
  v20 := Tryz.zeroValue20
  t31 := Tryz.underlying86
  a31 := Tryz.isAgg86
  z31 := Tryz.sizeOf86
  v31 := Tryz.zeroValue86
  t37 := Tryz.underlying66
  a37 := Tryz.isAgg66
  z37 := Tryz.sizeOf66
  v37 := Tryz.zeroValue66
  t70 := Tryz.underlying65
  a70 := Tryz.isAgg65
  z70 := Tryz.sizeOf65
  v70 := Tryz.zeroValue65
  t72 := Tryz.underlying68
  a72 := Tryz.isAgg68
  z72 := Tryz.sizeOf68
  v72 := Tryz.zeroValue68
  t75 := Tryz.underlying71
  a75 := Tryz.isAgg71
  z75 := Tryz.sizeOf71
  v75 := Tryz.zeroValue71
  t76 := Tryz.underlying72
  a76 := Tryz.isAgg72
  z76 := Tryz.sizeOf72
  v76 := Tryz.zeroValue72
  t127 := Tryz.underlying98
  a127 := Tryz.isAgg98
  z127 := Tryz.sizeOf98
  v127 := Tryz.zeroValue98
  t164 := Tryz.underlying123
  a164 := Tryz.isAgg123
  z164 := Tryz.sizeOf123
  v164 := Tryz.zeroValue123 }
theorem Tryz.Builder_Extra_156 : Builder.Extra Tryz.prog Tryz.lays156_ren := {
  sizeBuilder := by kernel_rfl
  liesBuilder := by kernel_rfl
  t5 := Tryz.underlying5
  a5 := Tryz.isAgg5
  z5 := Tryz.sizeOf5
  v5 := Tryz.zeroValue5
  infoByte := by kernel_rfl
  cellsByte := by kernel_rfl
  sizeByte := by kernel_rfl
  neB5 := by decide }
open Go.RowKit in
/-- No element: the empty string; the world is as it was. (Whatever the slice's address and capacity: a nil slice too.) (LAID: no walk: one application.) -/
theorem Tryz.strings_Join_none (a : Option Addr) (c : Nat) (sep : ByteArray) (w : World) :
    Calls Tryz.prog 33 #[.slice a 0 c, .string sep] w fun e w' => e = .returned (.string ⟨#[]⟩) ∧ w' = w := Any.strings_Join_none Tryz.lays156 Tryz.Builder_Extra_156 a c sep w
open Go.RowKit in
/-- strings.Join: "Join concatenates the elements of its first argument to create a single string. The separator string sep is placed between elements in the resulting string.": HOWEVER MANY ELEMENTS. Below the heap's end the world is as it was. (LAID: no walk: one application.) -/
theorem Tryz.strings_Join (bk o c : Nat) (xs : List ByteArray) (sep : ByteArray) (w : World) (hcells : ∀ (j : Nat) x, xs[j]? = some x → w.cell? ⟨bk, o + j, none⟩ = some (.string x)) (hbk : bk < w.heap.size) (hN : xs.length ≤ 140737488355328) (hcap : xs.length ≤ c) (hlen : (Lib.join (xs.map (·.data.toList)) sep.data.toList).length ≤ 140737488355328) :
    Calls Tryz.prog 33 #[.slice (some ⟨bk, o, none⟩) xs.length c, .string sep] w fun e w' => e = .returned (.string ⟨(Lib.join (xs.map (·.data.toList)) sep.data.toList).toArray⟩) ∧ Below w.heap.size w w' := Any.strings_Join Tryz.lays156 Tryz.Builder_Extra_156 bk o c xs sep w hcells hbk hN hcap hlen
def Tryz.lays283_ren : Go.Shelf.Ren := ⟨fun | 283 => 164 | n => n, fun | 3 => 3 | 9 => 9 | 4 => 4 | n => n, fun | n => n⟩
theorem Tryz.lays283 : Go.Proofs.Lays.n283 Tryz.prog Tryz.lays283_ren := {
  mixed := by kernel_rfl
  f283 := Tryz.func164.trans (congrArg some (by kernel_rfl))
  t3 := Tryz.underlying3
  a3 := Tryz.isAgg3
  z3 := Tryz.sizeOf3
  v3 := Tryz.zeroValue3
  t4 := Tryz.underlying4
  a4 := Tryz.isAgg4
  z4 := Tryz.sizeOf4
  v4 := Tryz.zeroValue4
  t9 := Tryz.underlying9
  a9 := Tryz.isAgg9
  z9 := Tryz.sizeOf9
  v9 := Tryz.zeroValue9 }
open Go.Lib in
/-- internal/strconv.small: "small returns the string for an i with 0 <= i < nSmalls.": i's decimal numeral. The world is as it was. (LAID: no walk: one application.) -/
theorem Tryz.internal_strconv_small (i : Nat) (h : i < 100) (w : World) :
    Calls Tryz.prog 164 #[.int .i64 i] w fun e w' => e = .returned (.string ⟨(Lib.decDigits i).toArray⟩) ∧ w' = w := Any.internal_strconv_small Tryz.lays283 i h w
def Tryz.laysM284_ren : Go.Shelf.Ren := ⟨fun | 284 => 165 | 129 => 185 | 317 => 184 | 318 => 186 | n => n, fun | 53 => 101 | 3 => 3 | 212 => 184 | 0 => 0 | 4 => 4 | 46 => 157 | 5 => 5 | 9 => 9 | n => n, fun | 17 => 1 | n => n⟩
theorem Tryz.laysM284 : Go.Proofs.LaysM.n284 Tryz.prog Tryz.laysM284_ren := {
  mixed := by kernel_rfl
  f129 := Tryz.func185.trans (congrArg some (by kernel_rfl))
  f284 := Tryz.func165.trans (congrArg some (by kernel_rfl))
  f317 := Tryz.func184.trans (congrArg some (by kernel_rfl))
  f318 := Tryz.func186.trans (congrArg some (by kernel_rfl))
  t0 := Tryz.underlying0
  a0 := Tryz.isAgg0
  z0 := Tryz.sizeOf0
  v0 := Tryz.zeroValue0
  t3 := Tryz.underlying3
  a3 := Tryz.isAgg3
  z3 := Tryz.sizeOf3
  v3 := Tryz.zeroValue3
  t4 := Tryz.underlying4
  a4 := Tryz.isAgg4
  z4 := Tryz.sizeOf4
  v4 := Tryz.zeroValue4
  t5 := Tryz.underlying5
  a5 := Tryz.isAgg5
  z5 := Tryz.sizeOf5
  v5 := Tryz.zeroValue5
  t9 := Tryz.underlying9
  a9 := Tryz.isAgg9
  z9 := Tryz.sizeOf9
  v9 := Tryz.zeroValue9
  t46 := Tryz.underlying157
  a46 := Tryz.isAgg157
  z46 := Tryz.sizeOf157
  v46 := Tryz.zeroValue157
  t53 := Tryz.underlying101
  a53 := Tryz.isAgg101
  z53 := Tryz.sizeOf101
  v53 := Tryz.zeroValue101
  t212 := Tryz.underlying184
  a212 := Tryz.isAgg184
  z212 := Tryz.sizeOf184
  v212 := Tryz.zeroValue184
  g17 := by kernel_rfl
  i0 := by kernel_rfl
  i3 := by kernel_rfl
  i4 := by kernel_rfl
  i5 := by kernel_rfl
  i9 := by kernel_rfl
  i46 := by kernel_rfl
  i53 := by kernel_rfl
  i212 := by kernel_rfl
  m17 := by kernel_rfl }
open Go.Lib in
/-- internal/strconv.numDigits, at a d that is not 0: THE NUMBER OF d's DECIMAL DIGITS. The world is as it was. (LAID: no walk: one application.) -/
theorem Tryz.internal_strconv_numDigits (u : Nat) (h1 : 1 ≤ u) (h2 : u < 18446744073709551616) (w : World) (htab : Lib.TabIs Tryz.prog w "internal/strconv.uint64pow10" .u64 Lib.pow10Tab) :
    Calls Tryz.prog 165 #[.int .u64 u] w fun e w' => e = .returned (.int .i64 (Lib.nDigits u)) ∧ w' = w := Any.internal_strconv_numDigits Tryz.laysM284 u h1 h2 w htab
def Tryz.lays285_ren : Go.Shelf.Ren := ⟨fun | 285 => 166 | n => n, fun | 37 => 66 | 53 => 101 | 3 => 3 | 4 => 4 | 51 => 125 | 9 => 9 | 5 => 5 | 0 => 0 | n => n, fun | n => n⟩
theorem Tryz.lays285 : Go.Proofs.Lays.n285 Tryz.prog Tryz.lays285_ren := {
  mixed := by kernel_rfl
  f285 := Tryz.func166.trans (congrArg some (by kernel_rfl))
  t0 := Tryz.underlying0
  a0 := Tryz.isAgg0
  z0 := Tryz.sizeOf0
  v0 := Tryz.zeroValue0
  t3 := Tryz.underlying3
  a3 := Tryz.isAgg3
  z3 := Tryz.sizeOf3
  v3 := Tryz.zeroValue3
  t4 := Tryz.underlying4
  a4 := Tryz.isAgg4
  z4 := Tryz.sizeOf4
  v4 := Tryz.zeroValue4
  t5 := Tryz.underlying5
  a5 := Tryz.isAgg5
  z5 := Tryz.sizeOf5
  v5 := Tryz.zeroValue5
  t9 := Tryz.underlying9
  a9 := Tryz.isAgg9
  z9 := Tryz.sizeOf9
  v9 := Tryz.zeroValue9
  t37 := Tryz.underlying66
  a37 := Tryz.isAgg66
  z37 := Tryz.sizeOf66
  v37 := Tryz.zeroValue66
  t51 := Tryz.underlying125
  a51 := Tryz.isAgg125
  z51 := Tryz.sizeOf125
  v51 := Tryz.zeroValue125
  t53 := Tryz.underlying101
  a53 := Tryz.isAgg101
  z53 := Tryz.sizeOf101
  v53 := Tryz.zeroValue101 }
open Go.RowKit Go.Sort Go.Lib in
/-- internal/strconv.formatBase10: "formatBase10 formats the decimal representation of u into a. The caller is responsible for ensuring that a is big enough to hold u. If a is too big, leading zeros will be filled in as needed.": THE ROW HOLDS u's DIGITS ('FmtInv .. 0 ..': every place t holds 'dg u (len - 1 - t)'); all else is as it was but for the count of draws. (LAID: no walk: one application.) -/
theorem Tryz.internal_strconv_formatBase10 (blk off cap : Nat) (u : Nat) (d : Array UInt8) (w : World) (hH : Holds (fun (b : UInt8) => Value.int .u8 (b.toNat : Int)) w blk off d) (hu : u < 10 ^ d.size) (hu64 : u < 18446744073709551616) (hsz : d.size < 4611686018427387904) :
    Calls Tryz.prog 166 #[.slice (some ⟨blk, off, none⟩) d.size cap, .int .u64 u] w fun e w' =>
      e = .returned (.tuple #[]) ∧ ∃ (n v' : Nat) (dk : Array UInt8), w' = (putRow (fun (b : UInt8) => Value.int .u8 (b.toNat : Int)) w blk off dk).drewN n ∧ FmtInv d.size u 0 v' dk := Any.internal_strconv_formatBase10 Tryz.lays285 blk off cap u d w hH hu hu64 hsz
def Tryz.lays105_ren : Go.Shelf.Ren := ⟨fun | 105 => 142 | 212 => 176 | 99 => 177 | 165 => 68 | 166 => 20 | 170 => 24 | 169 => 25 | 263 => 194 | 264 => 195 | 206 => 196 | 240 => 41 | 241 => 105 | 276 => 87 | 277 => 150 | n => n, fun | 9 => 9 | 3 => 3 | 4 => 4 | 20 => 20 | 0 => 0 | 46 => 157 | 109 => 179 | 5 => 5 | 72 => 68 | 76 => 72 | 51 => 125 | 146 => 177 | 53 => 101 | 148 => 191 | 70 => 65 | 37 => 66 | 75 => 71 | 127 => 98 | 164 => 123 | 80 => 80 | n => n, fun | n => n⟩
theorem Tryz.lays105 : Go.Proofs.Lays.n105 Tryz.prog Tryz.lays105_ren := {
  mixed := by kernel_rfl
  f99 := Tryz.func177.trans (congrArg some (by kernel_rfl))
  f105 := Tryz.func142.trans (congrArg some (by kernel_rfl))
  f165 := Tryz.func68.trans (congrArg some (by kernel_rfl))
  f166 := Tryz.func20.trans (congrArg some (by kernel_rfl))
  f169 := Tryz.func25.trans (congrArg some (by kernel_rfl))
  f170 := Tryz.func24.trans (congrArg some (by kernel_rfl))
  f206 := Tryz.func196.trans (congrArg some (by kernel_rfl))
  f212 := Tryz.func176.trans (congrArg some (by kernel_rfl))
  f240 := Tryz.func41.trans (congrArg some (by kernel_rfl))
  f241 := Tryz.func105.trans (congrArg some (by kernel_rfl))
  f263 := Tryz.func194.trans (congrArg some (by kernel_rfl))
  f264 := Tryz.func195.trans (congrArg some (by kernel_rfl))
  f276 := Tryz.func87.trans (congrArg some (by kernel_rfl))
  f277 := Tryz.func150.trans (congrArg some (by kernel_rfl))
  t0 := Tryz.underlying0
  a0 := Tryz.isAgg0
  z0 := Tryz.sizeOf0
  v0 := Tryz.zeroValue0
  t3 := Tryz.underlying3
  a3 := Tryz.isAgg3
  z3 := Tryz.sizeOf3
  v3 := Tryz.zeroValue3
  t4 := Tryz.underlying4
  a4 := Tryz.isAgg4
  z4 := Tryz.sizeOf4
  v4 := Tryz.zeroValue4
  t5 := Tryz.underlying5
  a5 := Tryz.isAgg5
  z5 := Tryz.sizeOf5
  v5 := Tryz.zeroValue5
  t9 := Tryz.underlying9
  a9 := Tryz.isAgg9
  z9 := Tryz.sizeOf9
  v9 := Tryz.zeroValue9
  t20 := Tryz.underlying20
  a20 := Tryz.isAgg20
  z20 := Tryz.sizeOf20
  v20 := Tryz.zeroValue20
  t37 := Tryz.underlying66
  a37 := Tryz.isAgg66
  z37 := Tryz.sizeOf66
  v37 := Tryz.zeroValue66
  t46 := Tryz.underlying157
  a46 := Tryz.isAgg157
  z46 := Tryz.sizeOf157
  v46 := Tryz.zeroValue157
  t51 := Tryz.underlying125
  a51 := Tryz.isAgg125
  z51 := Tryz.sizeOf125
  v51 := Tryz.zeroValue125
  t53 := Tryz.underlying101
  a53 := Tryz.isAgg101
  z53 := Tryz.sizeOf101
  v53 := Tryz.zeroValue101
  t70 := Tryz.underlying65
  a70 := Tryz.isAgg65
  z70 := Tryz.sizeOf65
  v70 := Tryz.zeroValue65
  t72 := Tryz.underlying68
  a72 := Tryz.isAgg68
  z72 := Tryz.sizeOf68
  v72 := Tryz.zeroValue68
  t75 := Tryz.underlying71
  a75 := Tryz.isAgg71
  z75 := Tryz.sizeOf71
  v75 := Tryz.zeroValue71
  t76 := Tryz.underlying72
  a76 := Tryz.isAgg72
  z76 := Tryz.sizeOf72
  v76 := Tryz.zeroValue72
  t109 := Tryz.underlying179
  a109 := Tryz.isAgg179
  z109 := Tryz.sizeOf179
  v109 := Tryz.zeroValue179
  t127 := Tryz.underlying98
  a127 := Tryz.isAgg98
  z127 := Tryz.sizeOf98
  v127 := Tryz.zeroValue98
  t146 := Tryz.underlying177
  a146 := Tryz.isAgg177
  z146 := Tryz.sizeOf177
  v146 := Tryz.zeroValue177
  t148 := Tryz.underlying191
  a148 := Tryz.isAgg191
  z148 := Tryz.sizeOf191
  v148 := Tryz.zeroValue191
  t164 := Tryz.underlying123
  a164 := Tryz.isAgg123
  z164 := Tryz.sizeOf123
  v164 := Tryz.zeroValue123 }
theorem Tryz.Builder_Extra_105 : Builder.Extra Tryz.prog Tryz.lays105_ren := {
  sizeBuilder := by kernel_rfl
  liesBuilder := by kernel_rfl
  t5 := Tryz.underlying5
  a5 := Tryz.isAgg5
  z5 := Tryz.sizeOf5
  v5 := Tryz.zeroValue5
  infoByte := by kernel_rfl
  cellsByte := by kernel_rfl
  sizeByte := by kernel_rfl
  neB5 := by decide }
open Go.RowKit Go.Lib in
/-- **strings.Repeat: count ≥ 0, the result within one allocation: count copies of s.** (LAID: no walk: one application.) -/
theorem Tryz.strings_Repeat (s : ByteArray) (c : Nat) (w : World) (hc : c ≤ 9223372036854775807) (hlen : s.size * c ≤ 140737488355328) :
    Calls Tryz.prog 142 #[.string s, .int .i64 c] w fun e w' => e = .returned (.string ⟨(Lib.repeatL s.data.toList c).toArray⟩) ∧ Below w.heap.size w w' := Any.strings_Repeat Tryz.lays105 Tryz.Builder_Extra_105 s c w hc hlen
def Tryz.laysNm217_ren : Go.Shelf.Ren := ⟨fun | 17 => 143 | n => n, fun | 24 => 86 | 9 => 9 | 3 => 3 | 4 => 4 | 0 => 0 | n => n, fun | n => n⟩
theorem Tryz.laysNm217 : Go.Proofs.Lays2.n17 Tryz.prog Tryz.laysNm217_ren := {
  mixed := by kernel_rfl
  f17 := Tryz.func143.trans (congrArg some (by kernel_rfl))
  t0 := Tryz.underlying0
  a0 := Tryz.isAgg0
  z0 := Tryz.sizeOf0
  v0 := Tryz.zeroValue0
  t3 := Tryz.underlying3
  a3 := Tryz.isAgg3
  z3 := Tryz.sizeOf3
  v3 := Tryz.zeroValue3
  t4 := Tryz.underlying4
  a4 := Tryz.isAgg4
  z4 := Tryz.sizeOf4
  v4 := Tryz.zeroValue4
  t9 := Tryz.underlying9
  a9 := Tryz.isAgg9
  z9 := Tryz.sizeOf9
  v9 := Tryz.zeroValue9
  t24 := Tryz.underlying86
  a24 := Tryz.isAgg86
  z24 := Tryz.sizeOf86
  v24 := Tryz.zeroValue86 }
open Go.RowKit Go.Lib Go.Sort in
/-- slices.Reverse at []string: "Reverse reverses the elements of the slice in place.": THE SLICE's CELLS HOLD 'zs.reverse' BEHIND THE CALL; all else is as it was, but for the count of draws (the exchange 's[i], s[j] = s[j], s[i]' draws its order, once a round). IN THE WORDS OF slices.Sort's CONTRACT: 'Holds': the cells hold zs and none is frozen; 'putRow': the world with those cells holding another array. A slice of length 0 that is not nil is among them ('zs = []'); nil: '.._nil'. (LAID: no walk: one application.) -/
theorem Tryz.slices_Reverse_string (blk off cap : Nat) (zs : List (List UInt8)) (w : World) (hH : Holds encStr w blk off zs.toArray) (hsz : zs.length ≤ 9223372036854775807) :
    Calls Tryz.prog 143 #[.slice (some ⟨blk, off, none⟩) zs.length cap] w fun e w' => e = .returned (.tuple #[]) ∧ ∃ n, w' = putRow encStr (Sort.ahead w n) blk off zs.reverse.toArray := Any.slices_Reverse_string Tryz.laysNm217 blk off cap zs w hH hsz
open Go.RowKit Go.Lib Go.Sort in
/-- The same at a slice of length 0, a nil one too: nothing is read, nothing written, nothing drawn. (LAID: no walk: one application.) -/
theorem Tryz.slices_Reverse_string_empty (a : Option Addr) (cap : Nat) (w : World) :
    Calls Tryz.prog 143 #[.slice a 0 cap] w fun e w' => e = .returned (.tuple #[]) ∧ w' = w := Any.slices_Reverse_string_empty Tryz.laysNm217 a cap w
end Go.Proofs
namespace Go.Proofs.YtoogeihbhhcpaaaGreatDoor
open Go.RowKit Go.Fl Go.Sort Go.Lib

abbrev TB (w : World) : Prop := Lib.TabIs Tryz.prog w "internal/strconv.uint64pow10" .u64 Lib.pow10Tab
theorem TB.below {w w' : World} (h : TB w) (hb : Below w.heap.size w w') : TB w' := by
  unfold TB Lib.TabIs World.var? at h ⊢
  cases hg : Tryz.prog.globalNamed "internal/strconv.uint64pow10" with
  | none =>
    rw [hg] at h
    cases h
  | some g =>
    rw [hg] at h
    simp only [Option.bind_some] at h ⊢
    have hlt : g < w.heap.size := by
      rcases Nat.lt_or_ge g w.heap.size with h' | h'
      · exact h'
      · rw [Array.getElem?_eq_none h'] at h; cases h
    rw [hb.block g hlt]
    exact h
theorem holds_zero0 (w : World) (T : TypeId) (nd : Nat) (hs : nd ≤ 24) : Holds (fun (b : UInt8) => Value.int .u8 (b.toNat : Int)) (w.alloc (.cells zeros24 T)) w.heap.size 0 (Array.replicate nd (0 : UInt8)) := fun j hj => by
  have hj' : j < nd := by simpa using hj
  refine ⟨?_, World.frozen?_alloc_new _ _ _ _⟩
  rw [World.cell?_alloc_new, zeros24_at _ (by omega), getElem!_pos _ j hj]
  simp
theorem grow_below (w : World) (k : Nat) (os : Array Obj) : Below w.heap.size w (Sort.grow (w.drewN k) os) :=
  ⟨rfl, rfl, rfl, by simp [Sort.grow, World.drewN], fun i hi => by simp [Sort.grow, World.drewN, Array.getElem?_append, hi]⟩
theorem fin_pos0 (w : World) (o : Obj) (dk : Array UInt8) (k : Nat) : Below w.heap.size w ((putRow (fun (b : UInt8) => Value.int .u8 (b.toNat : Int)) (w.alloc o) w.heap.size 0 dk).drewN k) := by
  rw [alloc_eq_grow]
  obtain ⟨os', _, e⟩ := putRow_grow_new (fun (b : UInt8) => Value.int .u8 (b.toNat : Int)) w #[o] w.heap.size 0 dk (Nat.le_refl _)
  rw [e]
  exact grow_below w k os'

def FmtP (u : Nat) (w : World) (e : Ending) (w' : World) : Prop := e = .returned (.string ⟨(Lib.decDigits u).toArray⟩) ∧ Hid (Below w.heap.size w w')
set_option maxHeartbeats 800000 in
set_option maxRecDepth 100000 in
theorem fmtUint_in (u : Nat) (hu : u < 4294967296) (w : World) (htab : TB w) : Calls Tryz.prog 175 #[.int .u64 u, .int .i64 10] w (FmtP u w) := by
  by_cases hs : u < 100
  · go_enter Tryz.func175, Tryz.ntmps175
    go_wp2_with fail
    refine (Tryz.internal_strconv_small u hs w).mono ?_
    rintro e w1 ⟨rfl, rfl⟩
    go_wp2_with fail
    go_ret
    exact ⟨rfl, Lib.hid (Below.refl _ _)⟩
  · have hu1 : 1 ≤ u := by omega
    have hu64 : u < 18446744073709551616 := by omega
    have hnd20 : Lib.nDigits u ≤ 20 := by have := Lib.numDigits_eq u hu1 hu64; split at this <;> omega
    have hal : Tryz.prog.arrayLen 166 = 24 := by simp [Program.arrayLen, Tryz.underlying166]
    have hsl : ∀ W, (Instr.sliceAt 166 (.pointer (some ⟨w.heap.size, 0, none⟩)) none (some (.int .i64 (Lib.nDigits u : Int))) none).run Tryz.prog W = .ok (.slice (some ⟨w.heap.size, 0, none⟩) (Lib.nDigits u) 24) W := fun W => by
      rw [run_sliceAt_array_h W 166 ⟨w.heap.size, 0, none⟩ (by simp [Program.arrayLen, Program.elem, Tryz.underlying166]) .i64 (Lib.nDigits u : Int) (by omega) (by rw [hal]; omega)]
      go_simp
    have hH0 := holds_zero0 w 166 (Lib.nDigits u) (by omega)
    have hfmt := Tryz.internal_strconv_formatBase10 w.heap.size 0 24 u (Array.replicate (Lib.nDigits u) 0) (w.alloc (.cells Lib.zeros24 166)) hH0 (by rw [Array.size_replicate]; exact Lib.lt_pow_nDigits u) hu64 (by rw [Array.size_replicate]; omega)
    rw [Array.size_replicate] at hfmt
    have HH0 := Lib.hid hH0
    have HT := Lib.hid htab
    have hd : decide ((u : Int) < 100) = false := by simp; omega
    clear hH0 hal htab hs
    go_enter Tryz.func175, Tryz.ntmps175
    go_wp2_with fail
    refine (Tryz.internal_strconv_numDigits u hu1 hu64 _ (Lib.tabIs_alloc HT.out _)).mono ?_
    rintro e w1 ⟨rfl, rfl⟩
    go_wp2_with fail
    refine hfmt.mono ?_
    rintro e w' ⟨rfl, k, v', dk, rfl, hF⟩
    have hcv : (convert 66 9 (.slice (some ⟨w.heap.size, 0, none⟩) (Lib.nDigits u) 24)).run Tryz.prog ((putRow (fun (b : UInt8) => Value.int .u8 (b.toNat : Int)) (w.alloc (.cells Lib.zeros24 166)) w.heap.size 0 dk).drewN k) = .ok (.string ⟨(Lib.decDigits u).toArray⟩) ((putRow (fun (b : UInt8) => Value.int .u8 (b.toNat : Int)) (w.alloc (.cells Lib.zeros24 166)) w.heap.size 0 dk).drewN k) := by
      have h := run_convert_bytes_back (P := Tryz.prog) ((putRow (fun (b : UInt8) => Value.int .u8 (b.toNat : Int)) (w.alloc (.cells Lib.zeros24 166)) w.heap.size 0 dk).drewN k) 66 9 5 ⟨w.heap.size, 0, none⟩ 24 (Lib.decDigits u) Tryz.underlying66 Tryz.underlying5 Tryz.underlying9 (fun j hj => by
        rw [Lib.row_is_numeral hF j hj, Lib.add_plain, World.cell?_drewN]
        exact cell?_putRow (fun (b : UInt8) => Value.int .u8 (b.toNat : Int)) _ w.heap.size 0 _ dk HH0.out (by rw [hF.size, Array.size_replicate]) j (by rw [hF.size]; rw [Lib.decDigits_length] at hj; exact hj))
      rw [Lib.decDigits_length] at h
      exact h
    go_wp2_with fail
    go_ret
    exact ⟨rfl, Lib.hid (fin_pos0 w _ dk k)⟩
set_option maxRecDepth 100000 in
theorem fmtUint_any (u : Nat) (hu : u < 4294967296) (w : World) (htab : TB w) : Calls Tryz.prog 141 #[.int .u64 u, .int .i64 10] w (FmtP u w) := by
  have HT := Lib.hid htab
  clear htab
  go_enter Tryz.func141, Tryz.ntmps141
  go_wp2_with fail
  refine (fmtUint_in u hu w HT.out).mono ?_
  rintro e w1 ⟨rfl, HB⟩
  go_wp2_with fail
  go_ret
  exact ⟨rfl, HB⟩
end Go.Proofs.YtoogeihbhhcpaaaGreatDoor
namespace Go.Fl.Nm
open Go.Lib Go.RowKit Go.Fl

/-- The k last decimal digits. -/
def fixD : Nat → Nat → List UInt8
  | 0, _ => []
  | k + 1, r => fixD k (r / 10) ++ [UInt8.ofNat (48 + r % 10)]
theorem fix_zero (k : Nat) : fixD k 0 = List.replicate k 48 := by
  induction k with
  | zero => rfl
  | succ k ih => rw [fixD, Nat.zero_div, ih, List.replicate_succ']; rfl
theorem nDigits_le (k : Nat) : ∀ r, r < 10 ^ (k + 1) → nDigits r ≤ k + 1 := by
  induction k with
  | zero => intro r h; rw [nDigits_small (by simpa using h)]; omega
  | succ k ih =>
    intro r h
    by_cases h10 : r < 10
    · rw [nDigits_small h10]; omega
    · rw [nDigits_big h10]
      have := ih (r / 10) (by rw [Nat.div_lt_iff_lt_mul (by omega)]; rw [Nat.pow_succ] at h; exact h)
      omega
theorem nDigits_pos (r : Nat) : 0 < nDigits r := by
  by_cases h10 : r < 10
  · rw [nDigits_small h10]; omega
  · rw [nDigits_big h10]; omega
theorem dec_big {u : Nat} (h : ¬ u < 10) : decDigits u = decDigits (u / 10) ++ [UInt8.ofNat (48 + u % 10)] := by
  rw [decDigits, dif_neg h]
theorem pad_fix (k : Nat) : ∀ r, r < 10 ^ (k + 1) → List.replicate (k + 1 - nDigits r) 48 ++ decDigits r = fixD (k + 1) r := by
  induction k with
  | zero =>
    intro r h
    have h10 : r < 10 := by simpa using h
    rw [nDigits_small h10, decDigits_one h10]
    simp only [fixD]
    rw [Nat.mod_eq_of_lt h10]
    rfl
  | succ k ih =>
    intro r h
    by_cases h10 : r < 10
    · rw [nDigits_small h10, decDigits_one h10, fixD, Nat.div_eq_of_lt h10, fix_zero, Nat.mod_eq_of_lt h10]
      rfl
    · rw [nDigits_big h10, dec_big h10, fixD, ← List.append_assoc]
      have := ih (r / 10) (by rw [Nat.div_lt_iff_lt_mul (by omega)]; rw [Nat.pow_succ] at h; exact h)
      rw [← this]
      congr 3
      omega
theorem dec_split (k : Nat) : ∀ v, 10 ^ k ≤ v → 0 < v / 10 ^ k → decDigits v = decDigits (v / 10 ^ k) ++ fixD k (v % 10 ^ k) := by
  induction k with
  | zero => intro v _ _; simp [fixD]
  | succ k ih =>
    intro v h h0
    have hp : 0 < 10 ^ k := Nat.pow_pos (by omega)
    have h10 : ¬ v < 10 := by
      have : 1 * 10 ≤ 10 ^ k * 10 := Nat.mul_le_mul_right _ hp
      rw [Nat.pow_succ] at h
      omega
    have e1 : v / 10 / 10 ^ k = v / 10 ^ (k + 1) := by rw [Nat.div_div_eq_div_mul, Nat.pow_succ, Nat.mul_comm]
    have e2 : v % 10 ^ (k + 1) / 10 = v / 10 % 10 ^ k := by rw [Nat.pow_succ, Nat.mul_comm, Nat.mod_mul_right_div_self]
    have e3 : v % 10 ^ (k + 1) % 10 = v % 10 := by rw [Nat.pow_succ, Nat.mul_comm, Nat.mod_mul_right_mod]
    rw [dec_big h10, ih (v / 10) (by rw [Nat.le_div_iff_mul_le (by omega)]; rw [Nat.pow_succ] at h; exact h) (by rw [e1]; exact h0), fixD, e1, e2, e3, List.append_assoc]
def decE (v : Nat) : List UInt8 := if v = 0 then [] else decDigits v
/-- A part of the text. -/
def partD (v : Nat) : List UInt8 := if v / 1000000000 = 0 then decDigits (v % 1000000000) else List.replicate (9 - nDigits (v % 1000000000)) 48 ++ decDigits (v % 1000000000)
theorem decE_step (v : Nat) (h : 0 < v) : decE v = decE (v / 1000000000) ++ partD v := by
  unfold decE partD
  rw [if_neg (by omega)]
  by_cases h0 : v / 1000000000 = 0
  · rw [if_pos h0, if_pos h0, Nat.mod_eq_of_lt (by omega)]; rfl
  · rw [if_neg h0, if_neg h0, pad_fix 8 (v % 1000000000) (by have := Nat.mod_lt v (show 0 < 1000000000 by omega); simpa using this)]
    have := dec_split 9 v (by omega) (by simp; omega)
    simpa using this
theorem partD_pos (v : Nat) : 0 < (partD v).length := by
  unfold partD
  have := nDigits_pos (v % 1000000000)
  split <;> simp [decDigits_length] <;> omega
theorem dec_len_le {v n N : Nat} (h : v < BB ^ n) (hn : 32 * n ≤ N + 1) : (decDigits v).length ≤ N + 1 := by
  rw [decDigits_length]
  apply nDigits_le
  rw [BB_pow, ← Nat.pow_mul] at h
  exact Nat.lt_of_lt_of_le h (Nat.le_trans (Nat.pow_le_pow_left (by omega) _) (Nat.pow_le_pow_right (by omega) hn))
theorem flat_len {ps : List (List UInt8)} (h : ∀ p ∈ ps, 0 < p.length) : ps.length ≤ ps.flatten.length := by
  induction ps with
  | nil => simp
  | cons p ps ih =>
    have h1 := h p (by simp)
    have h2 := ih (fun q hq => h q (by simp [hq]))
    rw [List.flatten_cons, List.length_append, List.length_cons]; omega
theorem join_none (ps : List (List UInt8)) : Lib.join ps [] = ps.flatten := by
  cases ps with
  | nil => rfl
  | cons p r =>
    rw [Lib.join_cons]
    simp [Lib.joinTail]
theorem flat_rev_len (ps : List (List UInt8)) : ps.reverse.flatten.length = ps.flatten.length := by
  simp [List.length_flatten]
def strC (ps : List (List UInt8)) : List Value := ps.map fun p => Value.string ⟨p.toArray⟩
theorem ba_cat (a b : List UInt8) : (⟨a.toArray⟩ ++ ⟨b.toArray⟩ : ByteArray) = ⟨(a ++ b).toArray⟩ := by
  apply ByteArray.ext
  simp
theorem Sl.kept4 {w w' : World} {A : Option Addr} {n c : Nat} {l : List Nat} {row : Option Nat} (h : Sl w A n c l) (hg : w.grownBy w' row) (hA : 0 < n → ∀ b o, A = some ⟨b, o, none⟩ → ∀ k, row = some k → k ≠ b) : Sl w' A n c l :=
  ⟨h.1, h.2.1, h.2.2.1, h.2.2.2.1, h.2.2.2.2.1, h.rd.1, fun h0 => by
    obtain ⟨b, off, hAA, hb, hc⟩ := h.rd.2 h0
    refine ⟨b, off, hAA, by have := hg.size; omega, fun j u hu => hg.cell (hc j u hu) ?_⟩
    intro e
    exact hA h0 b off hAA b e.symm rfl⟩
theorem own_below' {w w' : World} {base size n : Nat} {e : TypeId} {v : Value} {xs : List Value} (h : w.ownsRow base e size v n xs) (hb : Below w.heap.size w w') : w'.ownsRow base e size v n xs := by
  have hg : w.grownBy w' none := ⟨hb.os, hb.tape, hb.output, hb.size, fun k hk _ => hb.block k hk⟩
  cases hv : v.ownBlock with
  | none => exact h.kept hg (.inl hv)
  | some k => exact h.kept hg (.inr (by simp [hv]))
end Go.Fl.Nm

namespace Go.Proofs.YtoogeihbhhcpaaaGreatDoor
open Go.RowKit Go.Fl Go.Fl.Nm Go.Lib

theorem Tryz.infoStr : (Tryz.prog.info? 9).map (fun i => (i.zero, i.size, i.bytes)) = some (some (.string ⟨#[]⟩), 1, 16) := by kernel_rfl

def TextP (v : Nat) (w : World) (e : Ending) (w' : World) : Prop := e = .returned (.tuple #[.string ⟨(decDigits v).toArray⟩, .int .i64 0]) ∧ Hid (Below w.heap.size w w')
def TextRel (w : World) (V : Nat) (k : Nat) (av pv : Value) (wr : World) : Prop :=
  ∃ (X : Option Addr) (nx cx : Nat) (lx : List Nat) (ps : List (List UInt8)) (m : Nat), av = .slice X nx cx ∧ Hid (Sl wr X nx cx lx) ∧ Hid (val lx = k) ∧ nx ≤ 256 ∧ Hid (tl lx = nx) ∧ Hid (ps.length = m) ∧ m ≤ 8192 ∧
    Hid (wr.ownsRow w.heap.size 9 1 pv m (strC ps)) ∧ Hid (decE k ++ ps.reverse.flatten = decDigits V) ∧ Hid (∀ p ∈ ps, 0 < p.length) ∧ Hid (Below w.heap.size w wr)

set_option maxHeartbeats 1600000 in
set_option maxRecDepth 100000 in
theorem nText_ok (A : Option Addr) (n c : Nat) (a : List Nat) (w : World) (ha : Sl w A n c a) (hn : n ≤ 256) (ht : TB w) :
    Calls Tryz.prog 97 #[.slice A n c] w (TextP (val a) w) := by
  have HA := Lib.hid ha
  have HT := Lib.hid ht
  have hnm := ha.max
  have hd : decide (256 < n) = false := by simp; omega
  have hta := (trim_sl ha).1
  have HA2 := Lib.hid (trim_sl ha).2
  have HVA := Lib.hid (val_trim a)
  have HTT := Lib.hid (tl_take a)
  have HZ := Lib.hid (val_zero_iff (l := a))
  have HLEN := Lib.hid (dec_len_le (N := 8191) (val_lt_tl ha.ok) (by omega))
  generalize hka : tl a = ka at *
  have HKA := Lib.hid hka
  clear ha ht hka
  go_enter Tryz.func97, Tryz.ntmps97
  go_wp2_with fail
  refine (longFn_natural.one A n c _ hnm).mono ?_
  rintro e w1 ⟨rfl, hw1⟩
  rw [hd]
  clear hd
  have HL1 := Lib.hid (show Below w.heap.size w w1 by rw [hw1]; exact (Below.refl _ _).alloc (Nat.le_refl _) _)
  clear hw1
  have HA1 := Lib.hid (HA.out.below HL1.out)
  go_wp2_with fail
  refine (trim_any A n c a w1 HA1.out).mono ?_
  rintro e w1' ⟨rfl, rfl⟩
  rw [HKA.out]
  by_cases hk0 : ka = 0
  · subst hk0
    have HV0 := Lib.hid (HZ.out.2 rfl)
    go_wp2_with fail
    refine bodyPost_ret (v := .tuple #[.string ⟨#[48]⟩, .int .i64 0]) (by simp [results, Tryz.results97, go_sem]) rfl ?_
    refine ⟨?_, HL1⟩
    rw [HV0.out, decDigits_one (by omega)]
    rfl
  · have hkd : ((ka : Int) == 0) = false := by rw [beq_eq_false_iff_ne]; omega
    have HVP := Lib.hid (show 0 < val a from by
      rcases Nat.eq_zero_or_pos (val a) with h | h
      · exact absurd (HZ.out.1 h) hk0
      · exact h)
    clear hk0
    go_wp2_with fail
    go_loopg [0, 4] (val a) (TextRel w (val a))
    case atStart =>
      refine ⟨A, ka, c, _, [], 0, rfl, Lib.hid (HA2.out.below HL1.out), HVA, by omega, HTT, Lib.hid rfl, by omega, Lib.hid ⟨rfl, .inl ⟨rfl, rfl⟩⟩, Lib.hid ?_, Lib.hid (fun p hp => by cases hp), HL1⟩
      unfold decE
      rw [if_neg (by have := HVP.out; omega)]
      simp
    case round =>
      obtain ⟨X, nx, cx, lx, ps, m, rfl, HX, HXV, hnx, HXT, HPL, hm, HOW, HD, HPP, HBL⟩ := hrel
      by_cases h0 : nx = 0
      · subst h0
        have HK0 := Lib.hid (show gk = 0 by rw [← HXV.out]; exact val_zero_iff.2 HXT.out)
        have hfl : ps.reverse.flatten = decDigits (val a) := by
          have := HD.out
          rw [HK0.out] at this
          exact this
        have hps : 0 < m := by
          rcases Nat.eq_zero_or_pos m with h | h
          · have h1 := HPL.out
            rw [h] at h1
            rw [List.eq_nil_of_length_eq_zero h1] at hfl
            have h2 := congrArg List.length hfl
            rw [decDigits_length] at h2
            have h3 := Go.Fl.Nm.nDigits_pos (val a)
            simp at h2
            omega
          · exact h
        obtain ⟨hol, ho⟩ := HOW.out
        rcases ho with ⟨ho1, ho2⟩ | ⟨g, cap, cs, rfl, hg, hB, hcap, hcm, hcs, htk⟩
        · exfalso
          have h1 := HPL.out
          simp [strC] at hol
          omega
        have hB : Blk wr g 9 cs := hB
        have HFL := Lib.hid hfl
        have HH := Lib.hid (show Sort.Holds encStr wr g 0 ps.toArray from fun j hj => by
          have hj' : j < ps.length := by simpa using hj
          refine ⟨?_, hB.frozen _⟩
          rw [hB.cell, Nat.zero_add]
          have h1 : (strC ps)[j]? = some (encStr ps.toArray[j]!) := by
            simp [strC, hj', encStr]
          rw [← htk] at h1
          rw [Nat.mul_one] at h1
          rw [List.getElem?_take] at h1
          split at h1
          · rw [← h1, Array.getElem?_toList]
          · cases h1)
        have hgs := hB.lt
        clear hol hB hcs htk hfl
        have h1 := HPL.out
        subst h1
        go_wp2_with fail
        refine (Tryz.slices_Reverse_string g 0 cap ps wr HH.out (by omega)).mono ?_
        rintro e w2 ⟨rfl, q, hw2⟩
        have HL2 := Lib.hid (show Below w.heap.size w w2 by rw [hw2]; exact below_putRow HBL.out hg)
        have HC2 := Lib.hid (show ∀ (j : Nat) x, (ps.reverse.map fun p => (⟨p.toArray⟩ : ByteArray))[j]? = some x → w2.cell? ⟨g, 0 + j, none⟩ = some (.string x) by
          intro j x hx
          rw [List.getElem?_map, Option.map_eq_some_iff] at hx
          obtain ⟨p, hp, rfl⟩ := hx
          have hjl : j < ps.reverse.length := by
            rcases Nat.lt_or_ge j ps.reverse.length with h | h
            · exact h
            · rw [List.getElem?_eq_none h] at hp; cases hp
          rw [hw2, Sort.cell?_putRow encStr _ g 0 ps.toArray ps.reverse.toArray (show Sort.Holds encStr (Sort.ahead wr q) g 0 ps.toArray from fun j hj => HH.out j hj) (by simp) j (by simpa using hjl)]
          have hg : ps.reverse.toArray[j]! = p := by
            rw [getElem!_def, List.getElem?_toArray, hp]
          rw [hg])
        have hs2 : g < w2.heap.size := by
          have h2 := HC2.out 0
          have h3 : 0 < (ps.reverse.map fun p => (⟨p.toArray⟩ : ByteArray)).length := by simpa using hps
          exact World.block_lt_of_cell? w2 _ (h2 _ (List.getElem?_eq_getElem h3))
        clear hw2
        obtain ⟨xs, hxs⟩ : ∃ xs : List ByteArray, xs = ps.reverse.map fun p => ⟨p.toArray⟩ := ⟨_, rfl⟩
        have HXS := Lib.hid hxs
        rw [← hxs] at HC2
        have hxl : xs.length = ps.length := by rw [hxs]; simp
        have hxj : Lib.join (xs.map (·.data.toList)) (⟨#[]⟩ : ByteArray).data.toList = decDigits (val a) := by
          rw [hxs, ← HFL.out, ← join_none]
          congr 1
          rw [List.map_map]
          exact List.map_id _
        have J := Tryz.strings_Join g 0 cap xs ⟨#[]⟩ w2 HC2.out hs2 (by omega) (by omega) (by rw [hxj]; have := HLEN.out; omega)
        rw [hxl, hxj] at J
        have HJ := Lib.hid J
        clear J hxs hxl hxj
        go_wp2_with fail
        refine HJ.out.mono ?_
        rintro e w3 ⟨rfl, hb3⟩
        have HL3 := Lib.hid (HL2.out.trans (hb3.mono HL2.out.size))
        clear hb3
        go_wp2_with fail
        refine bodyPost_ret (v := .tuple #[.string ⟨(decDigits (val a)).toArray⟩, .int .i64 0]) (by simp [results, Tryz.results97, go_sem]) rfl ?_
        exact ⟨rfl, HL3⟩
      · have hd : decide (0 < nx) = true := by simp; omega
        have hk0 : 0 < gk := by
          rw [← HXV.out]
          rcases Nat.eq_zero_or_pos (val lx) with h | h
          · exact absurd (HXT.out.symm.trans (val_zero_iff.1 h)) h0
          · exact h
        clear h0
        have HST := Lib.hid (decE_step gk hk0)
        go_wp2_with fail
        refine (short_any X nx cx 1000000000 lx wr HX.out (by omega) (by omega) (by omega)).mono ?_
        rw [HXV.out]
        rintro e w2 ⟨Q, cq, lq, rfl, HQ, HQV, HL2⟩
        have hrB : gk % 1000000000 < 1000000000 := Nat.mod_lt _ (by omega)
        have htq := (trim_nw HQ.out).1
        have HTQ := Lib.hid (trim_nw HQ.out).2
        have HTV := Lib.hid (val_trim lq)
        have HTT2 := Lib.hid (tl_take lq)
        have HZ2 := Lib.hid (val_zero_iff (l := lq))
        rw [HQV.out] at HTV HZ2
        generalize hkq : tl lq = kq at *
        have HKQ := Lib.hid hkq
        clear hkq
        have HNE := Lib.hid (show 0 < kq → ∀ b o, Q = some ⟨b, o, none⟩ → ∀ k, u4.ownBlock = some k → k ≠ b from fun h0 b o hQ k hk => by
          obtain ⟨g, cs, hg, hge, _⟩ := HTQ.out.2 h0
          rw [hg] at hQ
          cases hQ
          have := (HOW.out.lt k hk).2
          omega)
        have HT2 := Lib.hid (TB.below (TB.below HT.out HBL.out) HL2.out)
        have HOW2 := Lib.hid (own_below' HOW.out HL2.out)
        have HBL2 := Lib.hid (HBL.out.trans (HL2.out.mono HBL.out.size))
        have hnd1 := Go.Fl.Nm.nDigits_pos (gk % 1000000000)
        have hnd9 := nDigits_le 8 (gk % 1000000000) (by simpa using hrB)
        have HPD := Lib.hid (show partD gk = if gk / 1000000000 = 0 then decDigits (gk % 1000000000) else List.replicate (9 - nDigits (gk % 1000000000)) 48 ++ decDigits (gk % 1000000000) from rfl)
        have HPP2 := Lib.hid (partD_pos gk)
        have HDL := Lib.hid (decDigits_length (gk % 1000000000))
        have HQL := Lib.hid (Nat.div_lt_self hk0 (show 1 < 1000000000 by omega))
        generalize hpd : partD gk = pd at *
        generalize hrr : gk % 1000000000 = r at *
        generalize hqq : gk / 1000000000 = q at *
        have HBND := Lib.hid (show m + 1 ≤ 8192 by
          have h1 := HD.out
          rw [HST.out, List.append_assoc] at h1
          have h2 := congrArg List.length h1
          simp only [List.length_append] at h2
          have h3 := flat_len HPP.out
          rw [← flat_rev_len, HPL.out] at h3
          have h4 := HLEN.out
          have h5 := HPP2.out
          omega)
        clear hpd hrr hqq
        go_wp2_with fail
        refine (trim_any Q nx cq lq w2 HQ.out.sl).mono ?_
        rintro e w2' ⟨rfl, rfl⟩
        rw [HKQ.out]
        go_wp2_with fail
        refine (fmtUint_any r (by omega) w2 HT2.out).mono ?_
        rintro e w3 ⟨rfl, HL3⟩
        have hsz : (⟨(decDigits r).toArray⟩ : ByteArray).size = nDigits r := by rw [← HDL.out]; rfl
        have HOW3 := Lib.hid (own_below' HOW2.out HL3.out)
        have HBL3 := Lib.hid (HBL2.out.trans (HL3.out.mono HBL2.out.size))
        have HTQ3 := Lib.hid (HTQ.out.sl.below HL3.out)
        obtain ⟨nd, hnd⟩ : ∃ nd, nd = nDigits r := ⟨_, rfl⟩
        rw [← hnd] at hsz hnd1 hnd9 HPD
        have HND := Lib.hid hnd
        clear hnd
        by_cases hq0 : kq = 0
        · subst hq0
          have HQ0 := Lib.hid (HZ2.out.2 rfl)
          have HPE := Lib.hid (show decDigits r = pd by rw [HPD.out, if_pos HQ0.out])
          rw [HPE.out] at hsz ⊢
          obtain ⟨i0, ti, tz0, tz1, tz2⟩ := info_parts Tryz.infoStr
          have hbs := HBL3.out.size
          go_wp2_with (at_builtin; refine wpList_append_lies _ rfl _ _ _ rfl w.heap.size 9 i0 _ 1 16 Tryz.underlying86 ti tz0 tz1 tz2 rfl (by omega) u4 m (strC ps) rfl (by exact HOW3.out.alloc _) ⟨w3.heap.size, 0, none⟩ 1 1 [.string ⟨pd.toArray⟩] rfl rfl (by exact World.news_of_block (cs := #[.string ⟨pd.toArray⟩]) (t := 9) (fr := (0, 0)) (by have := heap_alloc_new w3 (.cells #[.string ⟨pd.toArray⟩] 9); simpa using this)) (by simp [Value.oneCell']) (by omega) (by unfold maxLen; omega) (by omega) (by simp; omega) (w3.heap.size + 1) (by simp) ?_)
          intro g cap w4 hown hgrow hat hlt2
          have HO4 := Lib.hid hown
          have HL4 := Lib.hid (show Below w.heap.size w w4 from (HBL3.out.alloc (by omega) _).grown hgrow (by simp; omega) (fun k hk => (HOW3.out.lt k hk).1))
          have HQ4 := Lib.hid ((HTQ3.out.alloc (.cells #[.string ⟨pd.toArray⟩] 9)).kept4 hgrow HNE.out)
          clear hown hgrow hat hlt2 ti tz0 tz1 tz2
          go_wp2_with fail
          go_roundg q
          case measure => exact HQL.out
          case rel =>
            refine ⟨Q, 0, cq, _, ps ++ [pd], m + 1, rfl, HQ4, HTV, by omega, HTT2, Lib.hid (by rw [List.length_append, HPL.out]; rfl), HBND.out, Lib.hid ?_, Lib.hid ?_, Lib.hid ?_, HL4⟩
            · have := HO4.out
              unfold strC at this ⊢
              rw [List.map_append]
              exact this
            · have := HD.out
              rw [HST.out] at this
              rw [List.reverse_append, List.reverse_singleton, List.flatten_append, List.flatten_singleton, ← List.append_assoc]
              exact this
            · intro p hp
              rcases List.mem_append.1 hp with h | h
              · exact HPP.out p h
              · rw [List.mem_singleton.1 h]; exact HPP2.out
        · have hqd : decide (0 < kq) = true := by simp; omega
          have HPE := Lib.hid (show repeatL (⟨#[48]⟩ : ByteArray).data.toList (9 - nd) ++ decDigits r = pd by
            rw [HPD.out, if_neg (fun h => hq0 (HZ2.out.1 h))]
            congr 1
            have := repeatL_replicate 48 1 (9 - nd)
            simpa using this)
          have R := Tryz.strings_Repeat ⟨#[48]⟩ (9 - nd) w3 (by omega) (by simp [ByteArray.size]; omega)
          rw [show ((9 - nd : Nat) : Int) = 9 - (nd : Int) by omega] at R
          have HR := Lib.hid R
          clear R hq0
          go_wp2_with fail
          refine HR.out.mono ?_
          rintro e w5 ⟨rfl, hb5⟩
          have HOW5 := Lib.hid (own_below' HOW3.out hb5)
          have HBL5 := Lib.hid (HBL3.out.trans (hb5.mono HBL3.out.size))
          have HTQ5 := Lib.hid (HTQ3.out.below hb5)
          have hcat := ba_cat (repeatL [48] (9 - nd)) (decDigits r)
          rw [show repeatL [48] (9 - nd) ++ decDigits r = pd from HPE.out] at hcat
          have hsz2 : (⟨(repeatL [48] (9 - nd)).toArray⟩ : ByteArray).size = 9 - nd := by
            have := repeatL_length [48] (9 - nd)
            simpa [ByteArray.size] using this
          clear hb5
          obtain ⟨i0, ti, tz0, tz1, tz2⟩ := info_parts Tryz.infoStr
          have hbs := HBL5.out.size
          go_wp2_with (at_builtin; refine wpList_append_lies _ rfl _ _ _ rfl w.heap.size 9 i0 _ 1 16 Tryz.underlying86 ti tz0 tz1 tz2 rfl (by omega) u4 m (strC ps) rfl (by exact HOW5.out.alloc _) ⟨w5.heap.size, 0, none⟩ 1 1 [.string ⟨pd.toArray⟩] rfl rfl (by exact World.news_of_block (cs := #[.string ⟨pd.toArray⟩]) (t := 9) (fr := (0, 0)) (by have := heap_alloc_new w5 (.cells #[.string ⟨pd.toArray⟩] 9); simpa using this)) (by simp [Value.oneCell']) (by omega) (by unfold maxLen; omega) (by omega) (by simp; omega) (w5.heap.size + 1) (by simp) ?_)
          intro g cap w4 hown hgrow hat hlt2
          have HO4 := Lib.hid hown
          have HL4 := Lib.hid (show Below w.heap.size w w4 from (HBL5.out.alloc (by omega) _).grown hgrow (by simp; omega) (fun k hk => (HOW5.out.lt k hk).1))
          have HQ4 := Lib.hid ((HTQ5.out.alloc (.cells #[.string ⟨pd.toArray⟩] 9)).kept4 hgrow HNE.out)
          clear hown hgrow hat hlt2 ti tz0 tz1 tz2
          go_wp2_with fail
          go_roundg q
          case measure => exact HQL.out
          case rel =>
            refine ⟨Q, kq, cq, _, ps ++ [pd], m + 1, rfl, HQ4, HTV, by omega, HTT2, Lib.hid (by rw [List.length_append, HPL.out]; rfl), HBND.out, Lib.hid ?_, Lib.hid ?_, Lib.hid ?_, HL4⟩
            · have := HO4.out
              unfold strC at this ⊢
              rw [List.map_append]
              exact this
            · have := HD.out
              rw [HST.out] at this
              rw [List.reverse_append, List.reverse_singleton, List.flatten_append, List.flatten_singleton, ← List.append_assoc]
              exact this
            · intro p hp
              rcases List.mem_append.1 hp with h | h
              · exact HPP.out p h
              · rw [List.mem_singleton.1 h]; exact HPP2.out
end Go.Proofs.YtoogeihbhhcpaaaGreatDoor
namespace Go.Fl.Nm
open Go.RowKit Go.Fl Go.Lib
theorem limbs_one {x : Nat} (h0 : 0 < x) (h : x < BB) : limbs x = [x] := by
  rw [limbs_pos (by omega), Nat.mod_eq_of_lt h, Nat.div_eq_of_lt h, limbs_zero]
theorem Sl.new {w : World} {t : TypeId} {l : List Nat} (n : Nat) (hok : Go.Fl.Nm.ok l) (hn : l.length = n) (hm : n ≤ maxLen) : Sl (w.alloc (.cells (UA l) t)) (some ⟨w.heap.size, 0, none⟩) n n l :=
  (Nw.of_blk (base := 0) (Blk.new w t _) hok (Nat.zero_le _) hn hm).sl
end Go.Fl.Nm

namespace Go.Proofs.YtoogeihbhhcpaaaGreatDoor
open Go.RowKit Go.Fl Go.Fl.Nm Go.Lib

theorem ResV.small {v : Nat} {l : List Nat} {er : Int} (h : ResV v l er) (hl : (limbs v).length ≤ 256) : er = 0 ∧ l = limbs v := by
  rcases h with ⟨h1, h2, _⟩ | ⟨_, _, h3⟩
  · exact ⟨h1, h2⟩
  · omega

end Go.Proofs.YtoogeihbhhcpaaaGreatDoor
