/-
  The walks of math/bits.TrailingZeros32, dyadic.trimmed, low, size.
-/
import Derived.Test.YtffdkakogeofmaaGreatDoorPkE
import Derived.Test.YtffdkakogeofmaaGreatDoorPkA
import Derived.Shelf.Spec.TrailingZeros
import Derived.Lib.LaidTab
import Derived.Lib.ItoaMem
set_option linter.unusedVariables false
namespace Go.Fl.Dy
theorem ctz_v2 (f x : Nat) (h0 : x ≠ 0) (hx : x < 2 ^ f) : Lib.ctz f x = v2 x := by
  unfold Lib.ctz
  rw [if_neg h0]
  obtain ⟨m, hm, _⟩ := Lib.ctzFrom_spec f x (by omega) hx
  exact (v2_unique (by omega) hm).1.symm
end Go.Fl.Dy
namespace Go.Proofs.YtffdkakogeofmaaGreatDoor
open Go.RowKit Go.Fl Go.Fl.Nm Go.Fl.Dy

def ints (l : List Nat) : List Int := l.map fun x : Nat => (x : Int)
/-- The tables of the library that are read. -/
structure RB (w : World) : Prop where
  p10 : Lib.TabIs Tryz.prog w "internal/strconv.uint64pow10" .u64 Lib.pow10Tab
  t32 : Lib.TabIs Tryz.prog w "math/bits.deBruijn32tab" .u8 (ints Lib.deBruijn32tab)
  t64 : Lib.TabIs Tryz.prog w "math/bits.deBruijn64tab" .u8 (ints Lib.deBruijn64tab)
theorem tab_below {name : String} {g : Nat} {k : IntKind} {zs : List Int} {w w' : World} (hg : Tryz.prog.globalNamed name = some g) (h : Lib.TabIs Tryz.prog w name k zs) (hb : Below w.heap.size w w') : Lib.TabIs Tryz.prog w' name k zs := by
  unfold Lib.TabIs World.var? at h ⊢
  rw [hg] at h ⊢
  simp only [Option.bind_some] at h ⊢
  have hlt : g < w.heap.size := by
    rcases Nat.lt_or_ge g w.heap.size with h' | h'
    · exact h'
    · rw [Array.getElem?_eq_none h'] at h; cases h
  rw [hb.block g hlt]
  exact h
theorem g10 : Tryz.prog.globalNamed "internal/strconv.uint64pow10" = some 5 := by kernel_rfl
theorem g32 : Tryz.prog.globalNamed "math/bits.deBruijn32tab" = some 4 := by kernel_rfl
theorem g64 : Tryz.prog.globalNamed "math/bits.deBruijn64tab" = some 6 := by kernel_rfl
theorem RB.below {w w' : World} (h : RB w) (hb : Below w.heap.size w w') : RB w' := ⟨tab_below g10 h.p10 hb, tab_below g32 h.t32 hb, tab_below g64 h.t64 hb⟩
theorem RB.alloc {w : World} (h : RB w) (o : Obj) : RB (w.alloc o) := h.below ((Below.refl _ _).alloc (Nat.le_refl _) _)
theorem RB.drewN {w : World} (h : RB w) (n : Nat) : RB (w.drewN n) := h.below (below_drewN (Below.refl _ _) n)
theorem RB.c32 {w : World} (h : RB w) {j : Nat} (hj : j < 32) : w.cell? ⟨4, j, none⟩ = some (.int .u8 (Lib.deBruijn32tab.getD j 0 : Nat)) := by
  have hl : Lib.deBruijn32tab.length = 32 := rfl
  have := Lib.TabIs.cell h.t32 g32 j (by simp [ints, hl, hj])
  rw [this]
  simp [ints, List.getD, hl, hj]
theorem RB.c64 {w : World} (h : RB w) {j : Nat} (hj : j < 64) : w.cell? ⟨6, j, none⟩ = some (.int .u8 (Lib.deBruijn64tab.getD j 0 : Nat)) := by
  have hl : Lib.deBruijn64tab.length = 64 := rfl
  have := Lib.TabIs.cell h.t64 g64 j (by simp [ints, hl, hj])
  rw [this]
  simp [ints, List.getD, hl, hj]

set_option maxHeartbeats 1000000 in
theorem tz32_core (x k idx : Nat) (w : World) (hx0 : ((x : Int) == 0) = false)
    (key : bits BinOp.and IntKind.u32 (x : Int) (-(x : Int) % 4294967296) * 125613361 % 4294967296 / 134217728 = (idx : Int))
    (hi : idx < 32) (hk : k < 32) (hcell : w.cell? ⟨4, idx, none⟩ = some (.int .u8 k)) :
    Calls Tryz.prog 166 #[.int .u32 x] w fun e w' => e = .returned (.int .i64 k) ∧ w = w' := by
  go_enter Tryz.func166, Tryz.ntmps166
  go_wp2_with (simp only [key])
  go_ret
  exact ⟨rfl, rfl⟩
theorem tz32_any (x : Nat) (w : World) (h0 : x ≠ 0) (hx : x < BB) (hT : RB w) :
    Calls Tryz.prog 166 #[.int .u32 x] w fun e w' => e = .returned (.int .i64 (v2 x)) ∧ w = w' := by
  rw [BB_eq] at hx
  obtain ⟨hlow, hk⟩ := Lib.lowest_bit 32 x h0 hx
  obtain ⟨hi, htab⟩ := Lib.deBruijn32_at _ hk
  have hcell := hT.c32 hi
  rw [htab] at hcell
  rw [← ctz_v2 32 x h0 hx]
  exact tz32_core x _ _ w (by simp; omega) (Go.Proofs.tz32_key x _ hx h0 hlow) hi hk hcell
set_option maxHeartbeats 1000000 in
theorem tz64_core (x k idx : Nat) (w : World) (hx0 : ((x : Int) == 0) = false)
    (key : IntKind.u64.wrap (bits BinOp.and IntKind.u64 (x : Int) (IntKind.u64.wrap (-(x : Int))) * 285870213051353865) / 288230376151711744 = (idx : Int))
    (hi : idx < 64) (hk : k < 64) (hcell : w.cell? ⟨6, idx, none⟩ = some (.int .u8 k)) :
    Calls Tryz.prog 196 #[.int .u64 x] w fun e w' => e = .returned (.int .i64 k) ∧ w = w' := by
  go_enter Tryz.func196, Tryz.ntmps196
  go_wp2_with (simp only [key])
  go_ret
  exact ⟨rfl, rfl⟩
theorem tz64_any (x : Nat) (w : World) (h0 : x ≠ 0) (hx : x < 18446744073709551616) (hT : RB w) :
    Calls Tryz.prog 196 #[.int .u64 x] w fun e w' => e = .returned (.int .i64 (v2 x)) ∧ w = w' := by
  obtain ⟨hlow, hk⟩ := Lib.lowest_bit 64 x h0 hx
  obtain ⟨hi, htab⟩ := Lib.deBruijn64_at _ hk
  have hcell := hT.c64 hi
  rw [htab] at hcell
  rw [← ctz_v2 64 x h0 hx]
  exact tz64_core x _ _ w (by simp; omega) (Go.Proofs.tz64_key x _ hx h0 hlow) hi hk hcell

set_option maxHeartbeats 400000 in
theorem trimmed_any (A : Option Addr) (n c : Nat) (l : List Nat) (w : World) (h : Sl w A n c l) :
    Calls Tryz.prog 138 #[.slice A n c] w fun e w' => e = .returned (.slice A (tl l) c) ∧ w = w' := by
  have hm := h.max
  have hcap := h.cap
  have hcm := h.capMax
  unfold maxLen at hm hcm
  have H := Lib.hid h
  have hlen : l.length = n := h.len
  have HL := Lib.hid hlen
  cases A with
  | none =>
    have := h.nil rfl
    subst this
    obtain rfl : n = 0 := by omega
    have : l = [] := List.eq_nil_of_length_eq_zero hlen
    subst this
    clear h hlen
    go_enter Tryz.func138, Tryz.ntmps138
    go_wp2
    go_loop [3] (fun i => i = .int .i64 0) (fun _ => 0)
    case atStart => rfl
    case round =>
      subst hrel
      go_wp2
      go_ret
      exact ⟨rfl, rfl⟩
  | some ad =>
    clear h hlen
    go_enter Tryz.func138, Tryz.ntmps138
    go_wp2
    go_loop [3] (fun i => ∃ k : Nat, i = .int .i64 k ∧ k ≤ n ∧ Hid (∀ x ∈ l.drop k, x = 0)) (fun i => (intOf i).toNat)
    case atStart => exact ⟨n, rfl, by omega, Lib.hid (by rw [List.drop_eq_nil_of_le (by rw [HL.out]; omega)]; simp)⟩
    case round =>
      obtain ⟨k, rfl, hk, HZ⟩ := hrel
      by_cases hk0 : k = 0
      · subst hk0
        have HT := Lib.hid (tl_unique (by omega) HZ.out (fun x h => absurd h (by omega)))
        go_wp2
        go_ret
        exact ⟨by rw [HT.out]; rfl, rfl⟩
      · obtain ⟨j, rfl⟩ : ∃ j, k = j + 1 := ⟨k - 1, by omega⟩
        obtain ⟨b, off, x, hA, hb, hx, hxB, hcell⟩ := H.out.at_ (i := j) (by omega)
        injection hA with hA
        subst hA
        have HX := Lib.hid hx
        clear hx hk0
        unfold BB at hxB
        by_cases hx0 : x = 0
        · subst hx0
          have HZ' := Lib.hid (show ∀ x ∈ l.drop j, x = 0 by
            rw [drop_at HX.out]
            intro y hy
            rcases List.mem_cons.1 hy with rfl | hy
            · rfl
            · exact HZ.out y hy)
          go_wp2
          go_round
          case rel => exact ⟨j, by go_num, by omega, HZ'⟩
          case measure => simp [intOf]
        · have HT := Lib.hid (tl_unique (by rw [HL.out]; exact hk) HZ.out (fun y _ hy => by
            rw [show j + 1 - 1 = j by omega, HX.out] at hy
            injection hy with hy
            omega))
          have hxe : ((x : Int) == 0) = false := by rw [beq_eq_false_iff_ne]; omega
          go_wp2
          go_ret
          exact ⟨by rw [HT.out]; rfl, rfl⟩

set_option maxHeartbeats 400000 in
theorem low_any (A : Option Addr) (n c : Nat) (l : List Nat) (w : World) (h : Sl w A n c l) (hT : RB w) (hn : n ≤ 100000) (h0 : val l ≠ 0) :
    Calls Tryz.prog 139 #[.slice A n c] w fun e w' => e = .returned (.int .i64 (v2 (val l))) ∧ w = w' := by
  have H := Lib.hid h
  have HT := Lib.hid hT
  have HL := Lib.hid h.len
  have H0 := Lib.hid h0
  clear h hT h0
  go_enter Tryz.func139, Tryz.ntmps139
  go_wp2
  go_loop [3, 8, 5] (fun s i _ => ∃ k : Nat, i = .int .i64 k ∧ s = .int .i64 (32 * k : Nat) ∧ k ≤ n ∧ Hid (∀ x ∈ l.take k, x = 0)) (fun _ i _ => n - (intOf i).toNat)
  case atStart => exact ⟨0, rfl, rfl, by omega, Lib.hid (by simp)⟩
  case round =>
    obtain ⟨k, rfl, rfl, hk, HZ⟩ := hrel
    by_cases hlt : k < n
    · obtain ⟨b, off, x, hA, hb, hx, hxB, hcell⟩ := H.out.at_ hlt
      subst hA
      have HX := Lib.hid hx
      have HXB := Lib.hid hxB
      clear hx
      unfold BB at hxB
      by_cases hx0 : x = 0
      · subst hx0
        have HZ' := Lib.hid (show ∀ y ∈ l.take (k + 1), y = 0 by
          rw [take_succ_at HX.out]
          intro y hy
          rcases List.mem_append.1 hy with hy | hy
          · exact HZ.out y hy
          · simpa using hy)
        go_wp2
        go_round
        case rel => exact ⟨k + 1, by go_num, by go_num, by omega, HZ'⟩
        case measure => simp [intOf]; omega
      · have hxe : ((x : Int) != 0) = true := by simp; omega
        have HV := Lib.hid (v2_limbs HZ.out HX.out hx0 HXB.out)
        have hv : v2 x < 32 := by
          have h4 := v2_lt hx0
          have : blen x ≤ 32 := blen_le (by omega)
          omega
        go_wp2_with (refine (tz32_any x w hx0 HXB.out HT.out).mono ?_; rintro e w' ⟨rfl, rfl⟩)
        go_ret
        exact ⟨ret_int (by rw [HV.out]; omega), rfl⟩
    · exfalso
      apply H0.out
      have : l.take k = l := List.take_of_length_le (by rw [HL.out]; omega)
      exact val_zero_of (fun x hx => HZ.out x (by rw [this]; exact hx))

set_option maxHeartbeats 400000 in
theorem size_any (A : Option Addr) (n c : Nat) (l : List Nat) (w : World) (h : Sl w A n c l) (hn : n ≤ 100000) :
    Calls Tryz.prog 50 #[.slice A n c] w fun e w' => e = .returned (.int .i64 (blen (val l))) ∧ w = w' := by
  go_enter Tryz.func50, Tryz.ntmps50
  go_wp2_with fail
  refine (bits_any A n c l w h hn).mono ?_
  rintro e w' ⟨rfl, rfl⟩
  go_wp2
  go_ret
  exact ⟨rfl, rfl⟩
end Go.Proofs.YtffdkakogeofmaaGreatDoor
