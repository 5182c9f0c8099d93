/-
  The count of one bits by parallel sums, for numbers below 2^32. Of no program.
  The walk of bits.OnesCount64.
  The walk of ratio.Exact.
-/
import Derived.Test.YtnogfceojmnjiaaGreatDoorDyPlain
import Derived.Laws.BitsLemmas
import Derived.Test.YtnogfceojmnjiaaGreatDoorRaSS
import Derived.Test.YtnogfceojmnjiaaGreatDoorRaC
set_option linter.unusedVariables false
namespace Go.Fl.Pop
open Go.Fl.Nm Go.Fl.Dy
def M0 : Nat := 6148914691236517205
def M1 : Nat := 3689348814741910323
def M2 : Nat := 1085102592571150095
theorem and_split (y M : Nat) : y &&& M = (y % 256 &&& M % 256) + 256 * (y / 256 &&& M / 256) := by
  have h1 : (y &&& M) % 2 ^ 8 = y % 2 ^ 8 &&& M % 2 ^ 8 := Nat.and_mod_two_pow ..
  have h2 : (y &&& M) / 2 ^ 8 = y / 2 ^ 8 &&& M / 2 ^ 8 := Nat.and_div_two_pow ..
  have h3 := Nat.div_add_mod (y &&& M) 256
  rw [show (256 : Nat) = 2 ^ 8 by decide] at h3 ⊢
  rw [← h1, ← h2]
  omega
def s1 (b : Nat) : Nat := (b / 2 &&& 85) + (b &&& 85)
def s2 (b : Nat) : Nat := (b / 4 &&& 51) + (b &&& 51)
theorem s1_carry : ∀ c, c < 512 → (c / 2) % 256 &&& 85 = (c % 256) / 2 &&& 85 := by decide +kernel
theorem s2_carry : ∀ c, c < 1024 → (c / 4) % 256 &&& 51 = (c % 256) / 4 &&& 51 := by decide +kernel
theorem step1 (x M : Nat) (hM : M % 256 = 85) : (x / 2 &&& M) + (x &&& M) = s1 (x % 256) + 256 * ((x / 256 / 2 &&& M / 256) + (x / 256 &&& M / 256)) := by
  rw [and_split (x / 2), and_split x, hM]
  have h := s1_carry (x % 512) (Nat.mod_lt _ (by decide))
  rw [show x % 512 / 2 % 256 = x / 2 % 256 by omega, show x % 512 % 256 = x % 256 by omega] at h
  rw [h, show x / 2 / 256 = x / 256 / 2 by omega]
  unfold s1
  omega
theorem step2 (x M : Nat) (hM : M % 256 = 51) : (x / 4 &&& M) + (x &&& M) = s2 (x % 256) + 256 * ((x / 256 / 4 &&& M / 256) + (x / 256 &&& M / 256)) := by
  rw [and_split (x / 4), and_split x, hM]
  have h := s2_carry (x % 1024) (Nat.mod_lt _ (by decide))
  rw [show x % 1024 / 4 % 256 = x / 4 % 256 by omega, show x % 1024 % 256 = x % 256 by omega] at h
  rw [h, show x / 4 / 256 = x / 256 / 4 by omega]
  unfold s2
  omega
theorem s_byte : ∀ b, b < 256 → s1 b < 256 ∧ s2 (s1 b) % 16 ≤ 4 ∧ s2 (s1 b) / 16 ≤ 4 := by decide +kernel
def p3 (t : Nat) : Nat := t % 16 + t / 16
/-- The count of a byte. -/
def pc (b : Nat) : Nat := p3 (s2 (s1 b))
theorem pc_byte : ∀ b, b < 256 → pc b ≤ 8 ∧ (pc b = 0 → b = 0) ∧ (pc b = 1 → ∃ j, j < 8 ∧ b = 2 ^ j) := by
  have h : ∀ b, b < 256 → pc b ≤ 8 ∧ (pc b = 0 → b = 0) ∧ (pc b = 1 → b ∈ [1, 2, 4, 8, 16, 32, 64, 128]) := by decide +kernel
  intro b hb
  obtain ⟨h1, h2, h3⟩ := h b hb
  refine ⟨h1, h2, fun e => ?_⟩
  have := h3 e
  simp at this
  rcases this with rfl | rfl | rfl | rfl | rfl | rfl | rfl | rfl
  · exact ⟨0, by decide, rfl⟩
  · exact ⟨1, by decide, rfl⟩
  · exact ⟨2, by decide, rfl⟩
  · exact ⟨3, by decide, rfl⟩
  · exact ⟨4, by decide, rfl⟩
  · exact ⟨5, by decide, rfl⟩
  · exact ⟨6, by decide, rfl⟩
  · exact ⟨7, by decide, rfl⟩
def c1 (x : Nat) : Nat := (x / 2 &&& M0) + (x &&& M0)
def c2 (x : Nat) : Nat := (x / 4 &&& M1) + (x &&& M1)
def c3 (x : Nat) : Nat := (x / 16 + x) &&& M2
theorem zero_and (M : Nat) : (0 / 2 &&& M) + (0 &&& M) = 0 := by simp
theorem zero_and4 (M : Nat) : (0 / 4 &&& M) + (0 &&& M) = 0 := by simp
theorem c1_bytes {x b0 b1 b2 b3 : Nat} (h0 : b0 < 256) (h1 : b1 < 256) (h2 : b2 < 256) (h3 : b3 < 256) (hx : x = b0 + 256 * (b1 + 256 * (b2 + 256 * b3))) : c1 x = s1 b0 + 256 * (s1 b1 + 256 * (s1 b2 + 256 * s1 b3)) := by
  unfold c1
  rw [step1 x M0 (by decide), step1 (x / 256) (M0 / 256) (by decide), step1 (x / 256 / 256) (M0 / 256 / 256) (by decide), step1 (x / 256 / 256 / 256) (M0 / 256 / 256 / 256) (by decide)]
  rw [show x / 256 / 256 / 256 / 256 = 0 by omega, zero_and]
  rw [show x % 256 = b0 by omega, show x / 256 % 256 = b1 by omega, show x / 256 / 256 % 256 = b2 by omega, show x / 256 / 256 / 256 % 256 = b3 by omega]
  omega
theorem c2_bytes {x b0 b1 b2 b3 : Nat} (h0 : b0 < 256) (h1 : b1 < 256) (h2 : b2 < 256) (h3 : b3 < 256) (hx : x = b0 + 256 * (b1 + 256 * (b2 + 256 * b3))) : c2 x = s2 b0 + 256 * (s2 b1 + 256 * (s2 b2 + 256 * s2 b3)) := by
  unfold c2
  rw [step2 x M1 (by decide), step2 (x / 256) (M1 / 256) (by decide), step2 (x / 256 / 256) (M1 / 256 / 256) (by decide), step2 (x / 256 / 256 / 256) (M1 / 256 / 256 / 256) (by decide)]
  rw [show x / 256 / 256 / 256 / 256 = 0 by omega, zero_and4]
  rw [show x % 256 = b0 by omega, show x / 256 % 256 = b1 by omega, show x / 256 / 256 % 256 = b2 by omega, show x / 256 / 256 / 256 % 256 = b3 by omega]
  omega
theorem and15 : ∀ c, c < 256 → c &&& 15 = c % 16 := by decide +kernel
theorem step3 (x M : Nat) (hM : M % 256 = 15) : x &&& M = x % 256 % 16 + 256 * (x / 256 &&& M / 256) := by
  rw [and_split x, hM, and15 _ (Nat.mod_lt _ (by decide))]
theorem c3_bytes {x l0 h0 l1 h1 l2 h2 l3 h3 : Nat} (a0 : l0 ≤ 4) (a1 : l1 ≤ 4) (a2 : l2 ≤ 4) (a3 : l3 ≤ 4) (b0 : h0 ≤ 4) (b1 : h1 ≤ 4) (b2 : h2 ≤ 4) (b3 : h3 ≤ 4) (hx : x = (l0 + 16 * h0) + 256 * ((l1 + 16 * h1) + 256 * ((l2 + 16 * h2) + 256 * (l3 + 16 * h3)))) :
    c3 x = (l0 + h0) + 256 * ((l1 + h1) + 256 * ((l2 + h2) + 256 * (l3 + h3))) := by
  unfold c3
  have e : x / 16 + x = (l0 + h0 + 16 * (h0 + l1)) + 256 * ((l1 + h1 + 16 * (h1 + l2)) + 256 * ((l2 + h2 + 16 * (h2 + l3)) + 256 * (l3 + h3 + 16 * h3))) := by omega
  rw [e]
  generalize hz : (l0 + h0 + 16 * (h0 + l1)) + 256 * ((l1 + h1 + 16 * (h1 + l2)) + 256 * ((l2 + h2 + 16 * (h2 + l3)) + 256 * (l3 + h3 + 16 * h3))) = z
  clear e
  rw [step3 z M2 (by decide), step3 (z / 256) (M2 / 256) (by decide), step3 (z / 256 / 256) (M2 / 256 / 256) (by decide), step3 (z / 256 / 256 / 256) (M2 / 256 / 256 / 256) (by decide)]
  have y1 : z / 256 = (l1 + h1 + 16 * (h1 + l2)) + 256 * ((l2 + h2 + 16 * (h2 + l3)) + 256 * (l3 + h3 + 16 * h3)) := by omega
  have z0 : z % 256 % 16 = l0 + h0 := by omega
  clear hz
  have y2 : z / 256 / 256 = (l2 + h2 + 16 * (h2 + l3)) + 256 * (l3 + h3 + 16 * h3) := by omega
  have z1 : z / 256 % 256 % 16 = l1 + h1 := by omega
  clear y1
  have y3 : z / 256 / 256 / 256 = l3 + h3 + 16 * h3 := by omega
  have z2 : z / 256 / 256 % 256 % 16 = l2 + h2 := by omega
  clear y2
  have y4 : z / 256 / 256 / 256 / 256 = 0 := by omega
  have z3 : z / 256 / 256 / 256 % 256 % 16 = l3 + h3 := by omega
  rw [y4, Nat.zero_and, z0, z1, z2, z3, Nat.mul_zero, Nat.add_zero]
def c4 (x : Nat) : Nat := x + x / 256
def c5 (x : Nat) : Nat := x + x / 65536
def c6 (x : Nat) : Nat := x + x / 4294967296
/-- The count. -/
def cnt (x : Nat) : Nat := c6 (c5 (c4 (c3 (c2 (c1 x))))) % 128
theorem bytes_of {x : Nat} (h : x < 4294967296) : ∃ b0 b1 b2 b3, b0 < 256 ∧ b1 < 256 ∧ b2 < 256 ∧ b3 < 256 ∧ x = b0 + 256 * (b1 + 256 * (b2 + 256 * b3)) :=
  ⟨x % 256, x / 256 % 256, x / 65536 % 256, x / 16777216, by omega, by omega, by omega, by omega, by omega⟩
theorem c3_all {x b0 b1 b2 b3 : Nat} (h0 : b0 < 256) (h1 : b1 < 256) (h2 : b2 < 256) (h3 : b3 < 256) (hx : x = b0 + 256 * (b1 + 256 * (b2 + 256 * b3))) : c3 (c2 (c1 x)) = pc b0 + 256 * (pc b1 + 256 * (pc b2 + 256 * pc b3)) := by
  have e1 := c1_bytes h0 h1 h2 h3 hx
  have q0 := s_byte b0 h0
  have q1 := s_byte b1 h1
  have q2 := s_byte b2 h2
  have q3 := s_byte b3 h3
  have e2 := c2_bytes q0.1 q1.1 q2.1 q3.1 e1
  exact c3_bytes (l0 := s2 (s1 b0) % 16) (h0 := s2 (s1 b0) / 16) (l1 := s2 (s1 b1) % 16) (h1 := s2 (s1 b1) / 16) (l2 := s2 (s1 b2) % 16) (h2 := s2 (s1 b2) / 16) (l3 := s2 (s1 b3) % 16) (h3 := s2 (s1 b3) / 16)
    q0.2.1 q1.2.1 q2.2.1 q3.2.1 q0.2.2 q1.2.2 q2.2.2 q3.2.2 (by rw [e2]; omega)
theorem cnt_bytes {x b0 b1 b2 b3 : Nat} (h0 : b0 < 256) (h1 : b1 < 256) (h2 : b2 < 256) (h3 : b3 < 256) (hx : x = b0 + 256 * (b1 + 256 * (b2 + 256 * b3))) : cnt x = pc b0 + pc b1 + pc b2 + pc b3 := by
  have e := c3_all h0 h1 h2 h3 hx
  have p0 := (pc_byte b0 h0).1
  have p1 := (pc_byte b1 h1).1
  have p2 := (pc_byte b2 h2).1
  have p3 := (pc_byte b3 h3).1
  unfold cnt
  rw [e]
  generalize pc b0 = u0 at *
  generalize pc b1 = u1 at *
  generalize pc b2 = u2 at *
  generalize pc b3 = u3 at *
  have e4 : c4 (u0 + 256 * (u1 + 256 * (u2 + 256 * u3))) = (u0 + u1) + 256 * ((u1 + u2) + 256 * ((u2 + u3) + 256 * u3)) := by unfold c4; omega
  have e5 : c5 ((u0 + u1) + 256 * ((u1 + u2) + 256 * ((u2 + u3) + 256 * u3))) = (u0 + u1 + u2 + u3) + 256 * ((u1 + u2 + u3) + 256 * ((u2 + u3) + 256 * u3)) := by unfold c5; omega
  rw [e4, e5]
  unfold c6
  generalize hY : (u1 + u2 + u3) + 256 * ((u2 + u3) + 256 * u3) = Y
  have hb : Y < 16777215 := by omega
  clear hY e e4 e5
  have hs : u0 + u1 + u2 + u3 ≤ 32 := by omega
  generalize u0 + u1 + u2 + u3 = s at *
  have hd : (s + 256 * Y) / 4294967296 = 0 := by omega
  rw [hd]
  omega
theorem cnt_pow : ∀ k, k < 32 → cnt (2 ^ k) = 1 := by decide +kernel
theorem cnt_one {x : Nat} (h : x < 4294967296) : cnt x = 1 ↔ ∃ k, x = 2 ^ k := by
  constructor
  · intro h1
    obtain ⟨b0, b1, b2, b3, h0, hb1, h2, h3, hx⟩ := bytes_of h
    have e := cnt_bytes h0 hb1 h2 h3 hx
    have p0 := pc_byte b0 h0
    have p1 := pc_byte b1 hb1
    have p2 := pc_byte b2 h2
    have p3 := pc_byte b3 h3
    have hs : pc b0 + pc b1 + pc b2 + pc b3 = 1 := by omega
    have cases4 : (pc b0 = 1 ∧ pc b1 = 0 ∧ pc b2 = 0 ∧ pc b3 = 0) ∨ (pc b0 = 0 ∧ pc b1 = 1 ∧ pc b2 = 0 ∧ pc b3 = 0) ∨ (pc b0 = 0 ∧ pc b1 = 0 ∧ pc b2 = 1 ∧ pc b3 = 0) ∨ (pc b0 = 0 ∧ pc b1 = 0 ∧ pc b2 = 0 ∧ pc b3 = 1) := by omega
    rcases cases4 with ⟨a, b, c, d⟩ | ⟨a, b, c, d⟩ | ⟨a, b, c, d⟩ | ⟨a, b, c, d⟩
    · obtain ⟨j, _, hj⟩ := p0.2.2 a
      exact ⟨j, by rw [hx, p1.2.1 b, p2.2.1 c, p3.2.1 d, hj]; omega⟩
    · obtain ⟨j, _, hj⟩ := p1.2.2 b
      exact ⟨j + 8, by rw [hx, p0.2.1 a, p2.2.1 c, p3.2.1 d, hj, Nat.pow_add]; omega⟩
    · obtain ⟨j, _, hj⟩ := p2.2.2 c
      exact ⟨j + 16, by rw [hx, p0.2.1 a, p1.2.1 b, p3.2.1 d, hj, Nat.pow_add]; omega⟩
    · obtain ⟨j, _, hj⟩ := p3.2.2 d
      exact ⟨j + 24, by rw [hx, p0.2.1 a, p1.2.1 b, p2.2.1 c, hj, Nat.pow_add]; omega⟩
  · rintro ⟨k, rfl⟩
    have hk : k < 32 := (Nat.pow_lt_pow_iff_right (by decide : 1 < 2)).1 (show 2 ^ k < 2 ^ 32 from h)
    exact cnt_pow k hk
end Go.Fl.Pop
namespace Go.Fl.Pop
open Go.Fl.Nm Go.Fl.Dy
theorem and64 (a b : Nat) (ha : a < 9223372036854775808) (hb : b < 9223372036854775808) : Go.bits .and .u64 (a : Int) (b : Int) = ((a &&& b : Nat) : Int) :=
  (bits_nat .u64 63 (by decide) (fun n h0 h1 => by rw [IntKind.wrap_u64]; omega) a b ha hb).1
theorem andi64 (a b : Nat) (ha : a < 9223372036854775808) (hb : b < 9223372036854775808) : Go.bits .and .i64 (a : Int) (b : Int) = ((a &&& b : Nat) : Int) :=
  (bits_nat .i64 63 (by decide) (fun n h0 h1 => by rw [IntKind.wrap_i64]; omega) a b ha hb).1
theorem and_le (a b : Nat) : a &&& b ≤ a := Nat.and_le_left
theorem and127 (a : Nat) : a &&& 127 = a % 128 := Nat.and_two_pow_sub_one_eq_mod a 7
end Go.Fl.Pop
namespace Go.Proofs.YtnogfceojmnjiaaGreatDoor
open Go.RowKit Go.Fl Go.Fl.Nm Go.Fl.Dy Go.Fl.Rt Go.Fl.Pop
set_option maxHeartbeats 1000000 in
theorem ones_any (x : Nat) (w : World) (hx : x < 4294967296) :
    Calls Tryz.prog 81 #[.int .u64 x] w fun e w' => e = .returned (.int .i64 (cnt x : Nat)) ∧ w = w' := by
  obtain ⟨y1, hy1⟩ : ∃ y, c1 x = y := ⟨_, rfl⟩
  obtain ⟨y2, hy2⟩ : ∃ y, c2 y1 = y := ⟨_, rfl⟩
  obtain ⟨y3, hy3⟩ : ∃ y, c3 y2 = y := ⟨_, rfl⟩
  have HC := Lib.hid (show cnt x = c6 (c5 (c4 y3)) % 128 by unfold cnt; rw [hy1, hy2, hy3])
  have a1 := and_le (x / 2) M0
  have a2 := and_le x M0
  have b1 : y1 ≤ 12884901888 := by rw [← hy1]; unfold c1; omega
  have a3 := and_le (y1 / 4) M1
  have a4 := and_le y1 M1
  have b2 : y2 ≤ 25769803776 := by rw [← hy2]; unfold c2; omega
  have a5 := and_le (y2 / 16 + y2) M2
  have b3 : y3 ≤ 51539607552 := by rw [← hy3]; unfold c3; omega
  have e1 : bits .and .u64 ((x : Int) / 2) 6148914691236517205 = ((x / 2 &&& M0 : Nat) : Int) := and64 (x / 2) M0 (by omega) (by decide)
  have e2 : bits .and .u64 (x : Int) 6148914691236517205 = ((x &&& M0 : Nat) : Int) := and64 x M0 (by omega) (by decide)
  have e3 : bits .and .u64 ((y1 : Int) / 4) 3689348814741910323 = ((y1 / 4 &&& M1 : Nat) : Int) := and64 (y1 / 4) M1 (by omega) (by decide)
  have e4 : bits .and .u64 (y1 : Int) 3689348814741910323 = ((y1 &&& M1 : Nat) : Int) := and64 y1 M1 (by omega) (by decide)
  have e5 : bits .and .u64 ((y2 : Int) / 16 + y2) 1085102592571150095 = ((y3 : Nat) : Int) := by
    have := and64 (y2 / 16 + y2) M2 (by omega) (by decide)
    rw [← hy3]; exact this
  have f1 : ((x / 2 &&& M0 : Nat) : Int) + ((x &&& M0 : Nat) : Int) = (y1 : Int) := by rw [← hy1]; unfold c1; omega
  have f2 : ((y1 / 4 &&& M1 : Nat) : Int) + ((y1 &&& M1 : Nat) : Int) = (y2 : Int) := by rw [← hy2]; unfold c2; omega
  generalize (x / 2 &&& M0) = p1 at *
  generalize (x &&& M0) = p2 at *
  generalize (y1 / 4 &&& M1) = p3 at *
  generalize (y1 &&& M1) = p4 at *
  clear hy1 hy2 hy3 a1 a2 a3 a4 a5
  obtain ⟨y4, hy4⟩ : ∃ y, c4 y3 = y := ⟨_, rfl⟩
  obtain ⟨y5, hy5⟩ : ∃ y, c5 y4 = y := ⟨_, rfl⟩
  obtain ⟨y6, hy6⟩ : ∃ y, c6 y5 = y := ⟨_, rfl⟩
  rw [hy4, hy5, hy6] at HC
  have f4 : (y3 : Int) + (y3 : Int) / 256 = (y4 : Int) := by rw [← hy4]; unfold c4; omega
  have f5 : (y4 : Int) + (y4 : Int) / 65536 = (y5 : Int) := by rw [← hy5]; unfold c5; omega
  have f6 : (y5 : Int) + (y5 : Int) / 4294967296 = (y6 : Int) := by rw [← hy6]; unfold c6; omega
  have b4 : y4 ≤ 103079215104 := by omega
  have b5 : y5 ≤ 206158430208 := by omega
  have b6 : y6 ≤ 412316860416 := by omega
  have e7 : bits .and .i64 (y6 : Int) 127 = ((y6 % 128 : Nat) : Int) := by rw [← and127]; exact andi64 y6 127 (by omega) (by decide)
  clear hy4 hy5 hy6
  go_enter Tryz.func81, Tryz.ntmps81
  go_wp2_with fail
  go_ret
  exact ⟨ret_int (by rw [HC.out]; omega), rfl⟩
end Go.Proofs.YtnogfceojmnjiaaGreatDoor
namespace Go.Fl.Dy
open Go.Fl.Nm Go.Fl.Pop
/-- A ratio as a dyadic number, and whether it is one. -/
def exD (n d : Int) : D × Bool := if Rt.vB n d = true ∧ cnt d.toNat = 1 then (canon (decide (n < 0)) n.natAbs (-(v2 d.toNat : Int)), true) else (⟨false, 0, 0⟩, false)
end Go.Fl.Dy
namespace Go.Proofs.YtnogfceojmnjiaaGreatDoor
open Go.RowKit Go.Fl Go.Fl.Nm Go.Fl.Dy Go.Fl.Rt Go.Fl.Pop
/-- A dyadic number and a bool. -/
def DyB (r : D × Bool) (w : World) (e : Ending) (w' : World) : Prop :=
  ∃ (A : Option Addr) (n c : Nat), e = .returned (.tuple #[.agg #[.bool r.1.neg, .slice A n c, .int .i64 r.1.e], .bool r.2]) ∧ Hid (Sl w' A n c (limbs r.1.k)) ∧ Hid (Below w.heap.size w w')
set_option maxHeartbeats 4000000 in
theorem exact_any (n d : Int) (w : World) (hT : RB w) (h1 : -9223372036854775808 ≤ n) (h2 : n ≤ 9223372036854775807) (h3 : -9223372036854775808 ≤ d) (h4 : d ≤ 9223372036854775807) :
    Calls Tryz.prog 42 #[.agg #[.int .i64 n, .int .i64 d]] w (DyB (exD n d) w) := by
  have HT := Lib.hid hT
  clear hT
  cases hv : vB n d with
  | false =>
    have VA := Lib.hid hv
    have HR := Lib.hid (show exD n d = (⟨false, 0, 0⟩, false) by unfold exD; rw [if_neg (by rw [hv]; rintro ⟨h, _⟩; cases h)])
    clear hv
    go_enter Tryz.func42, Tryz.ntmps42
    go_wp2_with fail
    obtain ⟨w1, hw⟩ : ∃ z9 : World, z9 = ((w.alloc (.cells #[.int .i64 n, .int .i64 d] 23)).alloc (.cells #[.bool false, .slice none 0 0, .int .i64 0] 28)) := ⟨_, rfl⟩
    have HB1 := Lib.hid (show Below w.heap.size w w1 by rw [hw]; exact below_a2 _ _ _)
    have F1t := Lib.hid (HT.out.belowW HB1.out)
    have F1k := Lib.hid (show Blk w1 (w.heap.size) 23 #[.int .i64 n, .int .i64 d] by rw [hw]; exact (Blk.new _ _ _).alloc _)
    have F1r := Lib.hid (show Blk w1 (w.heap.size + 1) 28 #[.bool false, .slice none 0 0, .int .i64 0] by rw [hw]; exact Blk.new1 _ _ _ _)
    rw [← hw]
    clear hw
    have pk0 : (w1).cell? ⟨w.heap.size, 0, none⟩ = some (.int .i64 n) := F1k.out.cell 0
    have fk0 : (w1).frozen? ⟨w.heap.size, 0, none⟩ = false := F1k.out.frozen 0
    have pk1 : (w1).cell? ⟨w.heap.size, 1, none⟩ = some (.int .i64 d) := F1k.out.cell 1
    have fk1 : (w1).frozen? ⟨w.heap.size, 1, none⟩ = false := F1k.out.frozen 1
    have pr0 : (w1).cell? ⟨w.heap.size + 1, 0, none⟩ = some (.bool false) := F1r.out.cell 0
    have fr0 : (w1).frozen? ⟨w.heap.size + 1, 0, none⟩ = false := F1r.out.frozen 0
    have pr1 : (w1).cell? ⟨w.heap.size + 1, 1, none⟩ = some (.slice none 0 0) := F1r.out.cell 1
    have fr1 : (w1).frozen? ⟨w.heap.size + 1, 1, none⟩ = false := F1r.out.frozen 1
    have pr2 : (w1).cell? ⟨w.heap.size + 1, 2, none⟩ = some (.int .i64 0) := F1r.out.cell 2
    have fr2 : (w1).frozen? ⟨w.heap.size + 1, 2, none⟩ = false := F1r.out.frozen 2
    go_wp2_with fail
    refine (valid_q n d w1 h1 h2 h3 h4).mono ?_
    rw [VA.out]
    rintro e w2 ⟨rfl, HB2⟩
    have F2t := Lib.hid (F1t.out.belowW HB2.out)
    have F2k := Lib.hid (F1k.out.belowW HB2.out)
    have F2r := Lib.hid (F1r.out.belowW HB2.out)
    have HL2 := Lib.hid (HB1.out.trans (HB2.out.mono HB1.out.size))
    clear pk0 fk0 pk1 fk1 pr0 fr0 pr1 fr1 pr2 fr2
    have pk0 : (w2).cell? ⟨w.heap.size, 0, none⟩ = some (.int .i64 n) := F2k.out.cell 0
    have fk0 : (w2).frozen? ⟨w.heap.size, 0, none⟩ = false := F2k.out.frozen 0
    have pk1 : (w2).cell? ⟨w.heap.size, 1, none⟩ = some (.int .i64 d) := F2k.out.cell 1
    have fk1 : (w2).frozen? ⟨w.heap.size, 1, none⟩ = false := F2k.out.frozen 1
    have pr0 : (w2).cell? ⟨w.heap.size + 1, 0, none⟩ = some (.bool false) := F2r.out.cell 0
    have fr0 : (w2).frozen? ⟨w.heap.size + 1, 0, none⟩ = false := F2r.out.frozen 0
    have pr1 : (w2).cell? ⟨w.heap.size + 1, 1, none⟩ = some (.slice none 0 0) := F2r.out.cell 1
    have fr1 : (w2).frozen? ⟨w.heap.size + 1, 1, none⟩ = false := F2r.out.frozen 1
    have pr2 : (w2).cell? ⟨w.heap.size + 1, 2, none⟩ = some (.int .i64 0) := F2r.out.cell 2
    have fr2 : (w2).frozen? ⟨w.heap.size + 1, 2, none⟩ = false := F2r.out.frozen 2
    go_wp2_with fail
    refine bodyPost_ret (v := .tuple #[.agg #[.bool false, .slice none 0 0, .int .i64 0], .bool false]) (by simp [results, Tryz.results42, go_sem, pr0, pr1, pr2]) rfl ?_
    rw [HR.out]
    exact ⟨none, 0, 0, rfl, Lib.hid (by rw [limbs_zero]; exact Sl.none_ _), Lib.hid (store3_below HL2.out F2r.out _ _ _ (by omega))⟩
  | true =>
    have VA := Lib.hid hv
    obtain ⟨v1, v2', v3, v4⟩ := vB_bd hv
    obtain ⟨N, hN⟩ : ∃ N, n.natAbs = N := ⟨_, rfl⟩
    obtain ⟨q, hq⟩ : ∃ q, d.toNat = q := ⟨_, rfl⟩
    have N1 : N ≤ 1073741824 := by omega
    have q1 : q ≤ 1073741824 := by omega
    have q2 : q ≠ 0 := by omega
    have q3 : q < 4294967296 := by omega
    have q4 : q < 18446744073709551616 := by omega
    have HN := Lib.hid hN
    have HQ := Lib.hid (show d.natAbs = q by omega)
    have HE := Lib.hid (show exD n d = if cnt q = 1 then (canon (decide (n < 0)) N (-(v2 q : Int)), true) else (⟨false, 0, 0⟩, false) by unfold exD; rw [hv, hN, hq]; simp)
    obtain ⟨z, hz⟩ : ∃ z, cnt q = z := ⟨_, rfl⟩
    have HZ := Lib.hid hz
    rw [hz] at HE
    have z1 : z < 128 := by rw [← hz]; exact Nat.mod_lt _ (by decide)
    obtain ⟨t, ht⟩ : ∃ t, v2 q = t := ⟨_, rfl⟩
    have t1 : t ≤ 31 := by rw [← ht]; have h1 := v2_lt q2; have h2 : blen q ≤ 31 := blen_le (by omega); omega
    have HTT := Lib.hid ht
    rw [ht] at HE
    have bN : blen N ≤ 31 := blen_le (by omega)
    have HCK := Lib.hid (show chk (canon (decide (n < 0)) N (-(t : Int))) = (canon (decide (n < 0)) N (-(t : Int)), 0) from chk_of (by omega) (by omega) (by omega))
    clear hv hN hq hz ht
    by_cases hz1 : z = 1
    case neg =>
      have dz : ((z : Int) != 1) = true := by rw [bne_iff_ne]; omega
      have HR := Lib.hid (show exD n d = (⟨false, 0, 0⟩, false) by rw [HE.out, if_neg hz1])
      go_enter Tryz.func42, Tryz.ntmps42
      go_wp2_with fail
      obtain ⟨w1, hw⟩ : ∃ z9 : World, z9 = ((w.alloc (.cells #[.int .i64 n, .int .i64 d] 23)).alloc (.cells #[.bool false, .slice none 0 0, .int .i64 0] 28)) := ⟨_, rfl⟩
      have HB1 := Lib.hid (show Below w.heap.size w w1 by rw [hw]; exact below_a2 _ _ _)
      have F1t := Lib.hid (HT.out.belowW HB1.out)
      have F1k := Lib.hid (show Blk w1 (w.heap.size) 23 #[.int .i64 n, .int .i64 d] by rw [hw]; exact (Blk.new _ _ _).alloc _)
      have F1r := Lib.hid (show Blk w1 (w.heap.size + 1) 28 #[.bool false, .slice none 0 0, .int .i64 0] by rw [hw]; exact Blk.new1 _ _ _ _)
      rw [← hw]
      clear hw
      have pk0 : (w1).cell? ⟨w.heap.size, 0, none⟩ = some (.int .i64 n) := F1k.out.cell 0
      have fk0 : (w1).frozen? ⟨w.heap.size, 0, none⟩ = false := F1k.out.frozen 0
      have pk1 : (w1).cell? ⟨w.heap.size, 1, none⟩ = some (.int .i64 d) := F1k.out.cell 1
      have fk1 : (w1).frozen? ⟨w.heap.size, 1, none⟩ = false := F1k.out.frozen 1
      have pr0 : (w1).cell? ⟨w.heap.size + 1, 0, none⟩ = some (.bool false) := F1r.out.cell 0
      have fr0 : (w1).frozen? ⟨w.heap.size + 1, 0, none⟩ = false := F1r.out.frozen 0
      have pr1 : (w1).cell? ⟨w.heap.size + 1, 1, none⟩ = some (.slice none 0 0) := F1r.out.cell 1
      have fr1 : (w1).frozen? ⟨w.heap.size + 1, 1, none⟩ = false := F1r.out.frozen 1
      have pr2 : (w1).cell? ⟨w.heap.size + 1, 2, none⟩ = some (.int .i64 0) := F1r.out.cell 2
      have fr2 : (w1).frozen? ⟨w.heap.size + 1, 2, none⟩ = false := F1r.out.frozen 2
      go_wp2_with fail
      refine (valid_q n d w1 h1 h2 h3 h4).mono ?_
      rw [VA.out]
      rintro e w2 ⟨rfl, HB2⟩
      have F2t := Lib.hid (F1t.out.belowW HB2.out)
      have F2k := Lib.hid (F1k.out.belowW HB2.out)
      have F2r := Lib.hid (F1r.out.belowW HB2.out)
      have HL2 := Lib.hid (HB1.out.trans (HB2.out.mono HB1.out.size))
      clear pk0 fk0 pk1 fk1 pr0 fr0 pr1 fr1 pr2 fr2
      have pk0 : (w2).cell? ⟨w.heap.size, 0, none⟩ = some (.int .i64 n) := F2k.out.cell 0
      have fk0 : (w2).frozen? ⟨w.heap.size, 0, none⟩ = false := F2k.out.frozen 0
      have pk1 : (w2).cell? ⟨w.heap.size, 1, none⟩ = some (.int .i64 d) := F2k.out.cell 1
      have fk1 : (w2).frozen? ⟨w.heap.size, 1, none⟩ = false := F2k.out.frozen 1
      have pr0 : (w2).cell? ⟨w.heap.size + 1, 0, none⟩ = some (.bool false) := F2r.out.cell 0
      have fr0 : (w2).frozen? ⟨w.heap.size + 1, 0, none⟩ = false := F2r.out.frozen 0
      have pr1 : (w2).cell? ⟨w.heap.size + 1, 1, none⟩ = some (.slice none 0 0) := F2r.out.cell 1
      have fr1 : (w2).frozen? ⟨w.heap.size + 1, 1, none⟩ = false := F2r.out.frozen 1
      have pr2 : (w2).cell? ⟨w.heap.size + 1, 2, none⟩ = some (.int .i64 0) := F2r.out.cell 2
      have fr2 : (w2).frozen? ⟨w.heap.size + 1, 2, none⟩ = false := F2r.out.frozen 2
      go_wp2_with fail
      refine (size_q d w2 h3 h4).mono ?_
      rw [HQ.out]
      rintro e w' ⟨rfl, rfl⟩
      go_wp2_with fail
      refine (ones_any q w2 q3).mono ?_
      rw [HZ.out]
      rintro e w' ⟨rfl, rfl⟩
      clear pk0 fk0 pk1 fk1 pr0 fr0 pr1 fr1 pr2 fr2
      have pk0 : (w2).cell? ⟨w.heap.size, 0, none⟩ = some (.int .i64 n) := F2k.out.cell 0
      have fk0 : (w2).frozen? ⟨w.heap.size, 0, none⟩ = false := F2k.out.frozen 0
      have pk1 : (w2).cell? ⟨w.heap.size, 1, none⟩ = some (.int .i64 d) := F2k.out.cell 1
      have fk1 : (w2).frozen? ⟨w.heap.size, 1, none⟩ = false := F2k.out.frozen 1
      have pr0 : (w2).cell? ⟨w.heap.size + 1, 0, none⟩ = some (.bool false) := F2r.out.cell 0
      have fr0 : (w2).frozen? ⟨w.heap.size + 1, 0, none⟩ = false := F2r.out.frozen 0
      have pr1 : (w2).cell? ⟨w.heap.size + 1, 1, none⟩ = some (.slice none 0 0) := F2r.out.cell 1
      have fr1 : (w2).frozen? ⟨w.heap.size + 1, 1, none⟩ = false := F2r.out.frozen 1
      have pr2 : (w2).cell? ⟨w.heap.size + 1, 2, none⟩ = some (.int .i64 0) := F2r.out.cell 2
      have fr2 : (w2).frozen? ⟨w.heap.size + 1, 2, none⟩ = false := F2r.out.frozen 2
      go_wp2_with fail
      refine bodyPost_ret (v := .tuple #[.agg #[.bool false, .slice none 0 0, .int .i64 0], .bool false]) (by simp [results, Tryz.results42, go_sem, pr0, pr1, pr2]) rfl ?_
      rw [HR.out]
      exact ⟨none, 0, 0, rfl, Lib.hid (by rw [limbs_zero]; exact Sl.none_ _), Lib.hid (store3_below HL2.out F2r.out _ _ _ (by omega))⟩
    subst hz1
    obtain ⟨x, hx⟩ : ∃ x, canon (decide (n < 0)) N (-(t : Int)) = x := ⟨_, rfl⟩
    rw [hx] at HCK HE
    have HR := Lib.hid (show exD n d = (x, true) by rw [HE.out, if_pos rfl])
    have HV1 := Lib.hid (val_two N1)
    have HVX := Lib.hid (show chk (canon (decide (n < 0)) (val [N, N / 4294967296]) (-(t : Int))) = (x, 0) by rw [HV1.out, hx]; exact HCK.out)
    have L2 : 2 ≤ 256 := by decide
    have e1 : -32768 ≤ -(t : Int) := by omega
    have e2 : -(t : Int) ≤ 32768 := by omega
    have en : IntKind.i64.wrap (-(t : Int)) = -(t : Int) := IntWalk.i64_in _ (by omega)
    clear hx
    go_enter Tryz.func42, Tryz.ntmps42
    go_wp2_with fail
    obtain ⟨w1, hw⟩ : ∃ z9 : World, z9 = ((w.alloc (.cells #[.int .i64 n, .int .i64 d] 23)).alloc (.cells #[.bool false, .slice none 0 0, .int .i64 0] 28)) := ⟨_, rfl⟩
    have HB1 := Lib.hid (show Below w.heap.size w w1 by rw [hw]; exact below_a2 _ _ _)
    have F1t := Lib.hid (HT.out.belowW HB1.out)
    have F1k := Lib.hid (show Blk w1 (w.heap.size) 23 #[.int .i64 n, .int .i64 d] by rw [hw]; exact (Blk.new _ _ _).alloc _)
    have F1r := Lib.hid (show Blk w1 (w.heap.size + 1) 28 #[.bool false, .slice none 0 0, .int .i64 0] by rw [hw]; exact Blk.new1 _ _ _ _)
    rw [← hw]
    clear hw
    have pk0 : (w1).cell? ⟨w.heap.size, 0, none⟩ = some (.int .i64 n) := F1k.out.cell 0
    have fk0 : (w1).frozen? ⟨w.heap.size, 0, none⟩ = false := F1k.out.frozen 0
    have pk1 : (w1).cell? ⟨w.heap.size, 1, none⟩ = some (.int .i64 d) := F1k.out.cell 1
    have fk1 : (w1).frozen? ⟨w.heap.size, 1, none⟩ = false := F1k.out.frozen 1
    have pr0 : (w1).cell? ⟨w.heap.size + 1, 0, none⟩ = some (.bool false) := F1r.out.cell 0
    have fr0 : (w1).frozen? ⟨w.heap.size + 1, 0, none⟩ = false := F1r.out.frozen 0
    have pr1 : (w1).cell? ⟨w.heap.size + 1, 1, none⟩ = some (.slice none 0 0) := F1r.out.cell 1
    have fr1 : (w1).frozen? ⟨w.heap.size + 1, 1, none⟩ = false := F1r.out.frozen 1
    have pr2 : (w1).cell? ⟨w.heap.size + 1, 2, none⟩ = some (.int .i64 0) := F1r.out.cell 2
    have fr2 : (w1).frozen? ⟨w.heap.size + 1, 2, none⟩ = false := F1r.out.frozen 2
    go_wp2_with fail
    refine (valid_q n d w1 h1 h2 h3 h4).mono ?_
    rw [VA.out]
    rintro e w2 ⟨rfl, HB2⟩
    have F2t := Lib.hid (F1t.out.belowW HB2.out)
    have F2k := Lib.hid (F1k.out.belowW HB2.out)
    have F2r := Lib.hid (F1r.out.belowW HB2.out)
    have HL2 := Lib.hid (HB1.out.trans (HB2.out.mono HB1.out.size))
    clear pk0 fk0 pk1 fk1 pr0 fr0 pr1 fr1 pr2 fr2
    have pk0 : (w2).cell? ⟨w.heap.size, 0, none⟩ = some (.int .i64 n) := F2k.out.cell 0
    have fk0 : (w2).frozen? ⟨w.heap.size, 0, none⟩ = false := F2k.out.frozen 0
    have pk1 : (w2).cell? ⟨w.heap.size, 1, none⟩ = some (.int .i64 d) := F2k.out.cell 1
    have fk1 : (w2).frozen? ⟨w.heap.size, 1, none⟩ = false := F2k.out.frozen 1
    have pr0 : (w2).cell? ⟨w.heap.size + 1, 0, none⟩ = some (.bool false) := F2r.out.cell 0
    have fr0 : (w2).frozen? ⟨w.heap.size + 1, 0, none⟩ = false := F2r.out.frozen 0
    have pr1 : (w2).cell? ⟨w.heap.size + 1, 1, none⟩ = some (.slice none 0 0) := F2r.out.cell 1
    have fr1 : (w2).frozen? ⟨w.heap.size + 1, 1, none⟩ = false := F2r.out.frozen 1
    have pr2 : (w2).cell? ⟨w.heap.size + 1, 2, none⟩ = some (.int .i64 0) := F2r.out.cell 2
    have fr2 : (w2).frozen? ⟨w.heap.size + 1, 2, none⟩ = false := F2r.out.frozen 2
    go_wp2_with fail
    refine (size_q d w2 h3 h4).mono ?_
    rw [HQ.out]
    rintro e w' ⟨rfl, rfl⟩
    go_wp2_with fail
    refine (ones_any q w2 q3).mono ?_
    rw [HZ.out]
    rintro e w' ⟨rfl, rfl⟩
    clear pk0 fk0 pk1 fk1 pr0 fr0 pr1 fr1 pr2 fr2
    have pk0 : (w2).cell? ⟨w.heap.size, 0, none⟩ = some (.int .i64 n) := F2k.out.cell 0
    have fk0 : (w2).frozen? ⟨w.heap.size, 0, none⟩ = false := F2k.out.frozen 0
    have pk1 : (w2).cell? ⟨w.heap.size, 1, none⟩ = some (.int .i64 d) := F2k.out.cell 1
    have fk1 : (w2).frozen? ⟨w.heap.size, 1, none⟩ = false := F2k.out.frozen 1
    have pr0 : (w2).cell? ⟨w.heap.size + 1, 0, none⟩ = some (.bool false) := F2r.out.cell 0
    have fr0 : (w2).frozen? ⟨w.heap.size + 1, 0, none⟩ = false := F2r.out.frozen 0
    have pr1 : (w2).cell? ⟨w.heap.size + 1, 1, none⟩ = some (.slice none 0 0) := F2r.out.cell 1
    have fr1 : (w2).frozen? ⟨w.heap.size + 1, 1, none⟩ = false := F2r.out.frozen 1
    have pr2 : (w2).cell? ⟨w.heap.size + 1, 2, none⟩ = some (.int .i64 0) := F2r.out.cell 2
    have fr2 : (w2).frozen? ⟨w.heap.size + 1, 2, none⟩ = false := F2r.out.frozen 2
    go_wp2_with fail
    go_cut [4, 5] (DivCut w2 x 0)
    case first =>
      have HR3 := Lib.hid (below_dr w2)
      have HQ3 := Lib.hid (show Below w2.heap.size w2 (w2.alloc (.cells #[.bool false, .slice none 0 0, .int .i64 0] 28)).drew from below_drewN (below_a1 _ _) 1)
      have R3t := Lib.hid (F2t.out.belowW HR3.out)
      have Q3t := Lib.hid (F2t.out.belowW HQ3.out)
      have R3k := Lib.hid (F2k.out.belowW HR3.out)
      have Q3k := Lib.hid (F2k.out.belowW HQ3.out)
      have R3r := Lib.hid (F2r.out.belowW HR3.out)
      have Q3r := Lib.hid (F2r.out.belowW HQ3.out)
      have c3k0 : w2.drew.cell? ⟨w.heap.size, 0, none⟩ = some (.int .i64 n) := R3k.out.cell 0
      have a3k0 : (w2.alloc (.cells #[.bool false, .slice none 0 0, .int .i64 0] 28)).drew.cell? ⟨w.heap.size, 0, none⟩ = some (.int .i64 n) := Q3k.out.cell 0
      have c3k1 : w2.drew.cell? ⟨w.heap.size, 1, none⟩ = some (.int .i64 d) := R3k.out.cell 1
      have a3k1 : (w2.alloc (.cells #[.bool false, .slice none 0 0, .int .i64 0] 28)).drew.cell? ⟨w.heap.size, 1, none⟩ = some (.int .i64 d) := Q3k.out.cell 1
      go_region_held3 (fun w' => w'.cell? ⟨w.heap.size, 0, none⟩ = some (.int .i64 n) ∧ w'.cell? ⟨w.heap.size, 1, none⟩ = some (.int .i64 d)) ((with_reducible refine ⟨?_, ?_⟩) <;> (with_reducible assumption)) (first
        | (go_at_call_of 60 (Value.int .i64 n)
           first
           | ((with_reducible refine (size_q n _ h1 h2).mono ?_)
              rw [HN.out]
              rintro e w4 ⟨rfl, hr⟩
              have HX := Lib.hid (show Below w2.drew.heap.size w2.drew w4 by rw [← hr]; exact Below.refl _ _)
              clear hr
              have HR4 := Lib.hid (show Below w2.heap.size w2 w4 from ⟨HX.out.os, HX.out.tape, HX.out.output, HX.out.size, HX.out.block⟩)
              clear HX
              have R4t := Lib.hid (F2t.out.belowW HR4.out)
              have R4k := Lib.hid (F2k.out.belowW HR4.out)
              have R4r := Lib.hid (F2r.out.belowW HR4.out)
              have c4k0 : w4.cell? ⟨w.heap.size, 0, none⟩ = some (.int .i64 n) := R4k.out.cell 0
              have a4k0 : (w4.alloc (.cells #[.bool false, .slice none 0 0, .int .i64 0] 28)).cell? ⟨w.heap.size, 0, none⟩ = some (.int .i64 n) := (R4k.out.alloc _).cell 0
              have c4k1 : w4.cell? ⟨w.heap.size, 1, none⟩ = some (.int .i64 d) := R4k.out.cell 1
              have a4k1 : (w4.alloc (.cells #[.bool false, .slice none 0 0, .int .i64 0] 28)).cell? ⟨w.heap.size, 1, none⟩ = some (.int .i64 d) := (R4k.out.alloc _).cell 1)
           | ((with_reducible refine (size_q n _ h1 h2).mono ?_)
              rw [HN.out]
              rintro e w4 ⟨rfl, hr⟩
              have HX := Lib.hid (show Below (w2.alloc (.cells #[.bool false, .slice none 0 0, .int .i64 0] 28)).drew.heap.size (w2.alloc (.cells #[.bool false, .slice none 0 0, .int .i64 0] 28)).drew w4 by rw [← hr]; exact Below.refl _ _)
              clear hr
              obtain ⟨gb, hgb⟩ : ∃ g, g = w2.heap.size := ⟨_, rfl⟩
              have ZB4 := Lib.hid (show Blk w4 gb 28 #[.bool false, .slice none 0 0, .int .i64 0] by rw [hgb]; exact ((Blk.new _ _ _).drewN 1).belowW HX.out)
              have hnek : w.heap.size ≠ gb := by rw [hgb]; have := F2k.out.lt; omega
              have HGB := Lib.hid hgb
              clear hgb
              have HR4 := Lib.hid (show Below w2.heap.size w2 w4 from below_ad HX.out)
              clear HX
              have R4t := Lib.hid (F2t.out.belowW HR4.out)
              have R4k := Lib.hid (F2k.out.belowW HR4.out)
              have R4r := Lib.hid (F2r.out.belowW HR4.out)
              have c4k0 : w4.cell? ⟨w.heap.size, 0, none⟩ = some (.int .i64 n) := R4k.out.cell 0
              have a4k0 : (w4.alloc (.cells #[.bool false, .slice none 0 0, .int .i64 0] 28)).cell? ⟨w.heap.size, 0, none⟩ = some (.int .i64 n) := (R4k.out.alloc _).cell 0
              have c4k1 : w4.cell? ⟨w.heap.size, 1, none⟩ = some (.int .i64 d) := R4k.out.cell 1
              have a4k1 : (w4.alloc (.cells #[.bool false, .slice none 0 0, .int .i64 0] 28)).cell? ⟨w.heap.size, 1, none⟩ = some (.int .i64 d) := (R4k.out.alloc _).cell 1))
        | (go_at_call 83
           first
           | ((with_reducible refine (limbs_q N _ N1).mono ?_)
              rintro e w5 ⟨P, rfl, HP, HX⟩
              try have ZB5 := Lib.hid (ZB4.out.belowW HX.out)
              have HC5 := HX
              have HR5 := Lib.hid (HR4.out.trans (HX.out.mono HR4.out.size))
              clear HX
              have R5t := Lib.hid (F2t.out.belowW HR5.out)
              have R5k := Lib.hid (F2k.out.belowW HR5.out)
              have R5r := Lib.hid (F2r.out.belowW HR5.out)
              have R5p := Lib.hid (HP.out)
              have c5k0 : w5.cell? ⟨w.heap.size, 0, none⟩ = some (.int .i64 n) := R5k.out.cell 0
              have a5k0 : (w5.alloc (.cells #[.bool false, .slice none 0 0, .int .i64 0] 28)).cell? ⟨w.heap.size, 0, none⟩ = some (.int .i64 n) := (R5k.out.alloc _).cell 0
              have c5k1 : w5.cell? ⟨w.heap.size, 1, none⟩ = some (.int .i64 d) := R5k.out.cell 1
              have a5k1 : (w5.alloc (.cells #[.bool false, .slice none 0 0, .int .i64 0] 28)).cell? ⟨w.heap.size, 1, none⟩ = some (.int .i64 d) := (R5k.out.alloc _).cell 1)
           | ((with_reducible refine (limbs_q N _ N1).mono ?_)
              rintro e w5 ⟨P, rfl, HP, HX⟩
              obtain ⟨gb, hgb⟩ : ∃ g, g = w4.heap.size := ⟨_, rfl⟩
              have ZB5 := Lib.hid (show Blk w5 gb 28 #[.bool false, .slice none 0 0, .int .i64 0] by rw [hgb]; exact (Blk.new _ _ _).belowW HX.out)
              have hnek : w.heap.size ≠ gb := by rw [hgb]; have := R4k.out.lt; omega
              have HGB := Lib.hid hgb
              clear hgb
              have HC5 := Lib.hid (show Below w4.heap.size w4 w5 from below_a HX.out)
              have HR5 := Lib.hid (HR4.out.trans (HC5.out.mono HR4.out.size))
              clear HX
              have R5t := Lib.hid (F2t.out.belowW HR5.out)
              have R5k := Lib.hid (F2k.out.belowW HR5.out)
              have R5r := Lib.hid (F2r.out.belowW HR5.out)
              have R5p := Lib.hid (HP.out)
              have c5k0 : w5.cell? ⟨w.heap.size, 0, none⟩ = some (.int .i64 n) := R5k.out.cell 0
              have a5k0 : (w5.alloc (.cells #[.bool false, .slice none 0 0, .int .i64 0] 28)).cell? ⟨w.heap.size, 0, none⟩ = some (.int .i64 n) := (R5k.out.alloc _).cell 0
              have c5k1 : w5.cell? ⟨w.heap.size, 1, none⟩ = some (.int .i64 d) := R5k.out.cell 1
              have a5k1 : (w5.alloc (.cells #[.bool false, .slice none 0 0, .int .i64 0] 28)).cell? ⟨w.heap.size, 1, none⟩ = some (.int .i64 d) := (R5k.out.alloc _).cell 1))
        | (go_at_call_of 60 (Value.int .i64 d)
           first
           | ((with_reducible refine (size_q d _ h3 h4).mono ?_)
              rw [HQ.out]
              rintro e w6 ⟨rfl, hr⟩
              have HX := Lib.hid (show Below w5.heap.size w5 w6 by rw [← hr]; exact Below.refl _ _)
              clear hr
              try have ZB6 := Lib.hid (ZB5.out.belowW HX.out)
              have HC6 := HX
              have HR6 := Lib.hid (HR5.out.trans (HX.out.mono HR5.out.size))
              clear HX
              have R6t := Lib.hid (F2t.out.belowW HR6.out)
              have R6k := Lib.hid (F2k.out.belowW HR6.out)
              have R6r := Lib.hid (F2r.out.belowW HR6.out)
              have R6p := Lib.hid (R5p.out.belowW HC6.out)
              have c6k0 : w6.cell? ⟨w.heap.size, 0, none⟩ = some (.int .i64 n) := R6k.out.cell 0
              have a6k0 : (w6.alloc (.cells #[.bool false, .slice none 0 0, .int .i64 0] 28)).cell? ⟨w.heap.size, 0, none⟩ = some (.int .i64 n) := (R6k.out.alloc _).cell 0
              have c6k1 : w6.cell? ⟨w.heap.size, 1, none⟩ = some (.int .i64 d) := R6k.out.cell 1
              have a6k1 : (w6.alloc (.cells #[.bool false, .slice none 0 0, .int .i64 0] 28)).cell? ⟨w.heap.size, 1, none⟩ = some (.int .i64 d) := (R6k.out.alloc _).cell 1)
           | ((with_reducible refine (size_q d _ h3 h4).mono ?_)
              rw [HQ.out]
              rintro e w6 ⟨rfl, hr⟩
              have HX := Lib.hid (show Below (w5.alloc (.cells #[.bool false, .slice none 0 0, .int .i64 0] 28)).heap.size (w5.alloc (.cells #[.bool false, .slice none 0 0, .int .i64 0] 28)) w6 by rw [← hr]; exact Below.refl _ _)
              clear hr
              obtain ⟨gb, hgb⟩ : ∃ g, g = w5.heap.size := ⟨_, rfl⟩
              have ZB6 := Lib.hid (show Blk w6 gb 28 #[.bool false, .slice none 0 0, .int .i64 0] by rw [hgb]; exact (Blk.new _ _ _).belowW HX.out)
              have hnek : w.heap.size ≠ gb := by rw [hgb]; have := R5k.out.lt; omega
              have HGB := Lib.hid hgb
              clear hgb
              have HC6 := Lib.hid (show Below w5.heap.size w5 w6 from below_a HX.out)
              have HR6 := Lib.hid (HR5.out.trans (HC6.out.mono HR5.out.size))
              clear HX
              have R6t := Lib.hid (F2t.out.belowW HR6.out)
              have R6k := Lib.hid (F2k.out.belowW HR6.out)
              have R6r := Lib.hid (F2r.out.belowW HR6.out)
              have R6p := Lib.hid (R5p.out.belowW HC6.out)
              have c6k0 : w6.cell? ⟨w.heap.size, 0, none⟩ = some (.int .i64 n) := R6k.out.cell 0
              have a6k0 : (w6.alloc (.cells #[.bool false, .slice none 0 0, .int .i64 0] 28)).cell? ⟨w.heap.size, 0, none⟩ = some (.int .i64 n) := (R6k.out.alloc _).cell 0
              have c6k1 : w6.cell? ⟨w.heap.size, 1, none⟩ = some (.int .i64 d) := R6k.out.cell 1
              have a6k1 : (w6.alloc (.cells #[.bool false, .slice none 0 0, .int .i64 0] 28)).cell? ⟨w.heap.size, 1, none⟩ = some (.int .i64 d) := (R6k.out.alloc _).cell 1))
        | (go_at_call 84
           first
           | ((with_reducible refine (tz64_any q _ q2 q4 R6t.out).mono ?_)
              rw [HTT.out]
              rintro e w7 ⟨rfl, hr⟩
              have HX := Lib.hid (show Below w6.heap.size w6 w7 by rw [← hr]; exact Below.refl _ _)
              clear hr
              try have ZB7 := Lib.hid (ZB6.out.belowW HX.out)
              have HC7 := HX
              have HR7 := Lib.hid (HR6.out.trans (HX.out.mono HR6.out.size))
              clear HX
              have R7t := Lib.hid (F2t.out.belowW HR7.out)
              have R7k := Lib.hid (F2k.out.belowW HR7.out)
              have R7r := Lib.hid (F2r.out.belowW HR7.out)
              have R7p := Lib.hid (R6p.out.belowW HC7.out)
              have c7k0 : w7.cell? ⟨w.heap.size, 0, none⟩ = some (.int .i64 n) := R7k.out.cell 0
              have a7k0 : (w7.alloc (.cells #[.bool false, .slice none 0 0, .int .i64 0] 28)).cell? ⟨w.heap.size, 0, none⟩ = some (.int .i64 n) := (R7k.out.alloc _).cell 0
              have c7k1 : w7.cell? ⟨w.heap.size, 1, none⟩ = some (.int .i64 d) := R7k.out.cell 1
              have a7k1 : (w7.alloc (.cells #[.bool false, .slice none 0 0, .int .i64 0] 28)).cell? ⟨w.heap.size, 1, none⟩ = some (.int .i64 d) := (R7k.out.alloc _).cell 1)
           | ((with_reducible refine (tz64_any q _ q2 q4 (R6t.out.alloc _)).mono ?_)
              rw [HTT.out]
              rintro e w7 ⟨rfl, hr⟩
              have HX := Lib.hid (show Below (w6.alloc (.cells #[.bool false, .slice none 0 0, .int .i64 0] 28)).heap.size (w6.alloc (.cells #[.bool false, .slice none 0 0, .int .i64 0] 28)) w7 by rw [← hr]; exact Below.refl _ _)
              clear hr
              obtain ⟨gb, hgb⟩ : ∃ g, g = w6.heap.size := ⟨_, rfl⟩
              have ZB7 := Lib.hid (show Blk w7 gb 28 #[.bool false, .slice none 0 0, .int .i64 0] by rw [hgb]; exact (Blk.new _ _ _).belowW HX.out)
              have hnek : w.heap.size ≠ gb := by rw [hgb]; have := R6k.out.lt; omega
              have HGB := Lib.hid hgb
              clear hgb
              have HC7 := Lib.hid (show Below w6.heap.size w6 w7 from below_a HX.out)
              have HR7 := Lib.hid (HR6.out.trans (HC7.out.mono HR6.out.size))
              clear HX
              have R7t := Lib.hid (F2t.out.belowW HR7.out)
              have R7k := Lib.hid (F2k.out.belowW HR7.out)
              have R7r := Lib.hid (F2r.out.belowW HR7.out)
              have R7p := Lib.hid (R6p.out.belowW HC7.out)
              have c7k0 : w7.cell? ⟨w.heap.size, 0, none⟩ = some (.int .i64 n) := R7k.out.cell 0
              have a7k0 : (w7.alloc (.cells #[.bool false, .slice none 0 0, .int .i64 0] 28)).cell? ⟨w.heap.size, 0, none⟩ = some (.int .i64 n) := (R7k.out.alloc _).cell 0
              have c7k1 : w7.cell? ⟨w.heap.size, 1, none⟩ = some (.int .i64 d) := R7k.out.cell 1
              have a7k1 : (w7.alloc (.cells #[.bool false, .slice none 0 0, .int .i64 0] 28)).cell? ⟨w.heap.size, 1, none⟩ = some (.int .i64 d) := (R7k.out.alloc _).cell 1))
        | (go_at_call 82
           first
           | ((with_reducible refine (make_ok' (decide (n < 0)) P 2 2 (-(t : Int)) _ _ R7p.out R7t.out L2 e1 e2).mono ?_)
              rw [HVX.out]
              rintro e w8 ⟨L, ln, lc, rfl, HS, HX⟩
              try have ZB8 := Lib.hid (ZB7.out.belowW HX.out)
              have HC8 := HX
              have HR8 := Lib.hid (HR7.out.trans (HX.out.mono HR7.out.size))
              clear HX
              have R8t := Lib.hid (F2t.out.belowW HR8.out)
              have R8k := Lib.hid (F2k.out.belowW HR8.out)
              have R8r := Lib.hid (F2r.out.belowW HR8.out)
              have R8p := Lib.hid (R7p.out.belowW HC8.out)
              have R8s := Lib.hid (HS.out)
              have c8k0 : w8.cell? ⟨w.heap.size, 0, none⟩ = some (.int .i64 n) := R8k.out.cell 0
              have a8k0 : (w8.alloc (.cells #[.bool false, .slice none 0 0, .int .i64 0] 28)).cell? ⟨w.heap.size, 0, none⟩ = some (.int .i64 n) := (R8k.out.alloc _).cell 0
              have c8k1 : w8.cell? ⟨w.heap.size, 1, none⟩ = some (.int .i64 d) := R8k.out.cell 1
              have a8k1 : (w8.alloc (.cells #[.bool false, .slice none 0 0, .int .i64 0] 28)).cell? ⟨w.heap.size, 1, none⟩ = some (.int .i64 d) := (R8k.out.alloc _).cell 1
              have b8k0 : (w8.alloc (.cells #[.bool x.neg, .slice L ln lc, .int .i64 x.e] 28)).cell? ⟨w.heap.size, 0, none⟩ = some (.int .i64 n) := (R8k.out.alloc _).cell 0
              try have s8k0 := store3_far ZB8.out (show w8.cell? ⟨w.heap.size, 0, none⟩ = some (.int .i64 n) from R8k.out.cell 0) hnek (.bool x.neg) (.slice L ln lc) (.int .i64 x.e)
              try rw [HGB.out] at s8k0
              have b8k1 : (w8.alloc (.cells #[.bool x.neg, .slice L ln lc, .int .i64 x.e] 28)).cell? ⟨w.heap.size, 1, none⟩ = some (.int .i64 d) := (R8k.out.alloc _).cell 1
              try have s8k1 := store3_far ZB8.out (show w8.cell? ⟨w.heap.size, 1, none⟩ = some (.int .i64 d) from R8k.out.cell 1) hnek (.bool x.neg) (.slice L ln lc) (.int .i64 x.e)
              try rw [HGB.out] at s8k1
              try (have z0 : w8.cell? ⟨w2.heap.size, 0, none⟩ = some (.bool false) := (by rw [← HGB.out]; exact ZB8.out.cell 0); have z1 : w8.cell? ⟨w2.heap.size, 1, none⟩ = some (.slice none 0 0) := (by rw [← HGB.out]; exact ZB8.out.cell 1); have z2 : w8.cell? ⟨w2.heap.size, 2, none⟩ = some (.int .i64 0) := (by rw [← HGB.out]; exact ZB8.out.cell 2); have y0 : w8.frozen? ⟨w2.heap.size, 0, none⟩ = false := (by rw [← HGB.out]; exact ZB8.out.frozen 0); have y1 : w8.frozen? ⟨w2.heap.size, 1, none⟩ = false := (by rw [← HGB.out]; exact ZB8.out.frozen 1); have y2 : w8.frozen? ⟨w2.heap.size, 2, none⟩ = false := (by rw [← HGB.out]; exact ZB8.out.frozen 2))
              try (have z0 : w8.cell? ⟨w4.heap.size, 0, none⟩ = some (.bool false) := (by rw [← HGB.out]; exact ZB8.out.cell 0); have z1 : w8.cell? ⟨w4.heap.size, 1, none⟩ = some (.slice none 0 0) := (by rw [← HGB.out]; exact ZB8.out.cell 1); have z2 : w8.cell? ⟨w4.heap.size, 2, none⟩ = some (.int .i64 0) := (by rw [← HGB.out]; exact ZB8.out.cell 2); have y0 : w8.frozen? ⟨w4.heap.size, 0, none⟩ = false := (by rw [← HGB.out]; exact ZB8.out.frozen 0); have y1 : w8.frozen? ⟨w4.heap.size, 1, none⟩ = false := (by rw [← HGB.out]; exact ZB8.out.frozen 1); have y2 : w8.frozen? ⟨w4.heap.size, 2, none⟩ = false := (by rw [← HGB.out]; exact ZB8.out.frozen 2))
              try (have z0 : w8.cell? ⟨w5.heap.size, 0, none⟩ = some (.bool false) := (by rw [← HGB.out]; exact ZB8.out.cell 0); have z1 : w8.cell? ⟨w5.heap.size, 1, none⟩ = some (.slice none 0 0) := (by rw [← HGB.out]; exact ZB8.out.cell 1); have z2 : w8.cell? ⟨w5.heap.size, 2, none⟩ = some (.int .i64 0) := (by rw [← HGB.out]; exact ZB8.out.cell 2); have y0 : w8.frozen? ⟨w5.heap.size, 0, none⟩ = false := (by rw [← HGB.out]; exact ZB8.out.frozen 0); have y1 : w8.frozen? ⟨w5.heap.size, 1, none⟩ = false := (by rw [← HGB.out]; exact ZB8.out.frozen 1); have y2 : w8.frozen? ⟨w5.heap.size, 2, none⟩ = false := (by rw [← HGB.out]; exact ZB8.out.frozen 2))
              try (have z0 : w8.cell? ⟨w6.heap.size, 0, none⟩ = some (.bool false) := (by rw [← HGB.out]; exact ZB8.out.cell 0); have z1 : w8.cell? ⟨w6.heap.size, 1, none⟩ = some (.slice none 0 0) := (by rw [← HGB.out]; exact ZB8.out.cell 1); have z2 : w8.cell? ⟨w6.heap.size, 2, none⟩ = some (.int .i64 0) := (by rw [← HGB.out]; exact ZB8.out.cell 2); have y0 : w8.frozen? ⟨w6.heap.size, 0, none⟩ = false := (by rw [← HGB.out]; exact ZB8.out.frozen 0); have y1 : w8.frozen? ⟨w6.heap.size, 1, none⟩ = false := (by rw [← HGB.out]; exact ZB8.out.frozen 1); have y2 : w8.frozen? ⟨w6.heap.size, 2, none⟩ = false := (by rw [← HGB.out]; exact ZB8.out.frozen 2))
              try (have z0 : w8.cell? ⟨w7.heap.size, 0, none⟩ = some (.bool false) := (by rw [← HGB.out]; exact ZB8.out.cell 0); have z1 : w8.cell? ⟨w7.heap.size, 1, none⟩ = some (.slice none 0 0) := (by rw [← HGB.out]; exact ZB8.out.cell 1); have z2 : w8.cell? ⟨w7.heap.size, 2, none⟩ = some (.int .i64 0) := (by rw [← HGB.out]; exact ZB8.out.cell 2); have y0 : w8.frozen? ⟨w7.heap.size, 0, none⟩ = false := (by rw [← HGB.out]; exact ZB8.out.frozen 0); have y1 : w8.frozen? ⟨w7.heap.size, 1, none⟩ = false := (by rw [← HGB.out]; exact ZB8.out.frozen 1); have y2 : w8.frozen? ⟨w7.heap.size, 2, none⟩ = false := (by rw [← HGB.out]; exact ZB8.out.frozen 2)))
           | ((with_reducible refine (make_ok' (decide (n < 0)) P 2 2 (-(t : Int)) _ _ (R7p.out.alloc _) (R7t.out.alloc _) L2 e1 e2).mono ?_)
              rw [HVX.out]
              rintro e w8 ⟨L, ln, lc, rfl, HS, HX⟩
              obtain ⟨gb, hgb⟩ : ∃ g, g = w7.heap.size := ⟨_, rfl⟩
              have ZB8 := Lib.hid (show Blk w8 gb 28 #[.bool false, .slice none 0 0, .int .i64 0] by rw [hgb]; exact (Blk.new _ _ _).belowW HX.out)
              have hnek : w.heap.size ≠ gb := by rw [hgb]; have := R7k.out.lt; omega
              have HGB := Lib.hid hgb
              clear hgb
              have HC8 := Lib.hid (show Below w7.heap.size w7 w8 from below_a HX.out)
              have HR8 := Lib.hid (HR7.out.trans (HC8.out.mono HR7.out.size))
              clear HX
              have R8t := Lib.hid (F2t.out.belowW HR8.out)
              have R8k := Lib.hid (F2k.out.belowW HR8.out)
              have R8r := Lib.hid (F2r.out.belowW HR8.out)
              have R8p := Lib.hid (R7p.out.belowW HC8.out)
              have R8s := Lib.hid (HS.out)
              have c8k0 : w8.cell? ⟨w.heap.size, 0, none⟩ = some (.int .i64 n) := R8k.out.cell 0
              have a8k0 : (w8.alloc (.cells #[.bool false, .slice none 0 0, .int .i64 0] 28)).cell? ⟨w.heap.size, 0, none⟩ = some (.int .i64 n) := (R8k.out.alloc _).cell 0
              have c8k1 : w8.cell? ⟨w.heap.size, 1, none⟩ = some (.int .i64 d) := R8k.out.cell 1
              have a8k1 : (w8.alloc (.cells #[.bool false, .slice none 0 0, .int .i64 0] 28)).cell? ⟨w.heap.size, 1, none⟩ = some (.int .i64 d) := (R8k.out.alloc _).cell 1
              have b8k0 : (w8.alloc (.cells #[.bool x.neg, .slice L ln lc, .int .i64 x.e] 28)).cell? ⟨w.heap.size, 0, none⟩ = some (.int .i64 n) := (R8k.out.alloc _).cell 0
              try have s8k0 := store3_far ZB8.out (show w8.cell? ⟨w.heap.size, 0, none⟩ = some (.int .i64 n) from R8k.out.cell 0) hnek (.bool x.neg) (.slice L ln lc) (.int .i64 x.e)
              try rw [HGB.out] at s8k0
              have b8k1 : (w8.alloc (.cells #[.bool x.neg, .slice L ln lc, .int .i64 x.e] 28)).cell? ⟨w.heap.size, 1, none⟩ = some (.int .i64 d) := (R8k.out.alloc _).cell 1
              try have s8k1 := store3_far ZB8.out (show w8.cell? ⟨w.heap.size, 1, none⟩ = some (.int .i64 d) from R8k.out.cell 1) hnek (.bool x.neg) (.slice L ln lc) (.int .i64 x.e)
              try rw [HGB.out] at s8k1
              try (have z0 : w8.cell? ⟨w2.heap.size, 0, none⟩ = some (.bool false) := (by rw [← HGB.out]; exact ZB8.out.cell 0); have z1 : w8.cell? ⟨w2.heap.size, 1, none⟩ = some (.slice none 0 0) := (by rw [← HGB.out]; exact ZB8.out.cell 1); have z2 : w8.cell? ⟨w2.heap.size, 2, none⟩ = some (.int .i64 0) := (by rw [← HGB.out]; exact ZB8.out.cell 2); have y0 : w8.frozen? ⟨w2.heap.size, 0, none⟩ = false := (by rw [← HGB.out]; exact ZB8.out.frozen 0); have y1 : w8.frozen? ⟨w2.heap.size, 1, none⟩ = false := (by rw [← HGB.out]; exact ZB8.out.frozen 1); have y2 : w8.frozen? ⟨w2.heap.size, 2, none⟩ = false := (by rw [← HGB.out]; exact ZB8.out.frozen 2))
              try (have z0 : w8.cell? ⟨w4.heap.size, 0, none⟩ = some (.bool false) := (by rw [← HGB.out]; exact ZB8.out.cell 0); have z1 : w8.cell? ⟨w4.heap.size, 1, none⟩ = some (.slice none 0 0) := (by rw [← HGB.out]; exact ZB8.out.cell 1); have z2 : w8.cell? ⟨w4.heap.size, 2, none⟩ = some (.int .i64 0) := (by rw [← HGB.out]; exact ZB8.out.cell 2); have y0 : w8.frozen? ⟨w4.heap.size, 0, none⟩ = false := (by rw [← HGB.out]; exact ZB8.out.frozen 0); have y1 : w8.frozen? ⟨w4.heap.size, 1, none⟩ = false := (by rw [← HGB.out]; exact ZB8.out.frozen 1); have y2 : w8.frozen? ⟨w4.heap.size, 2, none⟩ = false := (by rw [← HGB.out]; exact ZB8.out.frozen 2))
              try (have z0 : w8.cell? ⟨w5.heap.size, 0, none⟩ = some (.bool false) := (by rw [← HGB.out]; exact ZB8.out.cell 0); have z1 : w8.cell? ⟨w5.heap.size, 1, none⟩ = some (.slice none 0 0) := (by rw [← HGB.out]; exact ZB8.out.cell 1); have z2 : w8.cell? ⟨w5.heap.size, 2, none⟩ = some (.int .i64 0) := (by rw [← HGB.out]; exact ZB8.out.cell 2); have y0 : w8.frozen? ⟨w5.heap.size, 0, none⟩ = false := (by rw [← HGB.out]; exact ZB8.out.frozen 0); have y1 : w8.frozen? ⟨w5.heap.size, 1, none⟩ = false := (by rw [← HGB.out]; exact ZB8.out.frozen 1); have y2 : w8.frozen? ⟨w5.heap.size, 2, none⟩ = false := (by rw [← HGB.out]; exact ZB8.out.frozen 2))
              try (have z0 : w8.cell? ⟨w6.heap.size, 0, none⟩ = some (.bool false) := (by rw [← HGB.out]; exact ZB8.out.cell 0); have z1 : w8.cell? ⟨w6.heap.size, 1, none⟩ = some (.slice none 0 0) := (by rw [← HGB.out]; exact ZB8.out.cell 1); have z2 : w8.cell? ⟨w6.heap.size, 2, none⟩ = some (.int .i64 0) := (by rw [← HGB.out]; exact ZB8.out.cell 2); have y0 : w8.frozen? ⟨w6.heap.size, 0, none⟩ = false := (by rw [← HGB.out]; exact ZB8.out.frozen 0); have y1 : w8.frozen? ⟨w6.heap.size, 1, none⟩ = false := (by rw [← HGB.out]; exact ZB8.out.frozen 1); have y2 : w8.frozen? ⟨w6.heap.size, 2, none⟩ = false := (by rw [← HGB.out]; exact ZB8.out.frozen 2))
              try (have z0 : w8.cell? ⟨w7.heap.size, 0, none⟩ = some (.bool false) := (by rw [← HGB.out]; exact ZB8.out.cell 0); have z1 : w8.cell? ⟨w7.heap.size, 1, none⟩ = some (.slice none 0 0) := (by rw [← HGB.out]; exact ZB8.out.cell 1); have z2 : w8.cell? ⟨w7.heap.size, 2, none⟩ = some (.int .i64 0) := (by rw [← HGB.out]; exact ZB8.out.cell 2); have y0 : w8.frozen? ⟨w7.heap.size, 0, none⟩ = false := (by rw [← HGB.out]; exact ZB8.out.frozen 0); have y1 : w8.frozen? ⟨w7.heap.size, 1, none⟩ = false := (by rw [← HGB.out]; exact ZB8.out.frozen 1); have y2 : w8.frozen? ⟨w7.heap.size, 2, none⟩ = false := (by rw [← HGB.out]; exact ZB8.out.frozen 2)))))
      all_goals go_wp2_with fail
      all_goals
        first
        | (rw [← HGB.out]
           rw [store3_put ZB8.out]
           have HGL := Lib.hid (show w2.heap.size ≤ gb by rw [HGB.out]; first | exact Nat.le_refl _ | exact HR4.out.size | exact HR5.out.size | exact HR6.out.size | exact HR7.out.size | exact HR8.out.size)
           go_meet
           exact ⟨gb, L, ln, lc, rfl, rfl, Lib.hid (ZB8.out.put _), Lib.hid (R8s.out.far ZB8.out noU3 (putB_grown _ _ _ _)), HGL, Lib.hid (HR8.out.trans (putB_below _ _ _ _ HGL.out))⟩)
        | (go_meet
           exact ⟨w8.heap.size, L, ln, lc, rfl, rfl, Lib.hid (Blk.new _ _ _), Lib.hid (R8s.out.alloc _), Lib.hid HR8.out.size, Lib.hid (HR8.out.trans ((below_a1 _ _).mono HR8.out.size))⟩)
    case rest =>
      obtain ⟨gd, L, ln, lc, rfl, rfl, FV, FS, HGD, HQQ⟩ := hcut
      obtain ⟨w9, hw⟩ : ∃ z9 : World, z9 = wc := ⟨_, rfl⟩
      rw [← hw] at FV FS HQQ ⊢
      clear hw
      have F9t := Lib.hid (F2t.out.belowW HQQ.out)
      have F9k := Lib.hid (F2k.out.belowW HQQ.out)
      have F9r := Lib.hid (F2r.out.belowW HQQ.out)
      have HL9 := Lib.hid (HL2.out.trans (HQQ.out.mono HL2.out.size))
      have pr0 : (w9).cell? ⟨w.heap.size + 1, 0, none⟩ = some (.bool false) := F9r.out.cell 0
      have fr0 : (w9).frozen? ⟨w.heap.size + 1, 0, none⟩ = false := F9r.out.frozen 0
      have pr1 : (w9).cell? ⟨w.heap.size + 1, 1, none⟩ = some (.slice none 0 0) := F9r.out.cell 1
      have fr1 : (w9).frozen? ⟨w.heap.size + 1, 1, none⟩ = false := F9r.out.frozen 1
      have pr2 : (w9).cell? ⟨w.heap.size + 1, 2, none⟩ = some (.int .i64 0) := F9r.out.cell 2
      have fr2 : (w9).frozen? ⟨w.heap.size + 1, 2, none⟩ = false := F9r.out.frozen 2
      have pv0 : (w9).cell? ⟨gd, 0, none⟩ = some (.bool x.neg) := FV.out.cell 0
      have fv0 : (w9).frozen? ⟨gd, 0, none⟩ = false := FV.out.frozen 0
      have pv1 : (w9).cell? ⟨gd, 1, none⟩ = some (.slice L ln lc) := FV.out.cell 1
      have fv1 : (w9).frozen? ⟨gd, 1, none⟩ = false := FV.out.frozen 1
      have pv2 : (w9).cell? ⟨gd, 2, none⟩ = some (.int .i64 x.e) := FV.out.cell 2
      have fv2 : (w9).frozen? ⟨gd, 2, none⟩ = false := FV.out.frozen 2
      go_wp2_with fail
      refine bodyPost_ret (v := .tuple #[.agg #[.bool x.neg, .slice L ln lc, .int .i64 x.e], .bool true]) (by simp [results, Tryz.results42, go_sem, pr0, pr1, pr2]) rfl ?_
      rw [HR.out]
      exact ⟨L, ln, lc, rfl, Lib.hid (store3_sl FS.out F9r.out noU3 _ _ _), Lib.hid (store3_below HL9.out F9r.out _ _ _ (by omega))⟩
end Go.Proofs.YtnogfceojmnjiaaGreatDoor
