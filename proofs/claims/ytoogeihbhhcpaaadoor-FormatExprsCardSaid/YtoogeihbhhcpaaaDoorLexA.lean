/-
  Walks: bytes' classes, words, digits, numbers, kinds.
-/
import Derived.Test.YtoogeihbhhcpaaaDoorProg
import Derived.Test.YtoogeihbhhcpaaaDoorPkB
import Derived.Test.YtoogeihbhhcpaaaDoorPkA
namespace Go.Proofs.YtoogeihbhhcpaaaDoor
open Go.RowKit Go.Fl Go.Fl.Lx

theorem slIndexByte (s : ByteArray) (c : Int) (w : World) :
    Calls Tryd.prog 71 #[.string s, .int .u8 c] w fun e w' => e = .returned (.int .i64 (Lib.indexByte s.data.toList c.toNat.toUInt8)) ∧ w = w' := by
  go_enter Tryd.func71, Tryd.ntmps71
  have he := fun w => run_callFunc_extern (w := w) Tryd.func72 (by kernel_rfl) (by kernel_rfl) (by kernel_rfl) (e := Extern.BytealgIndexByte.indexByte) (by kernel_rfl) #[.string s, .int .u8 c]
  simp only [Lib.run_indexByteString, Result.andThen] at he
  go_wp2_with fail
  go_ret
  exact ⟨rfl, rfl⟩

theorem sIndexByte (s : ByteArray) (c : Int) (w : World) :
    Calls Tryd.prog 68 #[.string s, .int .u8 c] w fun e w' => e = .returned (.int .i64 (Lib.indexByte s.data.toList c.toNat.toUInt8)) ∧ w = w' := by
  go_enter Tryd.func68, Tryd.ntmps68
  go_wp2_with (go_at_call 71; refine (slIndexByte _ _ _).mono ?_; rintro e w' ⟨rfl, rfl⟩)
  go_ret
  exact ⟨rfl, rfl⟩


theorem u8_ofNat (b : UInt8) : (b.toNat : Int).toNat.toUInt8 = b := by simp

theorem class_any (b : UInt8) (w : World) :
    Calls Tryd.prog 59 #[.int .u8 b.toNat] w fun e w' => e = .returned (.int .i64 (cls b)) ∧ w = w' := by
  have hlt : (b.toNat : Int) < 256 := by have := b.toNat_lt; omega
  have h0 : (0 : Int) ≤ b.toNat := by omega
  obtain ⟨c, hc⟩ : ∃ c : Int, c = b.toNat := ⟨_, rfl⟩
  have HC := Lib.hid hc
  rw [← hc] at hlt h0 ⊢
  have HB := Lib.hid (show c.toNat.toUInt8 = b by rw [hc]; exact u8_ofNat b)
  have HIX := Lib.hid (show (0 ≤ Lib.indexByte syms b) ↔ isSym b = true by rw [indexByte_nonneg]; unfold isSym; simp)
  have hbn : b.toNat = c.toNat := by omega
  have HBN := Lib.hid hbn
  clear hc hbn
  by_cases g1 : c = 32 ∨ c = 9 ∨ c = 13 ∨ c = 10
  · have HR := Lib.hid (show cls b = 1 by rw [← HB.out]; rcases g1 with h | h | h | h <;> rw [h] <;> decide)
    rcases g1 with rfl | rfl | rfl | rfl
    all_goals
      go_enter Tryd.func59, Tryd.ntmps59
      go_wp2_with fail
      go_ret
      exact ⟨by rw [HR.out]; rfl, rfl⟩
  have e1 : (c == 32) = false := by rw [beq_eq_false_iff_ne]; omega
  have e2 : (c == 9) = false := by rw [beq_eq_false_iff_ne]; omega
  have e3 : (c == 13) = false := by rw [beq_eq_false_iff_ne]; omega
  have e4 : (c == 10) = false := by rw [beq_eq_false_iff_ne]; omega
  have HNB := Lib.hid (show isBlank b = false by simp [isBlank, ← UInt8.toNat_inj]; rw [HBN.out]; omega)
  clear g1
  by_cases g2 : (97 ≤ c ∧ c ≤ 122) ∨ (65 ≤ c ∧ c ≤ 90)
  · have HL := Lib.hid (show isLetter b = true by simp [isLetter, UInt8.le_iff_toNat_le]; rw [HBN.out]; omega)
    have HR := Lib.hid (show cls b = 2 by simp [cls, HNB.out, HL.out])
    rcases g2 with ⟨g2, g3⟩ | ⟨g2, g3⟩
    all_goals
      go_enter Tryd.func59, Tryd.ntmps59
      go_wp2_with fail
      go_ret
      exact ⟨by rw [HR.out]; rfl, rfl⟩
  have HNL := Lib.hid (show isLetter b = false by simp [isLetter, UInt8.le_iff_toNat_le]; rw [HBN.out]; omega)
  by_cases g3 : 48 ≤ c ∧ c ≤ 57
  · have HL := Lib.hid (show isDigit b = true by simp [isDigit, UInt8.le_iff_toNat_le]; rw [HBN.out]; omega)
    have HR := Lib.hid (show cls b = 3 by simp [cls, HNB.out, HL.out, HNL.out])
    obtain ⟨g3, g4⟩ := g3
    clear g2
    go_enter Tryd.func59, Tryd.ntmps59
    go_wp2_with fail
    go_ret
    exact ⟨by rw [HR.out]; rfl, rfl⟩
  have HND := Lib.hid (show isDigit b = false by simp [isDigit, UInt8.le_iff_toNat_le]; rw [HBN.out]; omega)
  by_cases g4 : c = 95
  · have HR := Lib.hid (show cls b = 4 by rw [← HB.out, g4]; decide)
    subst g4
    go_enter Tryd.func59, Tryd.ntmps59
    go_wp2_with fail
    go_ret
    exact ⟨by rw [HR.out]; rfl, rfl⟩
  by_cases g5 : c = 46
  · have HR := Lib.hid (show cls b = 5 by rw [← HB.out, g5]; decide)
    subst g5
    go_enter Tryd.func59, Tryd.ntmps59
    go_wp2_with fail
    go_ret
    exact ⟨by rw [HR.out]; rfl, rfl⟩
  have HN4 := Lib.hid (show (b == 95) = false by simp [← UInt8.toNat_inj]; rw [HBN.out]; omega)
  have HN5 := Lib.hid (show (b == 46) = false by simp [← UInt8.toNat_inj]; rw [HBN.out]; omega)
  have HR := Lib.hid (show cls b = if isSym b then 6 else 0 by simp [cls, HNB.out, HNL.out, HND.out, HN4.out, HN5.out])
  have e5 : (c == 95) = false := by rw [beq_eq_false_iff_ne]; omega
  have e6 : (c == 46) = false := by rw [beq_eq_false_iff_ne]; omega
  have hx : Lib.indexByte syms b = Lib.indexByte [40, 41, 91, 93, 123, 125, 44, 59, 58, 39, 61, 43, 45, 42, 47, 94] c.toNat.toUInt8 := by rw [HB.out]; rfl
  have HX := Lib.hid hx
  clear hx
  rcases (by omega : c < 48 ∨ (58 ≤ c ∧ c ≤ 64) ∨ (91 ≤ c ∧ c ≤ 96) ∨ 123 ≤ c) with h | ⟨h, h'⟩ | ⟨h, h'⟩ | h
  all_goals
    clear g2 g3 g4 g5
    go_enter Tryd.func59, Tryd.ntmps59
    go_wp2_with (go_at_call 68; refine (sIndexByte _ _ _).mono ?_; rintro e w' ⟨rfl, rfl⟩)
    · have hh : 0 ≤ Lib.indexByte [40, 41, 91, 93, 123, 125, 44, 59, 58, 39, 61, 43, 45, 42, 47, 94] c.toNat.toUInt8 := by assumption
      go_ret
      exact ⟨by rw [HR.out, if_pos (HIX.out.1 (by rw [HX.out]; exact hh))]; rfl, rfl⟩
    · have hh : Lib.indexByte [40, 41, 91, 93, 123, 125, 44, 59, 58, 39, 61, 43, 45, 42, 47, 94] c.toNat.toUInt8 < 0 := by assumption
      go_ret
      exact ⟨by rw [HR.out, if_neg (fun h => by have := HIX.out.2 h; rw [HX.out] at this; omega)]; rfl, rfl⟩
end Go.Proofs.YtoogeihbhhcpaaaDoor
