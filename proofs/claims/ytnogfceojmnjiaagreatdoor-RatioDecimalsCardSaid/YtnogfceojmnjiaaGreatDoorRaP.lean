/-
  The closure of the law RatioDecimals: digits.
-/
import Derived.Test.YtnogfceojmnjiaaGreatDoorRaN
set_option linter.unusedVariables false
namespace Go.Proofs.YtnogfceojmnjiaaGreatDoor
open Go.RowKit Go.Fl Go.Fl.Nm Go.Fl.Dy Go.Fl.Rt
/-- The digits so far: those of m, then l. -/
def digInv (n m : Nat) (l : List UInt8) : Prop := (l = [] ∧ m = n) ∨ (l ≠ [] ∧ (if m = 0 then [] else Lib.decDigits m) ++ l = Lib.decDigits n)
theorem digInv_step {n m : Nat} {l : List UInt8} (h : digInv n m l) (hc : m ≠ 0 ∨ l = []) : digInv n (m / 10) (UInt8.ofNat (48 + m % 10) :: l) := by
  refine Or.inr ⟨by simp, ?_⟩
  have key : (if m / 10 = 0 then [] else Lib.decDigits (m / 10)) ++ UInt8.ofNat (48 + m % 10) :: l = Lib.decDigits m ++ l := by
    by_cases h10 : m < 10
    · rw [if_pos (by omega), Lib.decDigits_one h10, Nat.mod_eq_of_lt h10]; rfl
    · rw [if_neg (by omega), dec_big h10]; simp
  rw [key]
  rcases h with ⟨rfl, rfl⟩ | ⟨hl, h⟩
  · simp
  · rw [if_neg (by rcases hc with h0 | h0; exact h0; exact absurd h0 hl)] at h
    exact h
theorem digInv_end {n : Nat} {l : List UInt8} (h : digInv n 0 l) (hl : l ≠ []) : l = Lib.decDigits n := by
  rcases h with ⟨rfl, _⟩ | ⟨_, h⟩
  · exact absurd rfl hl
  · simpa using h
theorem enc_dig (m : Nat) : Utf8.encode (48 + (m : Int) % 10) = digB m := by
  unfold digB
  have h : m % 10 < 10 := Nat.mod_lt _ (by decide)
  have e : (m : Int) % 10 = ((m % 10 : Nat) : Int) := rfl
  rw [e]
  generalize m % 10 = k at h
  match k, h with
  | 0, _ => rfl
  | 1, _ => rfl
  | 2, _ => rfl
  | 3, _ => rfl
  | 4, _ => rfl
  | 5, _ => rfl
  | 6, _ => rfl
  | 7, _ => rfl
  | 8, _ => rfl
  | 9, _ => rfl
theorem digInv_size {n m : Nat} {S : ByteArray} (h : digInv n m S.data.toList) (hn : n < 4294967296) : S.size ≤ 21 := by
  have e : S.size = S.data.toList.length := by simp
  rcases h with ⟨h, _⟩ | ⟨_, h⟩
  · rw [e, h]; simp
  · have z := Lib.itoa_length_le n (by omega) (by omega)
    rw [Lib.itoa_nonneg, ← h, List.length_append] at z
    omega
theorem digInv_next {n m : Nat} {S : ByteArray} (h : digInv n m S.data.toList) (hc : m ≠ 0 ∨ S.data.toList = []) : digInv n (m / 10) (digB m ++ S).data.toList := by
  rw [data_app, digB_list]
  exact digInv_step h hc
theorem ba_nil {S : ByteArray} (h : S.data.toList = []) : S = ⟨#[]⟩ := by
  have e : S.data = #[] := Array.toList_eq_nil_iff.1 h
  cases S; cases e; rfl
theorem ba_ne {S : ByteArray} (h : S ≠ ⟨#[]⟩) : S.toList.isEmpty = false := by
  rw [bl_data]
  cases e : S.data.toList with
  | nil => exact absurd (ba_nil e) h
  | cons a l => rfl
def emptyOne : Value → Nat
  | .string S => if S.size = 0 then 1 else 0
  | _ => 0
set_option maxRecDepth 100000 in
set_option maxHeartbeats 2000000 in
theorem digits_c (n : Nat) (w : World) (hn : n < 4294967296) :
    Calls Tryz.prog 19 #[.int .u32 n] w (StrP (Lib.decDigits n) w) := by
  go_enter Tryz.func19, Tryz.ntmps19
  go_wp2_with fail
  go_loop [0, 3] (fun a b => ∃ (m : Nat) (S : ByteArray), m < 4294967296 ∧ a = .int .u32 m ∧ b = .string S ∧ Hid (digInv n m S.data.toList)) (fun a b => 2 * (intOf a).toNat + emptyOne b)
  case atStart => exact ⟨n, ⟨#[]⟩, hn, rfl, rfl, Lib.hid (Or.inl ⟨rfl, rfl⟩)⟩
  case round =>
    obtain ⟨m, S, hm, rfl, rfl, HI⟩ := hrel
    have s1 : IntKind.u32.wrap (48 + (m : Int) % 10) = 48 + (m : Int) % 10 := by rw [IntKind.wrap_u32]; omega
    have s2 : IntKind.i32.wrap (48 + (m : Int) % 10) = 48 + (m : Int) % 10 := by rw [IntKind.wrap_i32]; omega
    have es := enc_dig m
    have zs := digInv_size HI.out hn
    have z1 : ¬ 9223372036854775807 < (digB m).size + S.size := by rw [digB_size]; omega
    have z2 : emptyOne (.string (digB m ++ S)) = 0 := by
      show (if (digB m ++ S).size = 0 then 1 else 0) = 0
      rw [if_neg]
      rw [ByteArray.size_append, digB_size]
      omega
    by_cases h0 : 0 < m
    · have d0 : decide (0 < m) = true := decide_eq_true h0
      have HN := Lib.hid (digInv_next HI.out (Or.inl (by omega)))
      clear zs
      go_wp2_with fail
      refine ⟨⟨m / 10, digB m ++ S, by omega, rfl, rfl, HN⟩, ?_⟩
      rw [z2]
      simp [intOf]
      omega
    · obtain rfl : m = 0 := by omega
      by_cases hS : S = ⟨#[]⟩
      · subst hS
        have HN := Lib.hid (digInv_next HI.out (Or.inr rfl))
        have es0 : Utf8.encode 48 = digB 0 := es
        have z3 : ¬ 9223372036854775807 < (digB 0).size := by rw [digB_size]; omega
        clear zs es s1 s2 z1
        go_wp2_with fail
        refine ⟨⟨0, digB 0 ++ ⟨#[]⟩, by omega, rfl, rfl, HN⟩, ?_⟩
        rw [z2]
        exact Nat.zero_lt_one
      · have e0 : S.toList.isEmpty = false := ba_ne hS
        have HE := Lib.hid (digInv_end HI.out (fun h => hS (ba_nil h)))
        clear zs hS
        go_wp2_with fail
        go_ret
        exact ⟨S, rfl, HE, Lib.hid (Below.refl _ _)⟩
end Go.Proofs.YtnogfceojmnjiaaGreatDoor
