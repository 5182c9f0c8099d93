/-
  The walks of dyadic.Make, Valid, Int, Bits, Top, Sign, shifted.
-/
import Derived.Test.YtlmflomonbcjiaaDoorDyB
import Derived.Deep.RegionHeld3
set_option linter.unusedVariables false
namespace Go.Fl.Dy
open Go.Fl.Nm
theorem limbs_len_of {l : List Nat} (h : ok l) : (limbs (val l)).length ≤ l.length := by
  rw [← trim_limbs h, List.length_take]; omega
theorem canon_len {neg : Bool} {k : Nat} {e : Int} (h : (limbs k).length ≤ 256) : (limbs (canon neg k e).k).length ≤ 256 := by
  have h1 := bits_limbs h
  by_cases h0 : k = 0
  · subst h0; rw [canon_zero, limbs_zero]; simp
  · rw [canon_pos h0]
    have := blen_od h0
    exact limbs_bits (by simp only; omega)
theorem vld_len {d : D} (h : vld d) : (limbs d.k).length ≤ 256 := by
  rcases h with ⟨h, _⟩ | ⟨_, h, _⟩
  · rw [h, limbs_zero]; simp
  · exact limbs_bits (by omega)
theorem vld_ebd {d : D} (h : vld d) : -16384 ≤ d.e ∧ d.e ≤ 16384 := by
  rcases h with ⟨_, _, h⟩ | ⟨_, _, h1, h2, _⟩ <;> omega
theorem vld_bits {d : D} (h : vld d) : blen d.k ≤ 4096 := by
  rcases h with ⟨h, _, _⟩ | ⟨_, h1, _⟩
  · rw [h, blen_zero]; omega
  · exact h1
theorem limbs_two (x : Nat) (h : x < 18446744073709551616) : val [x % 4294967296, x / 4294967296 % 4294967296] = x := by
  rw [val_cons, val_cons, val_nil, BB_eq]; omega
end Go.Fl.Dy
namespace Go.Proofs.YtlmflomonbcjiaaDoor
open Go.RowKit Go.Fl Go.Fl.Nm Go.Fl.Dy

end Go.Proofs.YtlmflomonbcjiaaDoor
