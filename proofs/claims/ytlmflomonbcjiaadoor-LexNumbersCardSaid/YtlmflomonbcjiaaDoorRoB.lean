/-
  The walks of round.cut, signed.
-/
import Derived.Test.YtlmflomonbcjiaaDoorRoA
set_option linter.unusedVariables false
namespace Go.Fl.Dy
open Go.Fl.Nm
theorem noUX {A : Option Addr} {n c : Nat} {e : Int} {a : Bool} : NoU #[.slice A n c, .int .i64 e, .bool a] := by
  intro i x h
  match i with
  | 0 => simp at h
  | 1 => simp at h
  | 2 => simp at h
  | i + 3 => simp at h
theorem cutU_low {m p : Nat} {e : Int} (hp : p ≤ 512) : e + blen m - p ≤ cutU m e p ∧ -16384 ≤ cutU m e p := by unfold cutU; omega
/-- The multiple ahead of rounding up has at most p bits. -/
theorem cut_bitsL {m p : Nat} {e : Int} (hp : p ≤ 512) (h : cutU m e p ≤ e) : blen (2 ^ (e - cutU m e p).toNat * m) ≤ p := by
  have h1 := (cutU_low (m := m) (e := e) hp).1
  by_cases h0 : m = 0
  · subst h0; simp [blen_zero]
  · rw [blen_shl _ h0]; omega
theorem cut_bitsR {m p : Nat} {e : Int} (hp : p ≤ 512) (h : e < cutU m e p) : blen (m / 2 ^ (cutU m e p - e).toNat) ≤ p := by
  have h1 := (cutU_low (m := m) (e := e) hp).1
  have h2 := blen_div_le m (cutU m e p - e).toNat
  omega
theorem blen_succ (q : Nat) : blen (q + 1) ≤ blen q + 1 := by
  refine blen_le ?_
  have := blen_lt (Nat.le_refl (blen q))
  rw [Nat.pow_succ]
  have := Nat.two_pow_pos (blen q)
  omega
theorem blen_pred (p : Nat) : blen (2 ^ p - 1) ≤ p := blen_le (by have := Nat.two_pow_pos p; omega)
end Go.Fl.Dy
namespace Go.Fl.Nm
open Go.RowKit Go.Fl
theorem Sl.one {w : World} {g : Nat} {t : TypeId} {x : Nat} (hB : Blk w g t #[.int .u32 (x : Int)]) (hx : x < BB) : Sl w (some ⟨g, 0, none⟩) 1 1 [x] :=
  (Nw.of_blk (base := 0) (l := [x]) hB (ok_cons.2 ⟨hx, ok_nil⟩) (Nat.zero_le _) rfl (by unfold maxLen; simp)).sl
end Go.Fl.Nm
namespace Go.Proofs.YtlmflomonbcjiaaDoor
open Go.RowKit Go.Fl Go.Fl.Nm Go.Fl.Dy

end Go.Proofs.YtlmflomonbcjiaaDoor
