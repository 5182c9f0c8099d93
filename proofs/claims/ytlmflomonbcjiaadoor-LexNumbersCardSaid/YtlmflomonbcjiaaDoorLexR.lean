/-
  Walks: the reference's functions on bytes and runs.
-/
import Derived.Test.YtlmflomonbcjiaaDoorProg
import Derived.Test.YtlmflomonbcjiaaDoorBase
import Derived.Test.YtlmflomonbcjiaaDoorLexPlain3
namespace Go.Proofs.YtlmflomonbcjiaaDoor
open Go.RowKit Go.Fl Go.Fl.Lx

theorem byte_beq (a b : UInt8) : (((a.toNat : Nat) : Int) == ((b.toNat : Nat) : Int)) = (a == b) := by
  rw [Bool.eq_iff_iff]
  simp only [beq_iff_eq]
  exact ⟨fun h => UInt8.toNat_inj.1 (by omega), fun h => by rw [h]⟩
theorem byte_beq_lit (a : UInt8) (n : Nat) (hn : n < 256) : (((a.toNat : Nat) : Int) == (n : Int)) = (a == UInt8.ofNat n) := by
  rw [Bool.eq_iff_iff]
  simp [← UInt8.toNat_inj, Nat.mod_eq_of_lt hn]
  omega

theorem inWord_run (c : UInt8) : inWord c = (inRun c && !(c == 46)) := by
  have := u8_all (p := fun c => inWord c == (inRun c && !(c == 46))) (by decide +kernel) c
  simpa using this
theorem headLetter_eq (s : ByteArray) (h : 0 < s.size) : headLetter s.data.toList = isLetter s[0] := by
  have := drop_cons s 0 h
  rw [List.drop_zero] at this
  rw [this]; rfl

theorem inNum_ways (c : UInt8) (h46 : (c == 46) = false) : inNum c = isDigit c := by unfold inNum; rw [h46]; rfl
theorem countP_snoc (l : List UInt8) (c : UInt8) : (l ++ [c]).countP isDigit = l.countP isDigit + if isDigit c then 1 else 0 := by
  rw [List.countP_append]; simp [List.countP_cons]
theorem count_snoc (l : List UInt8) (c : UInt8) : (l ++ [c]).count 46 = l.count 46 + if c == 46 then 1 else 0 := by
  rw [List.count_append, List.count_singleton]

/-- What the reference's 'numeric' leaves. -/
def NumPost (l : List UInt8) (w : World) (e : Ending) (w' : World) : Prop :=
  e = .returned (.tuple #[.int .i64 (numN l), .bool (decide (0 < numN l))]) ∧ w = w'

end Go.Proofs.YtlmflomonbcjiaaDoor
