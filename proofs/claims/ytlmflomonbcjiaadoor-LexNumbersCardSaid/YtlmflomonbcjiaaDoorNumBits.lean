/-
  Bits of words of 32 and 64 bits. Of no program.
-/
import Derived.Test.YtlmflomonbcjiaaDoorNumPlain
import Derived.Laws.BitsLemmas
namespace Go.Fl.Nm
open Go.RowKit Go.Fl

theorem bv_bits (op : BinOp) (f : BitVec 32 → BitVec 32 → BitVec 32) (h : ∀ a b : Int, bits op .u32 a b = IntKind.u32.wrap (f (BitVec.ofInt 32 a) (BitVec.ofInt 32 b)).toNat) (A B : BitVec 32) :
    bits op .u32 (A.toNat : Int) (B.toNat : Int) = ((f A B).toNat : Int) := by
  rw [h, IntKind.wrap_u32]
  have e : ∀ V : BitVec 32, BitVec.ofInt 32 (V.toNat : Int) = V := fun V => by simp
  rw [e, e]
  have := (f A B).isLt
  omega
theorem bv_and (A B : BitVec 32) : bits .and .u32 (A.toNat : Int) (B.toNat : Int) = ((A &&& B).toNat : Int) := bv_bits .and (· &&& ·) (fun _ _ => rfl) A B
theorem bv_or (A B : BitVec 32) : bits .or .u32 (A.toNat : Int) (B.toNat : Int) = ((A ||| B).toNat : Int) := bv_bits .or (· ||| ·) (fun _ _ => rfl) A B
theorem bv_xor (A B : BitVec 32) : bits .xor .u32 (A.toNat : Int) (B.toNat : Int) = ((A ^^^ B).toNat : Int) := bv_bits .xor (· ^^^ ·) (fun _ _ => rfl) A B
theorem bv_top (V : BitVec 32) : V.toNat / 2147483648 = if V.msb then 1 else 0 := by
  have := V.isLt
  rw [BitVec.msb_eq_decide]
  by_cases h : 2147483648 ≤ V.toNat
  · simp [h]; omega
  · simp [h]; omega
/-- What Sub32 borrows. -/
def bor (x y c : Nat) : Nat := if x < y + c then 1 else 0
theorem bor_le (x y c : Nat) : bor x y c ≤ 1 := by unfold bor; split <;> omega
theorem bor_spec (x y c : Nat) (hx : x < 4294967296) (hy : y < 4294967296) (hc : c ≤ 1) : (((x : Int) - y - c) % 4294967296).toNat + y + c = x + 4294967296 * bor x y c := by
  unfold bor; split <;> omega
theorem sub32_bits (x y c : Nat) (hx : x < 4294967296) (hy : y < 4294967296) (hc : c ≤ 1) :
    bits BinOp.or IntKind.u32 (bits BinOp.and IntKind.u32 (bits BinOp.xor IntKind.u32 IntKind.u32.max (x : Int)) (y : Int))
      (bits BinOp.and IntKind.u32 (bits BinOp.xor IntKind.u32 IntKind.u32.max (bits BinOp.xor IntKind.u32 (x : Int) (y : Int))) (((x : Int) - y - c) % 4294967296)) / 2147483648 = ((bor x y c : Nat) : Int) := by
  obtain ⟨d, hd⟩ : ∃ d : Nat, ((x : Int) - y - c) % 4294967296 = (d : Int) := ⟨(((x : Int) - y - c) % 4294967296).toNat, by omega⟩
  have hd32 : d < 4294967296 := by omega
  have e : ∀ n : Nat, n < 4294967296 → (n : Int) = ((BitVec.ofNat 32 n).toNat : Int) := fun n h => by
    rw [BitVec.toNat_ofNat, Nat.mod_eq_of_lt (by simpa using h)]
  have em : IntKind.u32.max = ((BitVec.allOnes 32).toNat : Int) := by decide
  rw [hd, e x hx, e y hy, e d hd32, em]
  simp only [bv_and, bv_or, bv_xor]
  have key := bv_top ((BitVec.allOnes 32 ^^^ BitVec.ofNat 32 x) &&& BitVec.ofNat 32 y ||| (BitVec.allOnes 32 ^^^ (BitVec.ofNat 32 x ^^^ BitVec.ofNat 32 y)) &&& BitVec.ofNat 32 d)
  have m : ∀ n : Nat, n < 4294967296 → (BitVec.ofNat 32 n).msb = decide (2147483648 ≤ n) := fun n h => by
    rw [BitVec.msb_eq_decide, BitVec.toNat_ofNat, Nat.mod_eq_of_lt (by simpa using h)]
  have ma : (BitVec.allOnes 32).msb = true := by decide
  simp only [BitVec.msb_or, BitVec.msb_and, BitVec.msb_xor, m x hx, m y hy, m d hd32, ma] at key
  have : ((bor x y c : Nat) : Int) = (((((BitVec.allOnes 32 ^^^ BitVec.ofNat 32 x) &&& BitVec.ofNat 32 y ||| (BitVec.allOnes 32 ^^^ (BitVec.ofNat 32 x ^^^ BitVec.ofNat 32 y)) &&& BitVec.ofNat 32 d)).toNat / 2147483648 : Nat) : Int) := by
    rw [key]
    clear key
    unfold bor
    by_cases h0 : x < y + c <;> by_cases h1 : 2147483648 ≤ x <;> by_cases h2 : 2147483648 ≤ y <;> by_cases h3 : 2147483648 ≤ d <;> first | (exfalso; omega) | simp [h0, h1, h2, h3]
  rw [this]
  simp
theorem or_join64 (x y : Nat) (hx : x % 4294967296 = 0) (hx1 : x < 18446744073709551616) (hy : y < 4294967296) : bits .or .u64 (x : Int) (y : Int) = ((x + y : Nat) : Int) := by
  have := bits_join .u64 64 (by decide) (fun n h0 h1 => by simp [IntKind.wrap, IntKind.bits, IntKind.signed]; omega) 32 x y (by omega) (by omega) (by omega) (by omega) (by omega) (by omega)
  rw [this]; omega
end Go.Fl.Nm
