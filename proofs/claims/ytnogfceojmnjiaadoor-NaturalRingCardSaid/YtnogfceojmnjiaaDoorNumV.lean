/-
  The walks of the reference: Add, Mul.
-/
import Derived.Test.YtnogfceojmnjiaaDoorNumU
set_option linter.unusedVariables false
namespace Go.Fl.Nm
open Go.RowKit Go.Fl
theorem radd_step {o a b : List Nat} {i cc : Nat} (hl : o.length = i) (hok : ok o) (hv : val o + BB ^ i * cc = val (a.take i) + val (b.take i)) :
    (o ++ [(at0 a i + at0 b i + cc) % BB]).length = i + 1 ∧ ok (o ++ [(at0 a i + at0 b i + cc) % BB]) ∧
    val (o ++ [(at0 a i + at0 b i + cc) % BB]) + BB ^ (i + 1) * ((at0 a i + at0 b i + cc) / BB) = val (a.take (i + 1)) + val (b.take (i + 1)) := by
  refine ⟨by simp [hl], ok_append.2 ⟨hok, ok_cons.2 ⟨Nat.mod_lt _ BB_pos, ok_nil⟩⟩, ?_⟩
  rw [val_snoc, hl, take_at0 a, take_at0 b, Nat.pow_succ, Nat.mul_assoc]
  have h2 := Nat.div_add_mod (at0 a i + at0 b i + cc) BB
  have h3 : BB ^ i * (BB * ((at0 a i + at0 b i + cc) / BB)) + BB ^ i * ((at0 a i + at0 b i + cc) % BB) = BB ^ i * (at0 a i + at0 b i + cc) := by rw [← Nat.mul_add, h2]
  rw [Nat.mul_add, Nat.mul_add] at h3
  omega
theorem take_all {l : List Nat} {i : Nat} (h : l.length ≤ i) : l.take i = l := List.take_of_length_le h
end Go.Fl.Nm

namespace Go.Proofs.YtnogfceojmnjiaaDoor
open Go.RowKit Go.Fl Go.Fl.Nm

def RAddRel (w : World) (N : Nat) (a b : List Nat) (k : Nat) (ov cv iv : Value) (wr : World) : Prop :=
  ∃ (i cc : Nat) (o : List Nat), iv = .int .i64 i ∧ cv = .int .u64 cc ∧ cc ≤ 1 ∧ k = N + 1 - i ∧ i ≤ N + 1 ∧ (N < i → cc = 0) ∧ Hid (o.length = i) ∧ Hid (ok o) ∧ Hid (wr.ownsRow w.heap.size tU 1 ov i (U o)) ∧
    Hid (val o + BB ^ i * cc = val (a.take i) + val (b.take i)) ∧ Hid (Below w.heap.size w wr)

def RMulRel (w : World) (g n m : Nat) (a b : List Nat) (k : Nat) (iv : Value) (wr : World) : Prop :=
  ∃ (i : Nat) (l : List Nat), iv = .int .i64 i ∧ i ≤ n ∧ k = n - i ∧ Hid (l.length = n + m + 1) ∧ Hid (ok l) ∧ Hid (Blk wr g tU (UA l)) ∧
    Hid (val l = val (a.take i) * val b) ∧ Hid (∀ j, i + m ≤ j → j < n + m + 1 → l[j]? = some 0) ∧ Hid (Below w.heap.size w wr)
def RMulIn (w : World) (g n m i x : Nat) (b l0 : List Nat) (k : Nat) (cv iv : Value) (wr : World) : Prop :=
  ∃ (kk cc : Nat) (l : List Nat), iv = .int .i64 kk ∧ cv = .int .u64 cc ∧ cc < 4294967296 ∧ kk ≤ m + 1 ∧ (m < kk → cc = 0) ∧ k = m + 1 - kk ∧ Hid (l.length = n + m + 1) ∧ Hid (ok l) ∧ Hid (Blk wr g tU (UA l)) ∧
    Hid (val l + BB ^ (i + kk) * cc = val l0 + BB ^ i * (x * val (b.take kk))) ∧ Hid (∀ j, i + max m kk ≤ j → j < n + m + 1 → l[j]? = some 0) ∧ Hid (Below w.heap.size w wr)

theorem rmul_step {l l0 b : List Nat} {i n m kk x o cc : Nat} (hl : l.length = n + m + 1) (hok : ok l) (hv : val l + BB ^ (i + kk) * cc = val l0 + BB ^ i * (x * val (b.take kk)))
    (hz : ∀ j, i + max m kk ≤ j → j < n + m + 1 → l[j]? = some 0) (hi : i < n) (hk : kk ≤ m) (ho : l[i + kk]? = some o) :
    (l.set (i + kk) ((x * at0 b kk + o + cc) % BB)).length = n + m + 1 ∧ ok (l.set (i + kk) ((x * at0 b kk + o + cc) % BB)) ∧
    val (l.set (i + kk) ((x * at0 b kk + o + cc) % BB)) + BB ^ (i + (kk + 1)) * ((x * at0 b kk + o + cc) / BB) = val l0 + BB ^ i * (x * val (b.take (kk + 1))) ∧
    (∀ j, i + max m (kk + 1) ≤ j → j < n + m + 1 → (l.set (i + kk) ((x * at0 b kk + o + cc) % BB))[j]? = some 0) := by
  refine ⟨by simp [hl], ok_set hok _ _ (Nat.mod_lt _ BB_pos), ?_, fun j h1 h2 => ?_⟩
  · have h1 := val_set ((x * at0 b kk + o + cc) % BB) ho
    have h2 := Nat.div_add_mod (x * at0 b kk + o + cc) BB
    have h3 : BB ^ (i + kk) * (BB * ((x * at0 b kk + o + cc) / BB)) + BB ^ (i + kk) * ((x * at0 b kk + o + cc) % BB) = BB ^ (i + kk) * (x * at0 b kk + o + cc) := by rw [← Nat.mul_add, h2]
    rw [Nat.mul_add, Nat.mul_add] at h3
    rw [take_at0 b kk, show i + (kk + 1) = i + kk + 1 by omega, Nat.pow_succ, Nat.mul_assoc, Nat.mul_add, Nat.mul_add]
    have h4 : BB ^ i * (x * (BB ^ kk * at0 b kk)) = BB ^ (i + kk) * (x * at0 b kk) := by
      rw [Nat.pow_add, Nat.mul_assoc, Nat.mul_left_comm x]
    omega
  · rw [at_set_ne _ (by omega)]
    exact hz j (by omega) h2

end Go.Proofs.YtnogfceojmnjiaaDoor
