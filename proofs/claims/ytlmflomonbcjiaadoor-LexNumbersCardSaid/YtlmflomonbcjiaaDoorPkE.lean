/-
  The walk of divide: the long division.
  The walks of natural's exported functions Add, Sub, Mul, Shl, Shr, DivMod.
  The walks of natural's Sqrt and Gcd.
-/
import Derived.Test.YtlmflomonbcjiaaDoorPkD
import Derived.Outline
set_option linter.unusedVariables false
namespace Go.Fl.Nm
open Go.RowKit Go.Fl
theorem Sl.grown {w w' : World} {A : Option Addr} {n c g : Nat} {l : List Nat} (h : Sl w A n c l) (hg : w.grownBy w' (some g)) (hne : ∀ b o, A = some ⟨b, o, none⟩ → b ≠ g) : Sl w' A n c l :=
  ⟨h.1, h.2.1, h.2.2.1, h.2.2.2.1, h.2.2.2.2.1, h.rd.1, fun h0 => by
    obtain ⟨b, off, hA, hb, hc⟩ := h.rd.2 h0
    refine ⟨b, off, hA, by have := hg.size; omega, fun j u hu => hg.cell (hc j u hu) ?_⟩
    intro e
    injection e with e
    exact hne b off hA e⟩
/-- The divisor, shifted so that its first bit is set, has as many limbs as before. -/
theorem norm_len {b l : List Nat} {y s t : Nat} (hb : ok b) (hl : ok l) (hy : tl b = y + 1) (ht : b[y]? = some t) (hs : s + blen t = 32) (hv : val l = val b * 2 ^ s) : tl l = y + 1 := by
  have h0 : 0 < tl b := by omega
  have hge := val_ge h0
  rw [hy] at hge
  have hbl := blen_val hb h0 (show b[tl b - 1]? = some t by rw [hy]; exact ht)
  rw [hy] at hbl
  have hv0 : val b ≠ 0 := by have := Nat.pow_pos (n := y + 1 - 1) BB_pos; omega
  have hlt := (blen_spec hv0).2
  have hlt2 : val l < BB ^ (y + 1) := by
    rw [hv, BB_pow, ← Nat.pow_mul]
    have h1 : val b * 2 ^ s < 2 ^ blen (val b) * 2 ^ s := Nat.mul_lt_mul_of_pos_right hlt (Nat.two_pow_pos s)
    rw [← Nat.pow_add, hbl] at h1
    rw [show 32 * (y + 1) = 32 * (y + 1 - 1) + blen t + s by omega]
    exact h1
  have hge2 : BB ^ y ≤ val l := by
    rw [hv]
    have : val b * 1 ≤ val b * 2 ^ s := Nat.mul_le_mul_left _ (Nat.two_pow_pos s)
    simp at hge
    omega
  rw [tl_limbs hl]
  have h1 := limbs_len_le hlt2
  have h2 : val l ≠ 0 := by have := Nat.pow_pos (n := y) BB_pos; omega
  have h3 := (limbs_len h2).2
  rcases Nat.lt_or_ge (limbs (val l)).length (y + 1) with h | h
  · have : BB ^ (limbs (val l)).length ≤ BB ^ y := Nat.pow_le_pow_right BB_pos (by omega)
    omega
  · omega
theorem div_start {a b u v : List Nat} {x m s : Nat} (ha : ok a) (hx : tl a = x) (hy : tl b = m + 2) (hxy : m + 2 ≤ x) (hu : val u = val a * 2 ^ s) (hv : val v = val b * 2 ^ s) : val u < val v * BB ^ (x + 1 - (m + 2)) := by
  rw [hu, hv]
  have h1 := val_lt_tl ha
  have h2 := val_ge (l := b) (by omega)
  rw [hx] at h1
  rw [hy] at h2
  have h3 : BB ^ (m + 2 - 1) * BB ^ (x + 1 - (m + 2)) ≤ val b * BB ^ (x + 1 - (m + 2)) := Nat.mul_le_mul_right _ h2
  rw [← Nat.pow_add, show m + 2 - 1 + (x + 1 - (m + 2)) = x by omega] at h3
  have h4 : val a * 2 ^ s < val b * BB ^ (x + 1 - (m + 2)) * 2 ^ s := Nat.mul_lt_mul_of_pos_right (by omega) (Nat.two_pow_pos s)
  rw [Nat.mul_assoc, Nat.mul_comm (2 ^ s), ← Nat.mul_assoc]
  exact h4
theorem div_finish {va vb s u q V : Nat} (hV : V = vb * 2 ^ s) (h : u + V * q = va * 2 ^ s) (hu : u < V) : q = va / vb ∧ u / 2 ^ s = va % vb := by
  have hp : 0 < 2 ^ s := Nat.two_pow_pos s
  have hV0 : 0 < V := by omega
  have h1 : (va * 2 ^ s) / V = q := by
    rw [← h, Nat.add_mul_div_left _ _ hV0, Nat.div_eq_of_lt hu]; omega
  have h2 : (va * 2 ^ s) % V = u := by
    rw [← h, Nat.add_mul_mod_self_left, Nat.mod_eq_of_lt hu]
  rw [hV, Nat.mul_div_mul_right _ _ hp] at h1
  rw [hV, Nat.mul_mod_mul_right] at h2
  exact ⟨h1.symm, by rw [← h2, Nat.mul_div_cancel _ hp]⟩
end Go.Fl.Nm

namespace Go.Proofs.YtlmflomonbcjiaaDoor
open Go.RowKit Go.Fl Go.Fl.Nm

theorem back_step {us l v : List Nat} {i j n y o cc : Nat} (hl : l.length = us.length) (hok : ok l) (hj : j + n < us.length) (hi : i < n) (hv : val l + BB ^ (j + i) * cc = val us + BB ^ j * val (v.take i))
    (hk : ∀ x, x < j ∨ j + i ≤ x → l[x]? = us[x]?) (hy : val (v.take (i + 1)) = val (v.take i) + BB ^ i * y) (ho : l[j + i]? = some o) :
    (l.set (j + i) ((o + y + cc) % BB)).length = us.length ∧ ok (l.set (j + i) ((o + y + cc) % BB)) ∧
    val (l.set (j + i) ((o + y + cc) % BB)) + BB ^ (j + (i + 1)) * ((o + y + cc) / BB) = val us + BB ^ j * val (v.take (i + 1)) ∧ (∀ x, x < j ∨ j + (i + 1) ≤ x → (l.set (j + i) ((o + y + cc) % BB))[x]? = us[x]?) := by
  refine ⟨by simp [hl], ok_set hok _ _ (Nat.mod_lt _ BB_pos), ?_, fun x hx => ?_⟩
  · have h1 := val_set ((o + y + cc) % BB) ho
    have h2 := Nat.div_add_mod (o + y + cc) BB
    rw [hy, Nat.mul_add, ← Nat.mul_assoc, ← Nat.pow_add, show j + (i + 1) = j + i + 1 by omega, Nat.pow_succ, Nat.mul_assoc]
    have h3 : BB ^ (j + i) * (BB * ((o + y + cc) / BB)) + BB ^ (j + i) * ((o + y + cc) % BB) = BB ^ (j + i) * (o + y + cc) := by rw [← Nat.mul_add, h2]
    rw [Nat.mul_add, Nat.mul_add] at h3
    omega
  · rw [at_set_ne _ (by omega)]
    exact hk x (by omega)

theorem quiet_left2 {P : Program} {f : FuncId} {args : Array Value} {w : World} {n : Nat} {v : Value}
    (h : Calls P f args (w.drewN n) fun e w' => e = .returned v ∧ ∃ k, w' = (w.drewN n).drewN k) : Calls P f args (w.drewN n) fun e w'' => e = .returned v ∧ ∃ m, w'' = w.drewN m :=
  h.mono fun _ _ ⟨he, k, hm⟩ => ⟨he, n + k, by rw [hm, drewN_drewN]⟩

theorem round_over {us us' v : List Nat} {j n r : Nat} (hok : ok us) (hj : j + n < us.length) (hV : 0 < val v)
    (he : val us' + BB ^ j * ((val (us.drop j) / val v + 1) * val v) = val us + BB ^ (j + n + 1) * r) (hr : r ≤ 1) : r = 1 := by
  obtain ⟨low, e, hd, hlow⟩ := low_rest hok (show j ≤ us.length by omega) hV
  rcases Nat.eq_zero_or_pos r with h | h
  · subst h
    rw [Nat.mul_zero, Nat.add_mul, Nat.mul_add, Nat.one_mul, Nat.mul_comm (BB ^ j) (val v)] at he
    omega
  · omega
theorem top_zero {us : List Nat} {k : Nat} (hok : ok us) (hk : k ≤ us.length) (h : val us < BB ^ k) : val (us.take k) = val us := by
  have e := val_split us k hk
  rcases Nat.eq_zero_or_pos (val (us.drop k)) with h0 | h0
  · rw [h0] at e; omega
  · have : BB ^ k * 1 ≤ BB ^ k * val (us.drop k) := Nat.mul_le_mul_left _ h0
    omega

def LongRel (w : World) (gu gq gv m x cv K U0 : Nat) (v : List Nat) (k : Nat) (iv : Value) (wr : World) : Prop :=
  ∃ (us ql : List Nat), iv = .int .i64 ((k : Int) - 1) ∧ k ≤ K ∧ Hid (us.length = x + 1) ∧ Hid (ok us) ∧ Hid (Blk wr gu tU (UA us)) ∧ Hid (ql.length = K) ∧ Hid (ok ql) ∧ Hid (Blk wr gq tU (UA ql)) ∧
    Hid (Sl wr (some ⟨gv, 0, none⟩) (m + 2) cv v) ∧ Hid (val us + val v * BB ^ k * val (ql.drop k) = U0) ∧ Hid (val us < val v * BB ^ k) ∧ Hid (Below w.heap.size w wr)
def BackRel (w : World) (g j n : Nat) (us v : List Nat) (k : Nat) (cv iv : Value) (wr : World) : Prop :=
  ∃ (i cc : Nat) (l : List Nat), iv = .int .i64 i ∧ cv = .int .u32 cc ∧ cc ≤ 1 ∧ i ≤ n ∧ k = n - i ∧ Hid (l.length = us.length) ∧ Hid (ok l) ∧ Hid (Blk wr g tU (UA l)) ∧
    Hid (val l + BB ^ (j + i) * cc = val us + BB ^ j * val (v.take i)) ∧ Hid (∀ x, x < j ∨ j + i ≤ x → l[x]? = us[x]?) ∧ Hid (w.grownBy wr (some g))

end Go.Proofs.YtlmflomonbcjiaaDoor
namespace Go.Proofs.YtlmflomonbcjiaaDoor
open Go.RowKit Go.Fl Go.Fl.Nm

/-- What a result is: the limbs of a number, or ErrBig. -/
def ResV (v : Nat) (l : List Nat) (er : Int) : Prop := (er = 0 ∧ l = limbs v ∧ (limbs v).length ≤ 256) ∨ (er = 9 ∧ l = [] ∧ 256 < (limbs v).length)
def Res (base v : Nat) (w : World) (e : Ending) (w' : World) : Prop :=
  ∃ (A : Option Addr) (n : Nat) (l : List Nat) (er : Int), e = .returned (.tuple #[.slice A n n, .int .i64 er]) ∧ Hid (Nw w' tU base A n n l) ∧ Hid (ResV v l er) ∧ Hid (Below w.heap.size w w')
def ErrP (er : Int) (w : World) (e : Ending) (w' : World) : Prop := e = .returned (.tuple #[.slice none 0 0, .int .i64 er]) ∧ Hid (Below w.heap.size w w')
theorem ResV.len {v : Nat} {l : List Nat} {er : Int} (h : ResV v l er) : l.length ≤ 256 := by
  rcases h with ⟨_, rfl, h⟩ | ⟨_, rfl, _⟩
  · exact h
  · simp

def DivRes (q r : Nat) (w : World) (e : Ending) (w' : World) : Prop :=
  ∃ (A B : Option Addr) (n m : Nat), e = .returned (.tuple #[.slice A n n, .slice B m m, .int .i64 0]) ∧ Hid (Nw w' tU w.heap.size A n n (limbs q)) ∧ Hid (Nw w' tU w.heap.size B m m (limbs r)) ∧ Hid (Below w.heap.size w w')
def DivErr (er : Int) (w : World) (e : Ending) (w' : World) : Prop := e = .returned (.tuple #[.slice none 0 0, .slice none 0 0, .int .i64 er]) ∧ Hid (Below w.heap.size w w')

end Go.Proofs.YtlmflomonbcjiaaDoor
namespace Go.Fl.Nm
/-- A step of Newton's method stays above the root. -/
theorem newton_up (a x : Nat) (hx : 0 < x) : a < ((x + a / x) / 2 + 1) * ((x + a / x) / 2 + 1) := by
  have h1 : a < x * (a / x + 1) := by
    have := Nat.div_add_mod a x
    have := Nat.mod_lt a hx
    rw [Nat.mul_add]; omega
  generalize a / x = q at *
  have h2 : x + (q + 1) ≤ 2 * ((x + q) / 2 + 1) := by omega
  generalize (x + q) / 2 + 1 = y at *
  have h3 : x * (q + 1) ≤ y * y := by
    generalize q + 1 = z at *
    rcases Nat.le_total x z with h | h
    · obtain ⟨d, rfl⟩ := Nat.exists_eq_add_of_le h
      obtain ⟨f, rfl⟩ := Nat.exists_eq_add_of_le (show x ≤ y by omega)
      have h5 : x * d ≤ x * (f + f) := Nat.mul_le_mul_left _ (by omega)
      have h6 := Nat.mul_comm f x
      simp only [Nat.mul_add, Nat.add_mul] at h5 ⊢
      omega
    · obtain ⟨d, rfl⟩ := Nat.exists_eq_add_of_le h
      obtain ⟨f, rfl⟩ := Nat.exists_eq_add_of_le (show z ≤ y by omega)
      have h5 : d * z ≤ (f + f) * z := Nat.mul_le_mul_right _ (by omega)
      have h6 := Nat.mul_comm f z
      simp only [Nat.mul_add, Nat.add_mul] at h5 ⊢
      omega
  omega
theorem newton_end (a x : Nat) (hx : 0 < x) (h : x ≤ (x + a / x) / 2) : x * x ≤ a := by
  have h1 : x ≤ a / x := by omega
  have h2 : x * x ≤ x * (a / x) := Nat.mul_le_mul_left _ h1
  have := Nat.mul_div_le a x
  omega
theorem newton_start (a n : Nat) (h : a < 2 ^ n) : a < (2 ^ ((n + 1) / 2) + 1) * (2 ^ ((n + 1) / 2) + 1) := by
  have h1 : 2 ^ n ≤ 2 ^ ((n + 1) / 2) * 2 ^ ((n + 1) / 2) := by
    rw [← Nat.pow_add]; exact Nat.pow_le_pow_right (by omega) (by omega)
  have h2 : 2 ^ ((n + 1) / 2) * 2 ^ ((n + 1) / 2) ≤ (2 ^ ((n + 1) / 2) + 1) * (2 ^ ((n + 1) / 2) + 1) := Nat.mul_le_mul (by omega) (by omega)
  omega
theorem blen_limbs (a : Nat) : blen a ≤ 32 * (limbs a).length := by
  apply blen_le
  by_cases h : a = 0
  · subst h; exact Nat.two_pow_pos _
  · have := (limbs_len h).2
    rw [BB_pow, ← Nat.pow_mul] at this
    exact this
theorem len_two_pow {x p k : Nat} (h : x ≤ 2 ^ p) (hp : p < 32 * k) : (limbs x).length ≤ k := by
  apply limbs_len_le
  rw [BB_pow, ← Nat.pow_mul]
  exact Nat.lt_of_le_of_lt h (Nat.pow_lt_pow_right (by omega) hp)
end Go.Fl.Nm

namespace Go.Proofs.YtlmflomonbcjiaaDoor
open Go.RowKit Go.Fl Go.Fl.Nm

def SqrtP (a : Nat) (w : World) (e : Ending) (w' : World) : Prop := ∃ r, r * r ≤ a ∧ a < (r + 1) * (r + 1) ∧ Res w.heap.size r w e w'
def SqRel (w : World) (a x0 : Nat) (k : Nat) (xv : Value) (wr : World) : Prop :=
  ∃ (X : Option Addr) (nx cx : Nat) (lx : List Nat), xv = .slice X nx cx ∧ Hid (Nw wr tU w.heap.size X nx cx lx) ∧ Hid (val lx = k) ∧ nx ≤ 200 ∧ Hid (a < (k + 1) * (k + 1)) ∧ 0 < k ∧ Hid (k ≤ x0) ∧ Hid (Below w.heap.size w wr)

theorem trim_nw {w : World} {base : Nat} {A : Option Addr} {n c : Nat} {l : List Nat} (h : Nw w tU base A n c l) : tl l ≤ n ∧ Nw w tU base A (tl l) c (l.take (tl l)) := by
  have hta := (trim_sl h.sl).1
  exact ⟨hta, h.cut hta (by have := h.sl.cap; omega) h.sl.capMax h.sl.nil⟩

def GcdRel (w : World) (G : Nat) (k : Nat) (av bv : Value) (wr : World) : Prop :=
  ∃ (X : Option Addr) (nx cx : Nat) (lx : List Nat) (Y : Option Addr) (ny cy : Nat) (ly : List Nat), av = .slice X nx cx ∧ bv = .slice Y ny cy ∧ Hid (Nw wr tU w.heap.size X nx cx lx) ∧ Hid (Nw wr tU w.heap.size Y ny cy ly) ∧
    Hid (val ly = k) ∧ nx ≤ 256 ∧ ny ≤ 256 ∧ Hid (tl ly = ny) ∧ Hid (Nat.gcd (val lx) k = G) ∧ Hid (Below w.heap.size w wr)

end Go.Proofs.YtlmflomonbcjiaaDoor
