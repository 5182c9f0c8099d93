/-
  The law's six examples: they are valid, and their texts.
-/
import Derived.Test.YtoogeihbhhcpaaaDoorFmP
import Derived.Test.YtoogeihbhhcpaaaDoorFmX
set_option linter.unusedVariables false
namespace Go.Proofs.YtoogeihbhhcpaaaDoor
open Go.RowKit Go.Fl Go.Fl.Nm Go.Fl.Fm Go.Fl.Rt
theorem emp : (⟨#[]⟩ : ByteArray).toList.isEmpty = true := by rw [ByteArray.toList_eq]; rfl
theorem cR_V (f : Nat) (s : ByteArray) (h : nameP s.data.toList = true) : cR (f + 1) (eV s) = 1 := by
  rw [cR_succ, if_pos]
  · rfl
  · show nodeB nameP ⟨2, 0, 0, s, 0⟩ 0 = true
    simp [nodeB, h]
theorem cR_N (f : Nat) (n d : Int) (h : valid n d) : cR (f + 1) (eN n d) = 1 := by
  rw [cR_succ, if_pos]
  · rfl
  · show nodeB nameP ⟨1, n, d, ⟨#[]⟩, 0⟩ 0 = true
    simp [nodeB, h]
theorem cR_2 (f : Nat) (k : Int) (a b : TE) (hk : 3 ≤ k ∧ k ≤ 6) (h : 1 + cR f a ≤ 200) : cR (f + 1) (e2 k a b) = 1 + cR f a + cR f b := by
  rw [cR_succ, if_pos]
  · show goR (cR f) [a, b] 1 = _
    unfold goR goR goR
    rw [if_pos (by decide), if_pos h]
  · show nodeB nameP ⟨k, 0, 0, ⟨#[]⟩, 0⟩ 2 = true
    have e : opsK k = 2 := by unfold opsK; rw [if_pos hk]
    have e1 : ¬ k = 1 := by omega
    have e2 : ¬ k = 2 := by omega
    have e8 : ¬ k = 8 := by omega
    simp [nodeB, e, e1, e2, e8]
theorem cR_7 (f : Nat) (a : TE) : cR (f + 1) (e1 7 0 a) = 1 + cR f a := by
  rw [cR_succ, if_pos]
  · rfl
  · show nodeB nameP ⟨7, 0, 0, ⟨#[]⟩, 0⟩ 1 = true
    have e : opsK 7 = 1 := by decide
    simp [nodeB, e]
theorem cR_8 (f : Nat) (a : TE) : cR (f + 1) (e1 8 3 a) = 1 + cR f a := by
  rw [cR_succ, if_pos]
  · rfl
  · show nodeB nameP ⟨8, 0, 0, ⟨#[]⟩, 3⟩ 1 = true
    simp [nodeB]
def bX : ByteArray := ⟨#[120]⟩
def bY : ByteArray := ⟨#[121]⟩
def t1 : TE := e2 4 (eV bX) (e2 4 (eV bY) (eN 1 3))
def t2 : TE := e2 5 (eV bX) (eN 1 3)
def t3 : TE := e2 5 (eN 1 3) (eV bX)
def t4 : TE := e2 6 (eN 1 1) (eN 3 1)
def t5 : TE := e1 7 0 (eN 2 1)
def t6 : TE := e1 8 3 (eN (-2) 1)
theorem nX : nameP bX.data.toList = true := by decide +kernel
theorem nY : nameP bY.data.toList = true := by decide +kernel
theorem ok1 : okE t1 = true := okE_iff.2 (by
  unfold t1
  rw [cR_2 19 4 _ _ (by decide) (by rw [cR_V 18 _ nX]; decide), cR_V 18 _ nX, cR_2 18 4 _ _ (by decide) (by rw [cR_V 17 _ nY]; decide), cR_V 17 _ nY, cR_N 17 1 3 (by decide)]
  decide)
theorem ok2 : okE t2 = true := okE_iff.2 (by
  unfold t2
  rw [cR_2 19 5 _ _ (by decide) (by rw [cR_V 18 _ nX]; decide), cR_V 18 _ nX, cR_N 18 1 3 (by decide)]
  decide)
theorem ok3 : okE t3 = true := okE_iff.2 (by
  unfold t3
  rw [cR_2 19 5 _ _ (by decide) (by rw [cR_N 18 1 3 (by decide)]; decide), cR_V 18 _ nX, cR_N 18 1 3 (by decide)]
  decide)
theorem ok4 : okE t4 = true := okE_iff.2 (by
  unfold t4
  rw [cR_2 19 6 _ _ (by decide) (by rw [cR_N 18 1 1 (by decide)]; decide), cR_N 18 1 1 (by decide), cR_N 18 3 1 (by decide)]
  decide)
theorem ok5 : okE t5 = true := okE_iff.2 (by unfold t5; rw [cR_7, cR_N 18 2 1 (by decide)]; decide)
theorem ok6 : okE t6 = true := okE_iff.2 (by unfold t6; rw [cR_8, cR_N 18 (-2) 1 (by decide)]; decide)
theorem i1 : Lib.itoa 1 = [49] := by
  have := Lib.itoa_nonneg 1
  rw [Lib.decDigits_one (by decide)] at this
  exact this
theorem i2 : Lib.itoa 2 = [50] := by
  have := Lib.itoa_nonneg 2
  rw [Lib.decDigits_one (by decide)] at this
  exact this
theorem i3 : Lib.itoa 3 = [51] := by
  have := Lib.itoa_nonneg 3
  rw [Lib.decDigits_one (by decide)] at this
  exact this
theorem im2 : Lib.itoa (-2) = [45, 50] := by
  have := Lib.itoa_neg 2 (by decide)
  rw [Lib.decDigits_one (by decide)] at this
  exact this
theorem x13 : textR 1 3 = [49, 47, 51] := by unfold textR; rw [i1, i3, if_neg (by decide)]; rfl
theorem x11 : textR 1 1 = [49] := by unfold textR; rw [i1, if_pos rfl]; rfl
theorem x31 : textR 3 1 = [51] := by unfold textR; rw [i3, if_pos rfl]; rfl
theorem x21 : textR 2 1 = [50] := by unfold textR; rw [i2, if_pos rfl]; rfl
theorem xm21 : textR (-2) 1 = [45, 50] := by unfold textR; rw [im2, if_pos rfl]; rfl
theorem txN (f : Nat) (n d : Int) : txt (f + 1) (eN n d) = textR n d := rfl
theorem txV (f : Nat) (s : ByteArray) : txt (f + 1) (eV s) = s.data.toList := rfl
theorem tx_2 (f : Nat) (k : Int) (a b : TE) (h1 : ¬ k = 1) (h2 : ¬ k = 2) (h6 : k ≤ 6) : txt (f + 1) (e2 k a b) = par (need1 k a.h b.h) (txt f a) ++ (opK k ++ par (need2 k b.h) (txt f b)) := by
  show (if _ then _ else _) = _
  rw [if_neg (show ¬ (e2 k a b).h.kind = 1 from h1), if_neg (show ¬ (e2 k a b).h.kind = 2 from h2), if_pos (show (e2 k a b).h.kind ≤ 6 from h6)]
  rfl
theorem tx_7 (f : Nat) (a : TE) : txt (f + 1) (e1 7 0 a) = 45 :: par (needM a.h) (txt f a) := by
  show (if _ then _ else _) = _
  rw [if_neg (show ¬ (e1 7 0 a).h.kind = 1 by show ¬ (7 : Int) = 1; decide), if_neg (show ¬ (e1 7 0 a).h.kind = 2 by show ¬ (7 : Int) = 2; decide), if_neg (show ¬ (e1 7 0 a).h.kind ≤ 6 by show ¬ (7 : Int) ≤ 6; decide), if_pos (show (e1 7 0 a).h.kind = 7 from rfl)]
  rfl
theorem tx_8 (f : Nat) (a : TE) : txt (f + 1) (e1 8 3 a) = par (needW a.h) (txt f a) ++ 94 :: Lib.itoa 3 := by
  show (if _ then _ else _) = _
  rw [if_neg (show ¬ (e1 8 3 a).h.kind = 1 by show ¬ (8 : Int) = 1; decide), if_neg (show ¬ (e1 8 3 a).h.kind = 2 by show ¬ (8 : Int) = 2; decide), if_neg (show ¬ (e1 8 3 a).h.kind ≤ 6 by show ¬ (8 : Int) ≤ 6; decide), if_neg (show ¬ (e1 8 3 a).h.kind = 7 by show ¬ (8 : Int) = 7; decide), if_pos (show (e1 8 3 a).h.kind = 8 from rfl)]
  rfl
theorem tx1 : txt 20 t1 = [120, 32, 45, 32, 40, 121, 32, 45, 32, 49, 47, 51, 41] := by
  unfold t1
  rw [tx_2 19 4 _ _ (by decide) (by decide) (by decide), txV 18, tx_2 18 4 _ _ (by decide) (by decide) (by decide), txV 17, txN 17, x13]
  decide +kernel
theorem tx2 : txt 20 t2 = [120, 32, 42, 32, 40, 49, 47, 51, 41] := by
  unfold t2
  rw [tx_2 19 5 _ _ (by decide) (by decide) (by decide), txV 18, txN 18, x13]
  decide +kernel
theorem tx3 : txt 20 t3 = [49, 47, 51, 32, 42, 32, 120] := by
  unfold t3
  rw [tx_2 19 5 _ _ (by decide) (by decide) (by decide), txV 18, txN 18, x13]
  decide +kernel
theorem tx4 : txt 20 t4 = [40, 49, 41, 32, 47, 32, 51] := by
  unfold t4
  rw [tx_2 19 6 _ _ (by decide) (by decide) (by decide), txN 18, txN 18, x11, x31]
  decide +kernel
theorem tx5 : txt 20 t5 = [45, 40, 50, 41] := by
  unfold t5
  rw [tx_7 19, txN 18, x21]
  decide +kernel
theorem tx6 : txt 20 t6 = [40, 45, 50, 41, 94, 51] := by
  unfold t6
  rw [tx_8 19, txN 18, xm21, i3]
  decide +kernel
end Go.Proofs.YtoogeihbhhcpaaaDoor
