/-
  The walk of the reference's digits.
-/
import Derived.Test.YtffdkakogeofmaaGreatDoorDeD
import Derived.Deep.LoopGhost
set_option linter.unusedVariables false
namespace Go.Fl.Dy
open Go.Fl Go.Fl.Nm
theorem tw_p (p : UInt8 → Bool) (l : List UInt8) : (l.takeWhile p).all p = true := by
  induction l with
  | nil => rfl
  | cons x l ih =>
    by_cases h : p x = true
    · rw [List.takeWhile_cons_of_pos h, List.all_cons, h, ih]; rfl
    · rw [List.takeWhile_cons_of_neg h]; rfl
theorem tw_at {p : UInt8 → Bool} {l : List UInt8} {j : Nat} (h : j < (l.takeWhile p).length) : ∃ q, l[j]? = some q ∧ p q = true := by
  have hs := List.takeWhile_append_dropWhile (p := p) (l := l)
  refine ⟨(l.takeWhile p)[j], ?_, List.all_eq_true.1 (tw_p p l) _ (List.getElem_mem h)⟩
  have h2 := congrArg (fun x => x[j]?) hs.symm
  exact h2.trans (by rw [List.getElem?_append_left h, List.getElem?_eq_getElem h])
theorem tw_end {p : UInt8 → Bool} {l : List UInt8} (h : (l.takeWhile p).length < l.length) : ∃ q, l[(l.takeWhile p).length]? = some q ∧ p q = false := by
  have hs := List.takeWhile_append_dropWhile (p := p) (l := l)
  cases hd : l.dropWhile p with
  | nil =>
    rw [hd, List.append_nil] at hs
    rw [hs] at h
    omega
  | cons q t =>
    refine ⟨q, ?_, dw_head hd⟩
    rw [hd] at hs
    have h2 := congrArg (fun x => x[(l.takeWhile p).length]?) hs.symm
    exact h2.trans (by rw [List.getElem?_append_right (Nat.le_refl _), Nat.sub_self]; rfl)
theorem tw_len (p : UInt8 → Bool) (l : List UInt8) : (l.takeWhile p).length ≤ l.length := (List.takeWhile_sublist p).length_le
end Go.Fl.Dy
namespace Go.Proofs.YtffdkakogeofmaaGreatDoor
open Go.RowKit Go.Fl Go.Fl.Nm Go.Fl.Dy
def DgiRel (w : World) (N : Nat) (k : Nat) (iv : Value) (wr : World) : Prop :=
  ∃ j : Nat, iv = .int .i64 (j : Int) ∧ N - j = k ∧ j ≤ N ∧ Hid (Below w.heap.size w wr)
set_option maxHeartbeats 4000000 in
theorem digits11 (s : ByteArray) (l : List UInt8) (w : World) (hl : s.data.toList = l) (hs : s.size ≤ 100000) :
    Calls Tryz.prog 69 #[.string s] w (Ret (.int .i64 ((l.takeWhile Nm.isDig).length : Nat)) w) := by
  obtain ⟨N, hN⟩ : ∃ N, (l.takeWhile Nm.isDig).length = N := ⟨_, rfl⟩
  have HAT := Lib.hid (fun (j : Nat) (h : j < N) => tw_at (p := Nm.isDig) (l := l) (j := j) (by rw [hN]; exact h))
  have hll : l.length = s.size := by rw [← hl]; rfl
  have HEND := Lib.hid (fun (h : N < s.size) => show ∃ q, l[N]? = some q ∧ Nm.isDig q = false by
    have := tw_end (p := Nm.isDig) (l := l) (by rw [hN, hll]; exact h)
    rwa [hN] at this)
  have hNs : N ≤ s.size := by rw [← hN, ← hll]; exact tw_len _ _
  have HLL := Lib.hid hl
  rw [hN]
  clear hN hll hl
  have HIX := Lib.hid (fun (j : Nat) (q : UInt8) (hj : j < s.size) (hq : l[j]? = some q) => show s[j] = q by
    have h1 := List.getElem?_eq_getElem (l := s.data.toList) hj
    have hq' : s.data.toList[j]? = some q := by rw [HLL.out]; exact hq
    rw [hq'] at h1
    injection h1 with h1
    exact h1.symm)
  go_enter Tryz.func69, Tryz.ntmps69
  go_wp2_with fail
  go_loopg [3] N (DgiRel w N)
  case atStart => exact ⟨0, rfl, rfl, Nat.zero_le _, Lib.hid (Below.refl _ _)⟩
  case round =>
    obtain ⟨j, rfl, hk, hj, HW⟩ := hrel
    by_cases hjn : j < N
    · obtain ⟨q, hq, hd⟩ := HAT.out j hjn
      have hjs : j < s.size := by omega
      have hsi := HIX.out j q hjs hq
      have hq1 : 48 ≤ q.toNat ∧ q.toNat ≤ 57 := by
        unfold Nm.isDig at hd
        rw [Bool.and_eq_true] at hd
        exact ⟨of_decide_eq_true hd.1, of_decide_eq_true hd.2⟩
      have d1 : decide ((j : Int) < (s.size : Int)) = true := decide_eq_true (by omega)
      have d1' : decide (j < s.size) = true := decide_eq_true hjs
      have b0 : (0 : Int) ≤ (j : Int) := by omega
      have b1 : (j : Int) < (s.size : Int) := by omega
      have f1 : decide ((48 : Int) ≤ (q.toNat : Int)) = true := decide_eq_true (by omega)
      have f1' : decide (48 ≤ q.toNat) = true := decide_eq_true hq1.1
      have f2 : decide ((q.toNat : Int) ≤ 57) = true := decide_eq_true (by omega)
      have f2' : decide (q.toNat ≤ 57) = true := decide_eq_true hq1.2
      clear hq hd hq1
      go_wp2_with fail
      go_roundg (N - (j + 1))
      case measure => omega
      case rel => exact ⟨j + 1, by go_num, rfl, by omega, HW⟩
    · obtain rfl : j = N := by omega
      by_cases hjs : j < s.size
      · obtain ⟨q, hq, hd⟩ := HEND.out hjs
        have hsi := HIX.out j q hjs hq
        have hout : q.toNat < 48 ∨ 57 < q.toNat := by
          rcases Nat.lt_or_ge q.toNat 48 with h | h
          · exact .inl h
          · rcases Nat.lt_or_ge 57 q.toNat with h2 | h2
            · exact .inr h2
            · exfalso
              unfold Nm.isDig at hd
              rw [decide_eq_true h, decide_eq_true h2] at hd
              cases hd
        have d1 : decide ((j : Int) < (s.size : Int)) = true := decide_eq_true (by omega)
        have d1' : decide (j < s.size) = true := decide_eq_true hjs
        have b0 : (0 : Int) ≤ (j : Int) := by omega
        have b1 : (j : Int) < (s.size : Int) := by omega
        clear hq hd
        by_cases hlow : q.toNat < 48
        · have f1 : decide ((48 : Int) ≤ (q.toNat : Int)) = false := decide_eq_false (by omega)
          have f1' : decide (48 ≤ q.toNat) = false := decide_eq_false (by omega)
          clear hout hlow
          go_wp2_with fail
          go_ret
          exact ⟨rfl, HW⟩
        · have f1 : decide ((48 : Int) ≤ (q.toNat : Int)) = true := decide_eq_true (by omega)
          have f1' : decide (48 ≤ q.toNat) = true := decide_eq_true (by omega)
          have f2 : decide ((q.toNat : Int) ≤ 57) = false := decide_eq_false (by omega)
          have f2' : decide (q.toNat ≤ 57) = false := decide_eq_false (by omega)
          clear hout hlow
          go_wp2_with fail
          go_ret
          exact ⟨rfl, HW⟩
      · have d1 : decide ((j : Int) < (s.size : Int)) = false := decide_eq_false (by omega)
        have d1' : decide (j < s.size) = false := decide_eq_false hjs
        go_wp2_with fail
        go_ret
        exact ⟨rfl, HW⟩
end Go.Proofs.YtffdkakogeofmaaGreatDoor
