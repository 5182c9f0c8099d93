/-
  The reference's decimals, numbers, parentheses and names.
-/
import Derived.Test.YtoogeihbhhcpaaaGreatDoorFmI
set_option linter.unusedVariables false
namespace Go.Proofs.YtoogeihbhhcpaaaGreatDoor
open Go.RowKit Go.Fl Go.Fl.Nm Go.Fl.Fm Go.Fl.Rt
theorem length_data (s : ByteArray) : s.data.toList.length = s.size := rfl
def dgB (n : Nat) : ByteArray := ⟨#[UInt8.ofNat (48 + n % 10)]⟩
theorem dgB_size (n : Nat) : (dgB n).size = 1 := rfl
theorem dgB_list (n : Nat) : (dgB n).data.toList = [UInt8.ofNat (48 + n % 10)] := rfl
set_option maxRecDepth 100000 in
theorem rune1 (n : Nat) (w : World) : (convert 21 9 (.int .i32 (48 + (n : Int) % 10))).run Tryz.prog w = .ok (.string (dgB n)) w := by
  obtain ⟨d, hd⟩ : ∃ d, d = n % 10 := ⟨_, rfl⟩
  have hd10 : d < 10 := by omega
  have e1 : (48 + (n : Int) % 10) = 48 + (d : Int) := by omega
  have e2 : dgB n = ⟨#[UInt8.ofNat (48 + d)]⟩ := by unfold dgB; rw [← hd]
  rw [e1, e2]
  clear e1 e2 hd
  obtain h | h | h | h | h | h | h | h | h | h : d = 0 ∨ d = 1 ∨ d = 2 ∨ d = 3 ∨ d = 4 ∨ d = 5 ∨ d = 6 ∨ d = 7 ∨ d = 8 ∨ d = 9 := by omega
  all_goals (subst h; rfl)
set_option maxRecDepth 100000 in
set_option maxHeartbeats 2000000 in
theorem dec15_nat (n : Nat) (w : World) (hn : n ≤ 4611686018427387904) : Calls Tryz.prog 56 #[.int .i64 n] w (fun e w' => e = .returned (.string ⟨(Lib.decDigits n).toArray⟩) ∧ w' = w) := by
  have d0 : decide ((n : Int) < 0) = false := decide_eq_false (by omega)
  have kc := rune1 n w
  have ed : (n : Int).tdiv 10 = ((n / 10 : Nat) : Int) := by
    rw [Int.tdiv_eq_ediv_of_nonneg (by omega)]; rfl
  go_enter Tryz.func56, Tryz.ntmps56
  go_wp2_with fail
  go_loopg [0, 3] (n / 10) (fun g nv sv wr => ∃ (m : Nat) (S : ByteArray), nv = .int .i64 m ∧ sv = .string S ∧ m = g ∧ m ≤ n ∧ wr = w ∧ Hid (Lib.decDigits n = (if m = 0 then [] else Lib.decDigits m) ++ S.data.toList))
  case atStart =>
    refine ⟨n / 10, dgB n, rfl, rfl, rfl, by omega, rfl, Lib.hid ?_⟩
    by_cases h : n < 10
    · rw [if_pos (by omega), Lib.decDigits_one h, dgB_list, Nat.mod_eq_of_lt h]
      rfl
    · rw [if_neg (by omega), Rt.dec_big h, dgB_list]
  case round =>
    obtain ⟨m, S, rfl, rfl, rfl, hmn, rfl, HS⟩ := hrel
    have hsz : S.size ≤ 21 := by
      have h := congrArg List.length HS.out
      rw [List.length_append, length_data] at h
      have h2 := Lib.itoa_length_le (n : Int) (by omega) (by omega)
      rw [Lib.itoa_nonneg] at h2
      omega
    have kc2 := rune1 m wr
    have ed2 : (m : Int).tdiv 10 = ((m / 10 : Nat) : Int) := by
      rw [Int.tdiv_eq_ediv_of_nonneg (by omega)]; rfl
    have c1 : ¬ (9223372036854775807 < 1 + S.size) := by omega
    have c2 : ¬ (9223372036854775807 < (dgB m).size + S.size) := by rw [dgB_size]; omega
    by_cases hm : 0 < m
    · have n1 : decide (0 < m) = true := decide_eq_true hm
      go_wp2_with fail
      go_roundg (m / 10)
      case measure => omega
      case rel =>
        refine ⟨m / 10, _, rfl, rfl, rfl, by omega, rfl, Lib.hid ?_⟩
        have h := HS.out
        rw [if_neg (by omega)] at h
        rw [h, data_app, dgB_list]
        by_cases h10 : m < 10
        · rw [if_pos (by omega), Lib.decDigits_one h10, Nat.mod_eq_of_lt h10]
          rfl
        · rw [if_neg (by omega), Rt.dec_big h10, List.append_assoc]
    · have n1 : decide (0 < m) = false := decide_eq_false hm
      go_wp2_with fail
      go_ret
      have h := HS.out
      rw [if_pos (by omega), List.nil_append] at h
      exact ⟨by rw [h]; simp, rfl⟩
theorem bytes_size (l : List UInt8) : (⟨l.toArray⟩ : ByteArray).size = l.length := by simp [ByteArray.size]
theorem itoa21 {n : Int} (h1 : -4611686018427387904 ≤ n) (h2 : n ≤ 4611686018427387904) : (Lib.itoa n).length ≤ 21 := Lib.itoa_length_le n (by omega) (by omega)
set_option maxRecDepth 100000 in
set_option maxHeartbeats 2000000 in
theorem dec15_any (n : Int) (w : World) (h1 : -4611686018427387904 ≤ n) (h2 : n ≤ 4611686018427387904) :
    Calls Tryz.prog 56 #[.int .i64 n] w (fun e w' => e = .returned (.string ⟨(Lib.itoa n).toArray⟩) ∧ w' = w) := by
  by_cases h : 0 ≤ n
  · obtain ⟨m, rfl⟩ := Int.eq_ofNat_of_zero_le h
    have e := dec15_nat m w (by omega)
    rw [← Lib.itoa_nonneg] at e
    exact e
  · obtain ⟨m, hm⟩ := Int.eq_ofNat_of_zero_le (show 0 ≤ -n by omega)
    have hn : n = -(m : Int) := by omega
    subst hn
    have HR := Lib.hid (Lib.itoa_neg m (by omega))
    have d0 : decide (0 < m) = true := decide_eq_true (by omega)
    have hle : m ≤ 4611686018427387904 := by omega
    have HI := Lib.hid (fun w => dec15_nat m w hle)
    have hsz : (Lib.decDigits m).length ≤ 21 := by
      have := itoa21 (n := (m : Int)) (by omega) (by omega)
      rwa [Lib.itoa_nonneg] at this
    obtain ⟨S, hS⟩ : ∃ S : ByteArray, S = ⟨(Lib.decDigits m).toArray⟩ := ⟨_, rfl⟩
    have hS2 : S.size ≤ 21 := by rw [hS, bytes_size]; exact hsz
    have HS := Lib.hid (show S.data.toList = Lib.decDigits m by rw [hS])
    rw [← hS] at HI
    clear h hm hS hsz
    go_enter Tryz.func56, Tryz.ntmps56
    go_wp2_with fail
    refine (HI.out _).mono ?_
    rintro e w2 ⟨rfl, rfl⟩
    have zA : ¬ 9223372036854775807 < 1 + S.size := by omega
    go_wp2_with fail
    go_ret
    refine ⟨?_, rfl⟩
    have e : (⟨#[45]⟩ ++ S : ByteArray) = ⟨(Lib.itoa (-(m : Int))).toArray⟩ := by
      have h : (⟨#[45]⟩ ++ S : ByteArray).data.toList = Lib.itoa (-(m : Int)) := by rw [data_app, HS.out, HR.out]; rfl
      rw [← h]
    rw [← e]
    rfl
set_option maxRecDepth 100000 in
set_option maxHeartbeats 2000000 in
theorem number_r15 (n d : Int) (w : World) (h : valid n d) : Calls Tryz.prog 28 #[.agg #[.int .i64 n, .int .i64 d]] w (StrP (textR n d) w) := by
  have hb : -4611686018427387904 ≤ n ∧ n ≤ 4611686018427387904 ∧ -4611686018427387904 ≤ d ∧ d ≤ 4611686018427387904 := by
    have := h
    unfold valid at this
    have e : (MX : Int) = 1073741824 := rfl
    omega
  have HN := Lib.hid (fun w => dec15_any n w hb.1 hb.2.1)
  have HD := Lib.hid (fun w => dec15_any d w hb.2.2.1 hb.2.2.2)
  have zn := itoa21 hb.1 hb.2.1
  have zd := itoa21 hb.2.2.1 hb.2.2.2
  obtain ⟨N, hN⟩ : ∃ S : ByteArray, S = ⟨(Lib.itoa n).toArray⟩ := ⟨_, rfl⟩
  obtain ⟨D, hD⟩ : ∃ S : ByteArray, S = ⟨(Lib.itoa d).toArray⟩ := ⟨_, rfl⟩
  have zN : N.size ≤ 21 := by rw [hN, bytes_size]; exact zn
  have zD : D.size ≤ 21 := by rw [hD, bytes_size]; exact zd
  have HNS := Lib.hid (show N.data.toList = Lib.itoa n by rw [hN])
  have HDS := Lib.hid (show D.data.toList = Lib.itoa d by rw [hD])
  rw [← hN] at HN
  rw [← hD] at HD
  clear hN hD zn zd h hb
  by_cases h1 : d = 1
  · have e1 : (d == 1) = true := by rw [h1]; rfl
    have HX := Lib.hid (show textR n d = Lib.itoa n by unfold textR; rw [if_pos h1, List.append_nil])
    clear h1
    go_enter Tryz.func28, Tryz.ntmps28
    go_wp2_with fail
    refine (HN.out _).mono ?_
    rintro e w2 ⟨rfl, rfl⟩
    go_wp2_with fail
    go_ret
    exact ⟨N, rfl, Lib.hid (by rw [HX.out, HNS.out]), Lib.hid (below_box w _)⟩
  · have e1 : (d == 1) = false := by rw [beq_eq_false_iff_ne]; exact h1
    have HX := Lib.hid (show textR n d = Lib.itoa n ++ 47 :: Lib.itoa d by unfold textR; rw [if_neg h1])
    have c1 : ¬ (9223372036854775807 < N.size + 1) := by omega
    have c2 : ¬ (9223372036854775807 < N.size + 1 + D.size) := by omega
    clear h1
    go_enter Tryz.func28, Tryz.ntmps28
    go_wp2_with fail
    go_quiet ((first | (go_at_call_of 56 (Value.int .i64 n); exact Calls.quiet_of_same (HN.out _)) | (go_at_call_of 56 (Value.int .i64 d); exact Calls.quiet_of_same (HD.out _))))
    go_wp2_with fail
    go_ret
    exact ⟨_, rfl, Lib.hid (by rw [data_app, data_app, HNS.out, HDS.out, HX.out, List.append_assoc]; rfl), Lib.hid (below_drewN (below_box w _) _)⟩
set_option maxHeartbeats 1000000 in
theorem wrap_r (s : ByteArray) (need : Bool) (w : World) (l : List UInt8) (h : s.data.toList = l) (hl : l.length ≤ 20000) :
    Calls Tryz.prog 51 #[.string s, .bool need] w (StrP (par need l) w) := by
  have hs : s.size ≤ 20000 := by rw [strp_size h]; exact hl
  have H := Lib.hid h
  clear h hl
  cases need with
  | false =>
    go_enter Tryz.func51, Tryz.ntmps51
    go_wp2_with fail
    go_ret
    exact ⟨s, rfl, H, Lib.hid (Below.refl _ _)⟩
  | true =>
    go_enter Tryz.func51, Tryz.ntmps51
    go_wp2_with fail
    go_ret
    exact ⟨_, rfl, Lib.hid (by rw [data_app, data_app, H.out]; rfl), Lib.hid (Below.refl _ _)⟩
set_option maxHeartbeats 1000000 in
theorem name_r (k : Int) (w : World) (hk : 9 ≤ k ∧ k ≤ 13) : Calls Tryz.prog 57 #[.int .i64 k] w (StrP (fnK k) w) := by
  obtain h1 | h1 | h1 | h1 | h1 : k = 9 ∨ k = 10 ∨ k = 11 ∨ k = 12 ∨ k = 13 := by omega
  all_goals
    subst h1
    go_enter Tryz.func57, Tryz.ntmps57
    go_wp2_with fail
    go_ret
    exact ⟨_, rfl, Lib.hid rfl, Lib.hid (Below.refl _ _)⟩
end Go.Proofs.YtoogeihbhhcpaaaGreatDoor
