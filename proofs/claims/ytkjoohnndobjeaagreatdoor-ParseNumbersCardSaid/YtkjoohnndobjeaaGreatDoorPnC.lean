/-
  The walk of ParseNumbers.
-/
import Derived.Test.YtkjoohnndobjeaaGreatDoorPnQ
import Derived.Test.YtkjoohnndobjeaaGreatDoorTkD
import Derived.Deep.DeepCutAuto
set_option linter.unusedVariables false
namespace Go.Proofs.YtkjoohnndobjeaaGreatDoor
open Go.RowKit Go.Lib Go.Fl Go.Fl.Lx Go.Fl.Nm Go.Fl.Fm Go.Fl.Rt Go.Fl.Pa
open List (setIfInBounds_toArray set_cons_zero set_cons_succ getElem_toArray getElem_cons_zero getElem_cons_succ)
theorem in_num (w : World) (n d : Int) (hn : -1099511627776 ≤ n ∧ n ≤ 1099511627776) (hd : -1099511627776 ≤ d ∧ d ≤ 1099511627776) : InE w (numE (n, d)) (ndN n d) :=
  .mk _ [] none 0 0 [] (by refine ⟨?_, ?_, ?_, ?_, ?_, ?_, ?_, ?_, Nat.zero_le _⟩ <;> simp only <;> omega) rfl (Nat.le_refl _) (Nat.zero_le _) rfl (Rd.none_ _ _) (fun i T v h => by cases h)
theorem num14_agg (n d : Int) (w : World) : Calls Tryz.prog 13 #[.int .i64 n, .int .i64 d] w (RetB (.agg #[.int .i64 1, .int .i64 n, .int .i64 d, .string ⟨#[]⟩, .int .i64 0, .slice none 0 0]) w) := num14_any n d w
/-- A ratio in lowest terms. -/
theorem low_valid {a : Int} {b g : Nat} (ha : -65536 ≤ a ∧ a ≤ 65536) (hb : 0 < b ∧ b ≤ 65536) (hg : g = Nat.gcd a.natAbs b) :
    0 < g ∧ g ≤ 65536 ∧ valid (a.tdiv g) ((b : Int).tdiv g) ∧ make a b = (a.tdiv g, (b : Int).tdiv g, 0) ∧ -65536 ≤ a.tdiv g ∧ a.tdiv g ≤ 65536 ∧ 1 ≤ (b : Int).tdiv g ∧ (b : Int).tdiv g ≤ 65536 := by
  have hgp : 0 < g := by rw [hg]; exact Nat.gcd_pos_of_pos_right _ hb.1
  have hgb : g ∣ b := by rw [hg]; exact Nat.gcd_dvd_right _ _
  have hga : (g : Int) ∣ a := by
    rw [← Int.natAbs_dvd_natAbs]
    show g ∣ a.natAbs
    rw [hg]
    exact Nat.gcd_dvd_left _ _
  obtain ⟨x, hx⟩ := hga
  obtain ⟨y, hy⟩ := hgb
  have e1 : a.tdiv g = x := by rw [hx, Int.mul_tdiv_cancel_left _ (by omega)]
  have e2 : (b : Int).tdiv g = (y : Int) := by
    rw [hy, Int.natCast_mul, Int.mul_tdiv_cancel_left _ (by omega)]
  have hyp : 0 < y := by
    rcases Nat.eq_zero_or_pos y with h | h
    · rw [h, Nat.mul_zero] at hy; omega
    · exact h
  have hyb : y ≤ b := by rw [hy]; exact Nat.le_mul_of_pos_left _ hgp
  have hxa : x.natAbs ≤ a.natAbs := by
    rw [hx, Int.natAbs_mul]
    exact Nat.le_mul_of_pos_left _ hgp
  have hgle : g ≤ b := Nat.le_of_dvd hb.1 ⟨y, hy⟩
  have hgc : Nat.gcd x.natAbs y = 1 := by
    have h : g = Nat.gcd (g * x.natAbs) (g * y) := by
      conv => lhs; rw [hg]
      rw [← hy]
      congr 1
      rw [hx, Int.natAbs_mul]
      rfl
    rw [Nat.gcd_mul_left] at h
    exact Nat.eq_of_mul_eq_mul_left hgp (by rw [Nat.mul_one]; exact h.symm)
  have hval : valid x (y : Int) := ⟨by omega, by unfold MX; omega, by unfold MX; omega, by unfold MX; omega, hgc⟩
  rw [e1, e2]
  refine ⟨hgp, by omega, hval, make_of_eq hval (by omega) ?_, by omega, by omega, by omega, by omega⟩
  rw [hx, hy, Int.natCast_mul, Int.mul_comm (g : Int) x, Int.mul_assoc]

set_option maxHeartbeats 40000000 in
set_option maxRecDepth 100000 in
theorem parseNumbers_any (a : Int) (b : Nat) (w : World) (hR : RX w) (hX : FX w) (h1 : -32768 ≤ a) (h2 : a ≤ 32767) (h3 : b ≤ 65535) : Calls Tryz.prog 3 #[.int .i16 a, .int .u16 b] w (RetB (.bool true) w) := by
  have HR := Lib.hid hR
  have HX := Lib.hid hX
  clear hR hX
  by_cases hb0 : b = 0
  · subst hb0
    go_enter Tryz.func3, Tryz.ntmps3
    go_wp2_with fail
    refine (awake14_any w HR.out HX.out).mono ?_
    rintro e w1 ⟨rfl, HB1⟩
    go_wp2_with fail
    refine (awake14_any w1 (HR.out.belowW HB1.out) (HX.out.belowW HB1.out)).mono ?_
    rintro e w2 ⟨rfl, HB2⟩
    go_wp2_with fail
    go_ret
    exact ⟨rfl, Lib.hid (HB1.out.trans (HB2.out.mono HB1.out.size))⟩
  obtain ⟨g, hg⟩ : ∃ g, g = Nat.gcd a.natAbs b := ⟨_, rfl⟩
  obtain ⟨g1, g2, hv, hm, q1, q2, q3, q4⟩ := low_valid (a := a) (b := b) (by omega) (by omega) hg
  obtain ⟨qn, hqn⟩ : ∃ x, x = a.tdiv g := ⟨_, rfl⟩
  obtain ⟨qd, hqd⟩ : ∃ x, x = (b : Int).tdiv g := ⟨_, rfl⟩
  rw [← hqn, ← hqd] at hv hm
  rw [← hqn] at q1 q2
  rw [← hqd] at q3 q4
  have ha : -(MX : Int) ≤ a ∧ a ≤ MX := by unfold MX; omega
  have hb : 0 < b ∧ b ≤ MX := by unfold MX; omega
  have hb2 : b ≤ 65535 := h3
  obtain ⟨S, hSS⟩ : ∃ x, x = itB a := ⟨_, rfl⟩
  obtain ⟨T, hTT⟩ : ∃ x, x = dcB b := ⟨_, rfl⟩
  have hSl : S.data.toList = itoa a := by rw [hSS]; rfl
  have hTl : T.data.toList = decDigits b := by rw [hTT]; rfl
  have hS : S.size ≤ 11 := by show S.data.toList.length ≤ 11; rw [hSl]; exact itoa_len ha
  have hT : T.size ≤ 10 := by show T.data.toList.length ≤ 10; rw [hTl]; exact dec_len9 hb.2
  have KR0 := Lib.hid (fun (w' : World) (hb' : Below w.heap.size w w') => read_any (S) (numE (a, 1)) w' (by
    unfold maxLen
    omega) (HR.out.belowW hb') (HX.out.belowW hb') (by
    have h := ex_int ha
    have e : (S : ByteArray).data.toList = itoa a := by
      rw [hSl] <;> rfl
    rw [e]
    exact h))
  have KR1 := Lib.hid (fun (w' : World) (hb' : Below w.heap.size w w') => read_any (S ++ ⟨#[47]⟩ ++ T) (numE (qn, qd)) w' (by
    simp only [ByteArray.size_append]
    have e1 : S.size ≤ 11 := hS
    have e2 : T.size ≤ 10 := hT
    unfold maxLen
    show _ ≤ 2 ^ 63 - 1
    simp only [ByteArray.size, List.size_toArray, List.length_cons, List.length_nil] at e1 e2 ⊢
    omega) (HR.out.belowW hb') (HX.out.belowW hb') (by
    have h := ex_quot ha hb hm hv
    have e : (S ++ ⟨#[47]⟩ ++ T : ByteArray).data.toList = itoa a ++ ([47] ++ decDigits b) := by
      rw [data_app, data_app, List.append_assoc, hSl, hTl] <;> rfl
    rw [e]
    exact h))
  have KR2 := Lib.hid (fun (w' : World) (hb' : Below w.heap.size w w') => read_any (S ++ ⟨#[32, 47, 32]⟩ ++ T ++ ⟨#[32, 42, 32, 120]⟩) (opE 5 [numE (qn, qd), varE [120]]) w' (by
    simp only [ByteArray.size_append]
    have e1 : S.size ≤ 11 := hS
    have e2 : T.size ≤ 10 := hT
    unfold maxLen
    show _ ≤ 2 ^ 63 - 1
    simp only [ByteArray.size, List.size_toArray, List.length_cons, List.length_nil] at e1 e2 ⊢
    omega) (HR.out.belowW hb') (HX.out.belowW hb') (by
    have h := ex_qx ha hb hm hv
    have e : (S ++ ⟨#[32, 47, 32]⟩ ++ T ++ ⟨#[32, 42, 32, 120]⟩ : ByteArray).data.toList = itoa a ++ ([32, 47, 32] ++ (decDigits b ++ ([32, 42, 32] ++ [120]))) := by
      rw [data_app, data_app, data_app, List.append_assoc, List.append_assoc, hSl, hTl] <;> rfl
    rw [e]
    exact h))
  have KR3 := Lib.hid (fun (w' : World) (hb' : Below w.heap.size w w') => read_any (⟨#[120, 32, 42, 32]⟩ ++ S ++ ⟨#[32, 47, 32]⟩ ++ T) (opE 6 [opE 5 [varE [120], numE (a, 1)], numE ((b : Int), 1)]) w' (by
    simp only [ByteArray.size_append]
    have e1 : S.size ≤ 11 := hS
    have e2 : T.size ≤ 10 := hT
    unfold maxLen
    show _ ≤ 2 ^ 63 - 1
    simp only [ByteArray.size, List.size_toArray, List.length_cons, List.length_nil] at e1 e2 ⊢
    omega) (HR.out.belowW hb') (HX.out.belowW hb') (by
    have h := ex_xsq ha hb
    have e : (⟨#[120, 32, 42, 32]⟩ ++ S ++ ⟨#[32, 47, 32]⟩ ++ T : ByteArray).data.toList = [120] ++ ([32, 42, 32] ++ (itoa a ++ ([32, 47, 32] ++ decDigits b))) := by
      rw [data_app, data_app, data_app, List.append_assoc, List.append_assoc, hSl, hTl] <;> rfl
    rw [e]
    exact h))
  have KR4 := Lib.hid (fun (w' : World) (hb' : Below w.heap.size w w') => read_any (⟨#[40]⟩ ++ S ++ ⟨#[41, 32, 47, 32]⟩ ++ T) (opE 6 [numE (a, 1), numE ((b : Int), 1)]) w' (by
    simp only [ByteArray.size_append]
    have e1 : S.size ≤ 11 := hS
    have e2 : T.size ≤ 10 := hT
    unfold maxLen
    show _ ≤ 2 ^ 63 - 1
    simp only [ByteArray.size, List.size_toArray, List.length_cons, List.length_nil] at e1 e2 ⊢
    omega) (HR.out.belowW hb') (HX.out.belowW hb') (by
    have h := ex_psq ha hb
    have e : (⟨#[40]⟩ ++ S ++ ⟨#[41, 32, 47, 32]⟩ ++ T : ByteArray).data.toList = [40] ++ (itoa a ++ ([41] ++ ([32, 47, 32] ++ decDigits b))) := by
      rw [data_app, data_app, data_app, List.append_assoc, List.append_assoc, hSl, hTl] <;> rfl
    rw [e]
    exact h))
  have KR5 := Lib.hid (fun (w' : World) (hb' : Below w.heap.size w w') => read_any (⟨#[120, 32, 42, 32, 40]⟩ ++ S ++ ⟨#[47]⟩ ++ T ++ ⟨#[41]⟩) (opE 5 [varE [120], numE (qn, qd)]) w' (by
    simp only [ByteArray.size_append]
    have e1 : S.size ≤ 11 := hS
    have e2 : T.size ≤ 10 := hT
    unfold maxLen
    show _ ≤ 2 ^ 63 - 1
    simp only [ByteArray.size, List.size_toArray, List.length_cons, List.length_nil] at e1 e2 ⊢
    omega) (HR.out.belowW hb') (HX.out.belowW hb') (by
    have h := ex_xpq ha hb hm hv
    have e : (⟨#[120, 32, 42, 32, 40]⟩ ++ S ++ ⟨#[47]⟩ ++ T ++ ⟨#[41]⟩ : ByteArray).data.toList = [120] ++ ([32, 42, 32] ++ ([40] ++ (itoa a ++ ([47] ++ (decDigits b ++ [41]))))) := by
      rw [data_app, data_app, data_app, data_app, List.append_assoc, List.append_assoc, List.append_assoc, hSl, hTl] <;> rfl
    rw [e]
    exact h))
  have KR6 := Lib.hid (fun (w' : World) (hb' : Below w.heap.size w w') => read_any (T ++ ⟨#[32, 47, 32]⟩ ++ T ++ ⟨#[32, 47, 32]⟩ ++ T) (opE 6 [numE (1, 1), numE ((b : Int), 1)]) w' (by
    simp only [ByteArray.size_append]
    have e1 : S.size ≤ 11 := hS
    have e2 : T.size ≤ 10 := hT
    unfold maxLen
    show _ ≤ 2 ^ 63 - 1
    simp only [ByteArray.size, List.size_toArray, List.length_cons, List.length_nil] at e1 e2 ⊢
    omega) (HR.out.belowW hb') (HX.out.belowW hb') (by
    have h := ex_ttt hb
    have e : (T ++ ⟨#[32, 47, 32]⟩ ++ T ++ ⟨#[32, 47, 32]⟩ ++ T : ByteArray).data.toList = decDigits b ++ ([32, 47, 32] ++ (decDigits b ++ ([32, 47, 32] ++ decDigits b))) := by
      rw [data_app, data_app, data_app, data_app, List.append_assoc, List.append_assoc, List.append_assoc, hTl] <;> rfl
    rw [e]
    exact h))
  have KR7 := Lib.hid (fun (w' : World) (hb' : Below w.heap.size w w') => read_any (T ++ ⟨#[46, 53]⟩) (numE (((2 * b + 1 : Nat) : Int), 2)) w' (by
    simp only [ByteArray.size_append]
    have e1 : S.size ≤ 11 := hS
    have e2 : T.size ≤ 10 := hT
    unfold maxLen
    show _ ≤ 2 ^ 63 - 1
    simp only [ByteArray.size, List.size_toArray, List.length_cons, List.length_nil] at e1 e2 ⊢
    omega) (HR.out.belowW hb') (HX.out.belowW hb') (by
    have h := ex_half hb2
    have e : (T ++ ⟨#[46, 53]⟩ : ByteArray).data.toList = decDigits b ++ [46, 53] := by
      rw [data_app, hTl] <;> rfl
    rw [e]
    exact h))
  have KS := Lib.hid (fun w' => show Calls Tryz.prog 14 #[.int .i64 a] w' (fun e w'' => e = .returned (.string S) ∧ w'' = w') from by rw [hSS]; exact decimal_any a w' (by omega) (by omega))
  have KT := Lib.hid (fun w' => show Calls Tryz.prog 14 #[.int .i64 b] w' (fun e w'' => e = .returned (.string T) ∧ w'' = w') from by rw [hTT]; exact decimal_nat b w' (by omega))
  have KA := Lib.hid (fun w' => in_num w' a 1 (by omega) (by decide))
  have KB := Lib.hid (fun w' => in_num w' (b : Int) 1 (by omega) (by decide))
  have K1 := Lib.hid (fun w' => in_num w' 1 1 (by decide) (by decide))
  have KH := Lib.hid (fun w' => show InE w' (numE (((2 * b + 1 : Nat) : Int), 2)) (ndN (2 * (b : Int) + 1) 2) from by
    have h := in_num w' (2 * (b : Int) + 1) 2 (by omega) (by decide)
    have e : ((2 * b + 1 : Nat) : Int) = 2 * (b : Int) + 1 := by omega
    rw [e]
    exact h)
  have KQ := Lib.hid (fun w' => show InE w' (numE (qn, qd)) ⟨⟨1, qn, qd, ⟨#[]⟩, 0⟩, none, 0, 0⟩ from in_num w' qn qd (by omega) (by omega))
  have KX := Lib.hid (fun w' => show InE w' (varE [120]) ⟨⟨2, 0, 0, ⟨#[120]⟩, 0⟩, none, 0, 0⟩ from in_V w' ⟨#[120]⟩ (by decide))
  have HG := Lib.hid hg
  have HQN := Lib.hid hqn
  have HQD := Lib.hid hqd
  clear hv hm ha hb hb2 hSS hTT hSl hTl hg hqn hqd
  have d0 : ((b : Int) == 0) = false := by rw [beq_eq_false_iff_ne]; omega
  have dg : ((g : Int) == 0) = false := by rw [beq_eq_false_iff_ne]; omega
  go_enter Tryz.func3, Tryz.ntmps3
  go_wp2_with fail
  refine (awake14_any w HR.out HX.out).mono ?_
  rintro e w1 ⟨rfl, O1⟩
  go_wp2_with fail
  go_loopg [7, 8] b (fun k uv vv wr => ∃ u v : Nat, uv = .int .i64 u ∧ vv = .int .i64 v ∧ v = k ∧ u ≤ 65536 ∧ v ≤ 65536 ∧ Hid (Nat.gcd u v = g) ∧ Hid (Below w.heap.size w wr))
  case atStart =>
    refine ⟨a.natAbs, b, ?_, rfl, rfl, by omega, by omega, Lib.hid HG.out.symm, O1⟩
    congr 1
    omega
  case round =>
    obtain ⟨u, v, rfl, rfl, rfl, hu, hv, HGC, OR⟩ := hrel
    by_cases hv0 : v = 0
    · subst hv0
      have hug : u = g := by
        have h := HGC.out
        rw [Nat.gcd_zero_right] at h
        exact h
      subst hug
      have hu0 : ¬ u = 0 := by omega
      have eq1 : IntKind.i64.wrap (a.tdiv (u : Int)) = qn := by rw [← HQN.out, IntKind.wrap_i64]; omega
      have eq2 : IntKind.i64.wrap ((b : Int).tdiv (u : Int)) = qd := by rw [← HQD.out, IntKind.wrap_i64]; omega
      have eq3 : IntKind.i64.wrap ((b : Int) / (u : Int)) = qd := by
        have h := HQD.out
        rw [Int.tdiv_eq_ediv_of_nonneg (by omega)] at h
        rw [← h, IntKind.wrap_i64]
        omega
      go_wp2_with fail
      refine (KS.out _).mono ?_
      rintro e w2 ⟨rfl, hsame⟩
      rw [hsame]
      clear hsame
      go_wp2_with fail
      refine (KT.out _).mono ?_
      rintro e w2 ⟨rfl, hsame⟩
      rw [hsame]
      clear hsame
      go_upto_region 12 with (fail)
      obtain ⟨w3, hw3⟩ : ∃ z9 : World, z9 = wr.alloc (Obj.cells #[.int .i64 2, .int .i64 0, .int .i64 0, .string ⟨#[120]⟩, .int .i64 0, .slice none 0 0] 29) := ⟨_, rfl⟩
      have HB3 := Lib.hid (show Below wr.heap.size wr w3 by rw [hw3]; exact below_box _ _)
      have X3 := Lib.hid (show Blk w3 wr.heap.size 29 #[.int .i64 2, .int .i64 0, .int .i64 0, .string ⟨#[120]⟩, .int .i64 0, .slice none 0 0] by rw [hw3]; exact Blk.new _ _ _)
      rw [← hw3]
      clear hw3
      have O3 := Lib.hid (OR.out.trans (HB3.out.mono OR.out.size))
      obtain ⟨gx, hgx⟩ : ∃ z, z = wr.heap.size := ⟨_, rfl⟩
      rw [← hgx] at X3 ⊢
      clear hgx
      go_cut [15] (fun s15 wx => ∃ gq : Nat, s15 = .pointer (some ⟨gq, 0, none⟩) ∧ Hid (Blk wx gq 29 #[.int .i64 1, .int .i64 qn, .int .i64 qd, .string ⟨#[]⟩, .int .i64 0, .slice none 0 0]) ∧ Hid (Blk wx gx 29 #[.int .i64 2, .int .i64 0, .int .i64 0, .string ⟨#[120]⟩, .int .i64 0, .slice none 0 0]) ∧ Hid (Below w.heap.size w wx))
      case first =>
        have HR31 := Lib.hid (below_dr w3)
        have R31x := Lib.hid (X3.out.belowW HR31.out)
        have R31o := Lib.hid (O3.out.trans (HR31.out.mono O3.out.size))
        refine wp_region_held_drew (S := fun w' => w'.cell? ⟨gx, 0, none⟩ = some (.int .i64 2)) (by kernel_rfl) ?_ (fun hHeld => ?_)
        case refine_1 => exact R31x.out.cell 0
        obtain ⟨wd31, hwd⟩ : ∃ z9 : World, z9 = w3.drew := ⟨_, rfl⟩
        rw [← hwd] at HR31 R31x R31o hHeld ⊢
        clear hwd
        refine tkY 0 rfl (v := ?_) (.inl ⟨by rfl, ?_⟩) ?_
        case refine_2 => intro w9 hSw; (try dsimp only at hSw); go_simp; (try with_reducible rfl)
        try simp only [Act.put, setIfInBounds_toArray, set_cons_zero, set_cons_succ, getElem_toArray, getElem_cons_zero]
        refine tkY 1 rfl (v := ?_) (.inl ⟨by rfl, ?_⟩) ?_
        case refine_2 => intro w9 hSw; (try dsimp only at hSw); go_simp; (try with_reducible rfl)
        try simp only [Act.put, setIfInBounds_toArray, set_cons_zero, set_cons_succ, getElem_toArray, getElem_cons_zero, getElem_cons_succ]
        refine tkY 2 rfl (v := ?_) (.inl ⟨by rfl, ?_⟩) ?_
        case refine_2 => intro w9 hSw; (try dsimp only at hSw); go_simp; (try with_reducible rfl)
        try simp only [Act.put, setIfInBounds_toArray, set_cons_zero, set_cons_succ, getElem_toArray, getElem_cons_zero, getElem_cons_succ]
        refine tkY 3 rfl (v := ?_) (.inl ⟨by rfl, ?_⟩) ?_
        case refine_2 => intro w9 hSw; (try dsimp only at hSw); go_simp; (try with_reducible rfl)
        try simp only [Act.put, setIfInBounds_toArray, set_cons_zero, set_cons_succ, getElem_toArray, getElem_cons_zero, getElem_cons_succ]
        refine tkY 4 rfl (v := ?_) (.inl ⟨by rfl, ?_⟩) ?_
        case refine_2 => intro w9 hSw; (try dsimp only at hSw); go_simp; (try with_reducible rfl)
        try simp only [Act.put, setIfInBounds_toArray, set_cons_zero, set_cons_succ, getElem_toArray, getElem_cons_zero, getElem_cons_succ]
        refine tkY 5 rfl (v := ?_) (.inl ⟨by rfl, ?_⟩) ?_
        case refine_2 => intro w9 hSw; (try dsimp only at hSw); go_simp; (try with_reducible rfl)
        try simp only [Act.put, setIfInBounds_toArray, set_cons_zero, set_cons_succ, getElem_toArray, getElem_cons_zero, getElem_cons_succ]
        refine tkY 6 rfl (v := ?_) (.inl ⟨by rfl, ?_⟩) ?_
        case refine_2 => intro w9 hSw; (try dsimp only at hSw); go_simp; (try with_reducible rfl)
        try simp only [Act.put, setIfInBounds_toArray, set_cons_zero, set_cons_succ, getElem_toArray, getElem_cons_zero, getElem_cons_succ]
        refine wpAnyH_ready (rs := [7, 8]) (by kernel_rfl) (by simp) ?_
        refine (AllReadyH.cons rfl (fun K hK => ?_) (AllReadyH.cons rfl (fun K hK => ?_) AllReadyH.nil))
        · go_simp
          (with_reducible refine (num14_agg qn qd wd31).mono ?_)
          rintro e w32 ⟨rfl, HC32⟩
          have R32x := Lib.hid (R31x.out.belowW HC32.out)
          have R32o := Lib.hid (R31o.out.trans (HC32.out.mono R31o.out.size))
          go_wp2_with fail
          clear hHeld
          refine hK.out _ _ ?_ (fun hHeld => ?_)
          case refine_1 => exact R32x.out.cell 0
          clear hK K
          try simp only [setIfInBounds_toArray, set_cons_zero, set_cons_succ]
          refine wpAnyH_ready (rs := [8]) (by kernel_rfl) (by simp) ?_
          refine (AllReadyH.cons rfl (fun K hK => ?_) AllReadyH.nil)
          go_simp
          obtain ⟨w33, hw⟩ : ∃ z9 : World, z9 = w32.alloc (Obj.cells #[.int .i64 0, .int .i64 0, .int .i64 0, .string ⟨#[]⟩, .int .i64 0, .slice none 0 0] 29) := ⟨_, rfl⟩
          have HC33 := Lib.hid (show Below w32.heap.size w32 w33 by rw [hw]; exact below_box _ _)
          have R33x := Lib.hid (R32x.out.belowW HC33.out)
          have R33o := Lib.hid (R32o.out.trans (HC33.out.mono R32o.out.size))
          have R33q := Lib.hid (show Blk w33 w32.heap.size 29 #[.int .i64 0, .int .i64 0, .int .i64 0, .string ⟨#[]⟩, .int .i64 0, .slice none 0 0] by rw [hw]; exact Blk.new _ _ _)
          rw [← hw]
          clear hw
          have HNX := Lib.hid (show gx ≠ w32.heap.size from Nat.ne_of_lt R32x.out.lt)
          have HNL := Lib.hid (show w.heap.size ≤ w32.heap.size from R32o.out.size)
          clear hHeld
          refine hK.out _ _ ?_ (fun hHeld => ?_)
          case refine_1 => exact R33x.out.cell 0
          clear hK K
          try simp only [setIfInBounds_toArray, set_cons_zero, set_cons_succ]
          refine wpAnyH_ready (rs := [9]) (by kernel_rfl) (by simp) ?_
          refine (AllReadyH.cons rfl (fun K hK => ?_) AllReadyH.nil)
          obtain ⟨ps0, fs0, ps1, fs1, ps2, fs2, ps3, fs3, ps4, fs4, ps5, fs5⟩ := R33q.out.all6
          go_simp
          rw [pst6 R33q.out]
          clear ps0 fs0 ps1 fs1 ps2 fs2 ps3 fs3 ps4 fs4 ps5 fs5
          have R34x := Lib.hid (R33x.out.far (t' := 29) HNX.out #[.int .i64 1, .int .i64 qn, .int .i64 qd, .string ⟨#[]⟩, .int .i64 0, .slice none 0 0])
          have R34o := Lib.hid (R33o.out.trans (putB_below w33 (w32.heap.size) 29 #[.int .i64 1, .int .i64 qn, .int .i64 qd, .string ⟨#[]⟩, .int .i64 0, .slice none 0 0] HNL.out))
          have R34zz := Lib.hid (R33q.out.put #[.int .i64 1, .int .i64 qn, .int .i64 qd, .string ⟨#[]⟩, .int .i64 0, .slice none 0 0])
          obtain ⟨w34, hw9⟩ : ∃ z9 : World, z9 = putB w33 (w32.heap.size) 29 #[.int .i64 1, .int .i64 qn, .int .i64 qd, .string ⟨#[]⟩, .int .i64 0, .slice none 0 0] := ⟨_, rfl⟩
          try rw [← hw9] at R34x
          try rw [← hw9] at R34o
          try rw [← hw9] at R34zz
          rw [← hw9]
          clear hw9 hHeld
          refine hK.out _ _ ?_ (fun hHeld => ?_)
          case refine_1 => exact R34x.out.cell 0
          clear hK K
          try simp only [setIfInBounds_toArray, set_cons_zero, set_cons_succ]
          refine wpAnyH_done (by kernel_rfl) ?_ _
          go_wp2_with fail
          go_meet
          exact ⟨_, rfl, R34zz, R34x, R34o⟩
        · go_simp
          obtain ⟨w32, hw⟩ : ∃ z9 : World, z9 = wd31.alloc (Obj.cells #[.int .i64 0, .int .i64 0, .int .i64 0, .string ⟨#[]⟩, .int .i64 0, .slice none 0 0] 29) := ⟨_, rfl⟩
          have HC32 := Lib.hid (show Below wd31.heap.size wd31 w32 by rw [hw]; exact below_box _ _)
          have R32x := Lib.hid (R31x.out.belowW HC32.out)
          have R32o := Lib.hid (R31o.out.trans (HC32.out.mono R31o.out.size))
          have R32q := Lib.hid (show Blk w32 wd31.heap.size 29 #[.int .i64 0, .int .i64 0, .int .i64 0, .string ⟨#[]⟩, .int .i64 0, .slice none 0 0] by rw [hw]; exact Blk.new _ _ _)
          rw [← hw]
          clear hw
          have HNX := Lib.hid (show gx ≠ wd31.heap.size from Nat.ne_of_lt R31x.out.lt)
          have HNL := Lib.hid (show w.heap.size ≤ wd31.heap.size from R31o.out.size)
          clear hHeld
          refine hK.out _ _ ?_ (fun hHeld => ?_)
          case refine_1 => exact R32x.out.cell 0
          clear hK K
          try simp only [setIfInBounds_toArray, set_cons_zero, set_cons_succ]
          refine wpAnyH_ready (rs := [7]) (by kernel_rfl) (by simp) ?_
          refine (AllReadyH.cons rfl (fun K hK => ?_) AllReadyH.nil)
          go_simp
          (with_reducible refine (num14_agg qn qd w32).mono ?_)
          rintro e w33 ⟨rfl, HC33⟩
          have R33x := Lib.hid (R32x.out.belowW HC33.out)
          have R33o := Lib.hid (R32o.out.trans (HC33.out.mono R32o.out.size))
          have R33q := Lib.hid (R32q.out.belowW HC33.out)
          go_wp2_with fail
          clear hHeld
          refine hK.out _ _ ?_ (fun hHeld => ?_)
          case refine_1 => exact R33x.out.cell 0
          clear hK K
          try simp only [setIfInBounds_toArray, set_cons_zero, set_cons_succ]
          refine wpAnyH_ready (rs := [9]) (by kernel_rfl) (by simp) ?_
          refine (AllReadyH.cons rfl (fun K hK => ?_) AllReadyH.nil)
          obtain ⟨ps0, fs0, ps1, fs1, ps2, fs2, ps3, fs3, ps4, fs4, ps5, fs5⟩ := R33q.out.all6
          go_simp
          rw [pst6 R33q.out]
          clear ps0 fs0 ps1 fs1 ps2 fs2 ps3 fs3 ps4 fs4 ps5 fs5
          have R34x := Lib.hid (R33x.out.far (t' := 29) HNX.out #[.int .i64 1, .int .i64 qn, .int .i64 qd, .string ⟨#[]⟩, .int .i64 0, .slice none 0 0])
          have R34o := Lib.hid (R33o.out.trans (putB_below w33 (wd31.heap.size) 29 #[.int .i64 1, .int .i64 qn, .int .i64 qd, .string ⟨#[]⟩, .int .i64 0, .slice none 0 0] HNL.out))
          have R34zz := Lib.hid (R33q.out.put #[.int .i64 1, .int .i64 qn, .int .i64 qd, .string ⟨#[]⟩, .int .i64 0, .slice none 0 0])
          obtain ⟨w34, hw9⟩ : ∃ z9 : World, z9 = putB w33 (wd31.heap.size) 29 #[.int .i64 1, .int .i64 qn, .int .i64 qd, .string ⟨#[]⟩, .int .i64 0, .slice none 0 0] := ⟨_, rfl⟩
          try rw [← hw9] at R34x
          try rw [← hw9] at R34o
          try rw [← hw9] at R34zz
          rw [← hw9]
          clear hw9 hHeld
          refine hK.out _ _ ?_ (fun hHeld => ?_)
          case refine_1 => exact R34x.out.cell 0
          clear hK K
          try simp only [setIfInBounds_toArray, set_cons_zero, set_cons_succ]
          refine wpAnyH_done (by kernel_rfl) ?_ _
          go_wp2_with fail
          go_meet
          exact ⟨_, rfl, R34zz, R34x, R34o⟩
      case rest =>
        obtain ⟨gq, rfl, Q4, X4, O4⟩ := hcut
        obtain ⟨w4, hw⟩ : ∃ z9 : World, z9 = wc := ⟨_, rfl⟩
        rw [← hw] at Q4 X4 O4 ⊢
        clear hw eq1 eq2 eq3
        have cc0 : ¬ 9223372036854775807 < S.size + 1 := by omega
        have cc1 : ¬ 9223372036854775807 < S.size + 1 + T.size := by omega
        have cc2 : ¬ 9223372036854775807 < S.size + 3 := by omega
        have cc3 : ¬ 9223372036854775807 < S.size + 3 + T.size := by omega
        have cc4 : ¬ 9223372036854775807 < S.size + 3 + T.size + 4 := by omega
        have cc5 : ¬ 9223372036854775807 < 4 + S.size := by omega
        have cc6 : ¬ 9223372036854775807 < 4 + S.size + 3 := by omega
        have cc7 : ¬ 9223372036854775807 < 4 + S.size + 3 + T.size := by omega
        have cc8 : ¬ 9223372036854775807 < 1 + S.size := by omega
        have cc9 : ¬ 9223372036854775807 < 1 + S.size + 4 := by omega
        have cc10 : ¬ 9223372036854775807 < 1 + S.size + 4 + T.size := by omega
        have cc11 : ¬ 9223372036854775807 < 5 + S.size := by omega
        have cc12 : ¬ 9223372036854775807 < 5 + S.size + 1 := by omega
        have cc13 : ¬ 9223372036854775807 < 5 + S.size + 1 + T.size := by omega
        have cc14 : ¬ 9223372036854775807 < 5 + S.size + 1 + T.size + 1 := by omega
        have cc15 : ¬ 9223372036854775807 < T.size + 3 := by omega
        have cc16 : ¬ 9223372036854775807 < T.size + 3 + T.size := by omega
        have cc17 : ¬ 9223372036854775807 < T.size + 3 + T.size + 3 := by omega
        have cc18 : ¬ 9223372036854775807 < T.size + 3 + T.size + 3 + T.size := by omega
        have cc19 : ¬ 9223372036854775807 < T.size + 2 := by omega
        have w2 : IntKind.i64.wrap (2 * (b : Int)) = 2 * (b : Int) := by rw [IntKind.wrap_i64]; omega
        have w3 : IntKind.i64.wrap (2 * (b : Int) + 1) = 2 * (b : Int) + 1 := by rw [IntKind.wrap_i64]; omega
        go_upto_region 13 with (fail)
        have HR61 := Lib.hid (below_dr w4)
        have R61q := Lib.hid (Q4.out.belowW HR61.out)
        have R61x := Lib.hid (X4.out.belowW HR61.out)
        have R61o := Lib.hid (O4.out.trans (HR61.out.mono O4.out.size))
        refine wp_region_held_drew (S := fun w' => w'.cell? ⟨gq, 0, none⟩ = some (.int .i64 1) ∧ w'.cell? ⟨gq, 1, none⟩ = some (.int .i64 qn) ∧ w'.cell? ⟨gq, 2, none⟩ = some (.int .i64 qd) ∧ w'.cell? ⟨gq, 3, none⟩ = some (.string ⟨#[]⟩) ∧ w'.cell? ⟨gq, 4, none⟩ = some (.int .i64 0) ∧ w'.cell? ⟨gq, 5, none⟩ = some (.slice none 0 0) ∧ w'.cell? ⟨gx, 0, none⟩ = some (.int .i64 2) ∧ w'.cell? ⟨gx, 1, none⟩ = some (.int .i64 0) ∧ w'.cell? ⟨gx, 2, none⟩ = some (.int .i64 0) ∧ w'.cell? ⟨gx, 3, none⟩ = some (.string ⟨#[120]⟩) ∧ w'.cell? ⟨gx, 4, none⟩ = some (.int .i64 0) ∧ w'.cell? ⟨gx, 5, none⟩ = some (.slice none 0 0)) (by kernel_rfl) ?_ (fun hHeld => ?_)
        case refine_1 => exact ⟨R61q.out.cell 0, R61q.out.cell 1, R61q.out.cell 2, R61q.out.cell 3, R61q.out.cell 4, R61q.out.cell 5, R61x.out.cell 0, R61x.out.cell 1, R61x.out.cell 2, R61x.out.cell 3, R61x.out.cell 4, R61x.out.cell 5⟩
        obtain ⟨wd61, hwd⟩ : ∃ z9 : World, z9 = w4.drew := ⟨_, rfl⟩
        rw [← hwd] at HR61 R61q R61x R61o hHeld ⊢
        clear hwd
        refine nmS 112 (fun HBR => ?_)
        refine tkD 0 51 1 HBR ?_
        refine tkD 2 53 5 HBR ?_
        refine tkD 3 54 13 HBR ?_
        refine rdD (rs := [1]) HBR ?_
        refine (AllReadyH.cons rfl (fun K hK => ?_) AllReadyH.nil)
        go_simp
        (with_reducible refine (KR0.out wd61 R61o.out).mono ?_)
        rintro e w62 ⟨v1, rfl, HV1, HC62⟩
        have R62q := Lib.hid (R61q.out.belowW HC62.out)
        have R62x := Lib.hid (R61x.out.belowW HC62.out)
        have R62o := Lib.hid (R61o.out.trans (HC62.out.mono R61o.out.size))
        have R62r := Lib.hid (HV1.out)
        go_wp2_with fail
        clear hHeld
        refine hK.out _ _ ?_ (fun hHeld => ?_)
        case refine_1 => exact ⟨R62q.out.cell 0, R62q.out.cell 1, R62q.out.cell 2, R62q.out.cell 3, R62q.out.cell 4, R62q.out.cell 5, R62x.out.cell 0, R62x.out.cell 1, R62x.out.cell 2, R62x.out.cell 3, R62x.out.cell 4, R62x.out.cell 5⟩
        clear hK K
        refine nmL 1 15 ?_
        refine rdD (rs := [4]) HBR ?_
        refine (AllReadyH.cons rfl (fun K hK => ?_) AllReadyH.nil)
        go_simp
        (with_reducible refine (num14_any (a) (1) w62).mono ?_)
        rintro e w63 ⟨rfl, HC63⟩
        have R63q := Lib.hid (R62q.out.belowW HC63.out)
        have R63x := Lib.hid (R62x.out.belowW HC63.out)
        have R63o := Lib.hid (R62o.out.trans (HC63.out.mono R62o.out.size))
        have R63r := Lib.hid (R62r.out.belowW HC63.out)
        go_wp2_with fail
        clear hHeld
        refine hK.out _ _ ?_ (fun hHeld => ?_)
        case refine_1 => exact ⟨R63q.out.cell 0, R63q.out.cell 1, R63q.out.cell 2, R63q.out.cell 3, R63q.out.cell 4, R63q.out.cell 5, R63x.out.cell 0, R63x.out.cell 1, R63x.out.cell 2, R63x.out.cell 3, R63x.out.cell 4, R63x.out.cell 5⟩
        clear hK K
        refine nmL 4 31 ?_
        refine rdD (rs := [5]) HBR ?_
        refine (AllReadyH.cons rfl (fun K hK => ?_) AllReadyH.nil)
        go_simp
        (with_reducible refine (same_any _ (numE (a, 1)) (Nat.le_refl _) (numE (a, 1)) v1 (ndN a 1) w63 R63r.out (KA.out w63)).mono ?_)
        rintro e w64 ⟨b5, rfl, HE5, HC64⟩
        have R64q := Lib.hid (R63q.out.belowW HC64.out)
        have R64x := Lib.hid (R63x.out.belowW HC64.out)
        have R64o := Lib.hid (R63o.out.trans (HC64.out.mono R63o.out.size))
        have R64r := Lib.hid (R63r.out.belowW HC64.out)
        obtain rfl : b5 = true := HE5.out.2 rfl
        go_wp2_with fail
        clear hHeld
        refine hK.out _ _ ?_ (fun hHeld => ?_)
        case refine_1 => exact ⟨R64q.out.cell 0, R64q.out.cell 1, R64q.out.cell 2, R64q.out.cell 3, R64q.out.cell 4, R64q.out.cell 5, R64x.out.cell 0, R64x.out.cell 1, R64x.out.cell 2, R64x.out.cell 3, R64x.out.cell 4, R64x.out.cell 5⟩
        clear hK K
        refine nmL 5 63 ?_
        refine tkD 6 57 127 HBR ?_
        refine tkD 7 58 255 HBR ?_
        refine tkD 8 59 511 HBR ?_
        refine tkD 9 60 1023 HBR ?_
        refine tkD 10 61 2047 HBR ?_
        refine tkD 12 63 6143 HBR ?_
        refine rdD (rs := [11]) HBR ?_
        refine (AllReadyH.cons rfl (fun K hK => ?_) AllReadyH.nil)
        go_simp
        (with_reducible refine (KR1.out w64 R64o.out).mono ?_)
        rintro e w65 ⟨v11, rfl, HV11, HC65⟩
        have R65q := Lib.hid (R64q.out.belowW HC65.out)
        have R65x := Lib.hid (R64x.out.belowW HC65.out)
        have R65o := Lib.hid (R64o.out.trans (HC65.out.mono R64o.out.size))
        have R65r := Lib.hid (HV11.out)
        go_wp2_with fail
        clear hHeld
        refine hK.out _ _ ?_ (fun hHeld => ?_)
        case refine_1 => exact ⟨R65q.out.cell 0, R65q.out.cell 1, R65q.out.cell 2, R65q.out.cell 3, R65q.out.cell 4, R65q.out.cell 5, R65x.out.cell 0, R65x.out.cell 1, R65x.out.cell 2, R65x.out.cell 3, R65x.out.cell 4, R65x.out.cell 5⟩
        clear hK K
        refine nmL 11 8191 ?_
        refine rdD (rs := [13]) HBR ?_
        refine (AllReadyH.cons rfl (fun K hK => ?_) AllReadyH.nil)
        go_simp
        (with_reducible refine (same_any _ (numE (qn, qd)) (Nat.le_refl _) (numE (qn, qd)) v11 (⟨⟨1, qn, qd, ⟨#[]⟩, 0⟩, none, 0, 0⟩) w65 R65r.out (KQ.out w65)).mono ?_)
        rintro e w66 ⟨b13, rfl, HE13, HC66⟩
        have R66q := Lib.hid (R65q.out.belowW HC66.out)
        have R66x := Lib.hid (R65x.out.belowW HC66.out)
        have R66o := Lib.hid (R65o.out.trans (HC66.out.mono R65o.out.size))
        have R66r := Lib.hid (R65r.out.belowW HC66.out)
        obtain rfl : b13 = true := HE13.out.2 rfl
        go_wp2_with fail
        clear hHeld
        refine hK.out _ _ ?_ (fun hHeld => ?_)
        case refine_1 => exact ⟨R66q.out.cell 0, R66q.out.cell 1, R66q.out.cell 2, R66q.out.cell 3, R66q.out.cell 4, R66q.out.cell 5, R66x.out.cell 0, R66x.out.cell 1, R66x.out.cell 2, R66x.out.cell 3, R66x.out.cell 4, R66x.out.cell 5⟩
        clear hK K
        refine nmL 13 16383 ?_
        refine tkD 14 65 32767 HBR ?_
        refine tkD 15 66 65535 HBR ?_
        refine tkD 16 67 131071 HBR ?_
        refine tkD 17 68 262143 HBR ?_
        refine tkD 18 69 524287 HBR ?_
        refine tkD 19 70 1048575 HBR ?_
        refine tkD 20 71 2097151 HBR ?_
        refine tkD 22 73 6291455 HBR ?_
        refine tkD 23 74 14680063 HBR ?_
        refine tkD 24 75 31457279 HBR ?_
        refine rdD (rs := [21]) HBR ?_
        refine (AllReadyH.cons rfl (fun K hK => ?_) AllReadyH.nil)
        go_simp
        (with_reducible refine (KR2.out w66 R66o.out).mono ?_)
        rintro e w67 ⟨v21, rfl, HV21, HC67⟩
        have R67q := Lib.hid (R66q.out.belowW HC67.out)
        have R67x := Lib.hid (R66x.out.belowW HC67.out)
        have R67o := Lib.hid (R66o.out.trans (HC67.out.mono R66o.out.size))
        have R67r := Lib.hid (HV21.out)
        go_wp2_with fail
        clear hHeld
        refine hK.out _ _ ?_ (fun hHeld => ?_)
        case refine_1 => exact ⟨R67q.out.cell 0, R67q.out.cell 1, R67q.out.cell 2, R67q.out.cell 3, R67q.out.cell 4, R67q.out.cell 5, R67x.out.cell 0, R67x.out.cell 1, R67x.out.cell 2, R67x.out.cell 3, R67x.out.cell 4, R67x.out.cell 5⟩
        clear hK K
        refine nmL 21 33554431 ?_
        refine rdD (rs := [25]) HBR ?_
        refine (AllReadyH.cons rfl (fun K hK => ?_) AllReadyH.nil)
        go_simp
        (with_reducible refine (prod_any (numE (qn, qd)) (varE [120]) (⟨⟨1, qn, qd, ⟨#[]⟩, 0⟩, none, 0, 0⟩) (⟨⟨2, 0, 0, ⟨#[120]⟩, 0⟩, none, 0, 0⟩) w67 (KQ.out w67) (KX.out w67)).mono ?_)
        rintro e w68 ⟨z25, rfl, HZ25, HC68⟩
        have R68q := Lib.hid (R67q.out.belowW HC68.out)
        have R68x := Lib.hid (R67x.out.belowW HC68.out)
        have R68o := Lib.hid (R67o.out.trans (HC68.out.mono R67o.out.size))
        have R68r := Lib.hid (R67r.out.belowW HC68.out)
        have R68p := Lib.hid (HZ25.out)
        go_wp2_with fail
        clear hHeld
        refine hK.out _ _ ?_ (fun hHeld => ?_)
        case refine_1 => exact ⟨R68q.out.cell 0, R68q.out.cell 1, R68q.out.cell 2, R68q.out.cell 3, R68q.out.cell 4, R68q.out.cell 5, R68x.out.cell 0, R68x.out.cell 1, R68x.out.cell 2, R68x.out.cell 3, R68x.out.cell 4, R68x.out.cell 5⟩
        clear hK K
        refine nmL 25 67108863 ?_
        refine rdD (rs := [26]) HBR ?_
        refine (AllReadyH.cons rfl (fun K hK => ?_) AllReadyH.nil)
        go_simp
        (with_reducible refine (same_any _ (opE 5 [numE (qn, qd), varE [120]]) (Nat.le_refl _) (opE 5 [numE (qn, qd), varE [120]]) v21 (z25) w68 R68r.out (R68p.out)).mono ?_)
        rintro e w69 ⟨b26, rfl, HE26, HC69⟩
        have R69q := Lib.hid (R68q.out.belowW HC69.out)
        have R69x := Lib.hid (R68x.out.belowW HC69.out)
        have R69o := Lib.hid (R68o.out.trans (HC69.out.mono R68o.out.size))
        have R69r := Lib.hid (R68r.out.belowW HC69.out)
        have R69p := Lib.hid (R68p.out.belowW HC69.out)
        obtain rfl : b26 = true := HE26.out.2 rfl
        go_wp2_with fail
        clear hHeld
        refine hK.out _ _ ?_ (fun hHeld => ?_)
        case refine_1 => exact ⟨R69q.out.cell 0, R69q.out.cell 1, R69q.out.cell 2, R69q.out.cell 3, R69q.out.cell 4, R69q.out.cell 5, R69x.out.cell 0, R69x.out.cell 1, R69x.out.cell 2, R69x.out.cell 3, R69x.out.cell 4, R69x.out.cell 5⟩
        clear hK K
        refine nmL 26 134217727 ?_
        refine tkD 27 78 268435455 HBR ?_
        refine tkD 28 79 536870911 HBR ?_
        refine tkD 29 80 1073741823 HBR ?_
        refine tkD 30 81 2147483647 HBR ?_
        refine tkD 31 82 4294967295 HBR ?_
        refine tkD 32 83 8589934591 HBR ?_
        refine tkD 33 84 17179869183 HBR ?_
        refine tkD 35 86 51539607551 HBR ?_
        refine tkD 36 87 120259084287 HBR ?_
        refine tkD 37 88 257698037759 HBR ?_
        refine tkD 38 89 532575944703 HBR ?_
        refine tkD 39 90 1082331758591 HBR ?_
        refine tkD 42 93 5480378269695 HBR ?_
        refine tkD 43 94 14276471291903 HBR ?_
        refine rdD (rs := [34]) HBR ?_
        refine (AllReadyH.cons rfl (fun K hK => ?_) AllReadyH.nil)
        go_simp
        (with_reducible refine (KR3.out w69 R69o.out).mono ?_)
        rintro e w70 ⟨v34, rfl, HV34, HC70⟩
        have R70q := Lib.hid (R69q.out.belowW HC70.out)
        have R70x := Lib.hid (R69x.out.belowW HC70.out)
        have R70o := Lib.hid (R69o.out.trans (HC70.out.mono R69o.out.size))
        have R70r := Lib.hid (HV34.out)
        go_wp2_with fail
        clear hHeld
        refine hK.out _ _ ?_ (fun hHeld => ?_)
        case refine_1 => exact ⟨R70q.out.cell 0, R70q.out.cell 1, R70q.out.cell 2, R70q.out.cell 3, R70q.out.cell 4, R70q.out.cell 5, R70x.out.cell 0, R70x.out.cell 1, R70x.out.cell 2, R70x.out.cell 3, R70x.out.cell 4, R70x.out.cell 5⟩
        clear hK K
        refine nmL 34 14293651161087 ?_
        refine rdD (rs := [40]) HBR ?_
        refine (AllReadyH.cons rfl (fun K hK => ?_) AllReadyH.nil)
        go_simp
        (with_reducible refine (num14_any (a) (1) w70).mono ?_)
        rintro e w71 ⟨rfl, HC71⟩
        have R71q := Lib.hid (R70q.out.belowW HC71.out)
        have R71x := Lib.hid (R70x.out.belowW HC71.out)
        have R71o := Lib.hid (R70o.out.trans (HC71.out.mono R70o.out.size))
        have R71r := Lib.hid (R70r.out.belowW HC71.out)
        go_wp2_with fail
        clear hHeld
        refine hK.out _ _ ?_ (fun hHeld => ?_)
        case refine_1 => exact ⟨R71q.out.cell 0, R71q.out.cell 1, R71q.out.cell 2, R71q.out.cell 3, R71q.out.cell 4, R71q.out.cell 5, R71x.out.cell 0, R71x.out.cell 1, R71x.out.cell 2, R71x.out.cell 3, R71x.out.cell 4, R71x.out.cell 5⟩
        clear hK K
        refine nmL 40 15393162788863 ?_
        refine rdD (rs := [41]) HBR ?_
        refine (AllReadyH.cons rfl (fun K hK => ?_) AllReadyH.nil)
        go_simp
        (with_reducible refine (prod_any (varE [120]) (numE (a, 1)) (⟨⟨2, 0, 0, ⟨#[120]⟩, 0⟩, none, 0, 0⟩) (ndN a 1) w71 (KX.out w71) (KA.out w71)).mono ?_)
        rintro e w72 ⟨z41, rfl, HZ41, HC72⟩
        have R72q := Lib.hid (R71q.out.belowW HC72.out)
        have R72x := Lib.hid (R71x.out.belowW HC72.out)
        have R72o := Lib.hid (R71o.out.trans (HC72.out.mono R71o.out.size))
        have R72r := Lib.hid (R71r.out.belowW HC72.out)
        have R72p := Lib.hid (HZ41.out)
        go_wp2_with fail
        clear hHeld
        refine hK.out _ _ ?_ (fun hHeld => ?_)
        case refine_1 => exact ⟨R72q.out.cell 0, R72q.out.cell 1, R72q.out.cell 2, R72q.out.cell 3, R72q.out.cell 4, R72q.out.cell 5, R72x.out.cell 0, R72x.out.cell 1, R72x.out.cell 2, R72x.out.cell 3, R72x.out.cell 4, R72x.out.cell 5⟩
        clear hK K
        refine nmL 41 17592186044415 ?_
        refine rdD (rs := [44]) HBR ?_
        refine (AllReadyH.cons rfl (fun K hK => ?_) AllReadyH.nil)
        go_simp
        (with_reducible refine (num14_any ((b : Int)) (1) w72).mono ?_)
        rintro e w73 ⟨rfl, HC73⟩
        have R73q := Lib.hid (R72q.out.belowW HC73.out)
        have R73x := Lib.hid (R72x.out.belowW HC73.out)
        have R73o := Lib.hid (R72o.out.trans (HC73.out.mono R72o.out.size))
        have R73r := Lib.hid (R72r.out.belowW HC73.out)
        have R73p := Lib.hid (R72p.out.belowW HC73.out)
        go_wp2_with fail
        clear hHeld
        refine hK.out _ _ ?_ (fun hHeld => ?_)
        case refine_1 => exact ⟨R73q.out.cell 0, R73q.out.cell 1, R73q.out.cell 2, R73q.out.cell 3, R73q.out.cell 4, R73q.out.cell 5, R73x.out.cell 0, R73x.out.cell 1, R73x.out.cell 2, R73x.out.cell 3, R73x.out.cell 4, R73x.out.cell 5⟩
        clear hK K
        refine nmL 44 35184372088831 ?_
        refine rdD (rs := [45]) HBR ?_
        refine (AllReadyH.cons rfl (fun K hK => ?_) AllReadyH.nil)
        go_simp
        (with_reducible refine (quo_any (opE 5 [varE [120], numE (a, 1)]) (numE ((b : Int), 1)) (z41) (ndN (b : Int) 1) w73 (R73p.out) (KB.out w73)).mono ?_)
        rintro e w74 ⟨z45, rfl, HZ45, HC74⟩
        have R74q := Lib.hid (R73q.out.belowW HC74.out)
        have R74x := Lib.hid (R73x.out.belowW HC74.out)
        have R74o := Lib.hid (R73o.out.trans (HC74.out.mono R73o.out.size))
        have R74r := Lib.hid (R73r.out.belowW HC74.out)
        have R74p := Lib.hid (R73p.out.belowW HC74.out)
        have R74p2 := Lib.hid (HZ45.out)
        go_wp2_with fail
        clear hHeld
        refine hK.out _ _ ?_ (fun hHeld => ?_)
        case refine_1 => exact ⟨R74q.out.cell 0, R74q.out.cell 1, R74q.out.cell 2, R74q.out.cell 3, R74q.out.cell 4, R74q.out.cell 5, R74x.out.cell 0, R74x.out.cell 1, R74x.out.cell 2, R74x.out.cell 3, R74x.out.cell 4, R74x.out.cell 5⟩
        clear hK K
        refine nmL 45 70368744177663 ?_
        refine rdD (rs := [46]) HBR ?_
        refine (AllReadyH.cons rfl (fun K hK => ?_) AllReadyH.nil)
        go_simp
        (with_reducible refine (same_any _ (opE 6 [opE 5 [varE [120], numE (a, 1)], numE ((b : Int), 1)]) (Nat.le_refl _) (opE 6 [opE 5 [varE [120], numE (a, 1)], numE ((b : Int), 1)]) v34 (z45) w74 R74r.out (R74p2.out)).mono ?_)
        rintro e w75 ⟨b46, rfl, HE46, HC75⟩
        have R75q := Lib.hid (R74q.out.belowW HC75.out)
        have R75x := Lib.hid (R74x.out.belowW HC75.out)
        have R75o := Lib.hid (R74o.out.trans (HC75.out.mono R74o.out.size))
        have R75r := Lib.hid (R74r.out.belowW HC75.out)
        have R75p := Lib.hid (R74p.out.belowW HC75.out)
        have R75p2 := Lib.hid (R74p2.out.belowW HC75.out)
        obtain rfl : b46 = true := HE46.out.2 rfl
        go_wp2_with fail
        clear hHeld
        refine hK.out _ _ ?_ (fun hHeld => ?_)
        case refine_1 => exact ⟨R75q.out.cell 0, R75q.out.cell 1, R75q.out.cell 2, R75q.out.cell 3, R75q.out.cell 4, R75q.out.cell 5, R75x.out.cell 0, R75x.out.cell 1, R75x.out.cell 2, R75x.out.cell 3, R75x.out.cell 4, R75x.out.cell 5⟩
        clear hK K
        refine nmL 46 140737488355327 ?_
        refine tkD 47 98 281474976710655 HBR ?_
        refine tkD 48 99 562949953421311 HBR ?_
        refine tkD 49 100 1125899906842623 HBR ?_
        refine tkD 50 101 2251799813685247 HBR ?_
        refine tkD 51 102 4503599627370495 HBR ?_
        refine tkD 52 103 9007199254740991 HBR ?_
        refine tkD 53 104 18014398509481983 HBR ?_
        refine tkD 55 106 54043195528445951 HBR ?_
        refine tkD 56 107 126100789566373887 HBR ?_
        refine tkD 57 108 270215977642229759 HBR ?_
        refine tkD 59 110 846676729945653247 HBR ?_
        refine tkD 60 111 1999598234552500223 HBR ?_
        refine rdD (rs := [54]) HBR ?_
        refine (AllReadyH.cons rfl (fun K hK => ?_) AllReadyH.nil)
        go_simp
        (with_reducible refine (KR4.out w75 R75o.out).mono ?_)
        rintro e w76 ⟨v54, rfl, HV54, HC76⟩
        have R76q := Lib.hid (R75q.out.belowW HC76.out)
        have R76x := Lib.hid (R75x.out.belowW HC76.out)
        have R76o := Lib.hid (R75o.out.trans (HC76.out.mono R75o.out.size))
        have R76r := Lib.hid (HV54.out)
        go_wp2_with fail
        clear hHeld
        refine hK.out _ _ ?_ (fun hHeld => ?_)
        case refine_1 => exact ⟨R76q.out.cell 0, R76q.out.cell 1, R76q.out.cell 2, R76q.out.cell 3, R76q.out.cell 4, R76q.out.cell 5, R76x.out.cell 0, R76x.out.cell 1, R76x.out.cell 2, R76x.out.cell 3, R76x.out.cell 4, R76x.out.cell 5⟩
        clear hK K
        refine nmL 54 2017612633061982207 ?_
        refine rdD (rs := [58]) HBR ?_
        refine (AllReadyH.cons rfl (fun K hK => ?_) AllReadyH.nil)
        go_simp
        (with_reducible refine (num14_any (a) (1) w76).mono ?_)
        rintro e w77 ⟨rfl, HC77⟩
        have R77q := Lib.hid (R76q.out.belowW HC77.out)
        have R77x := Lib.hid (R76x.out.belowW HC77.out)
        have R77o := Lib.hid (R76o.out.trans (HC77.out.mono R76o.out.size))
        have R77r := Lib.hid (R76r.out.belowW HC77.out)
        go_wp2_with fail
        clear hHeld
        refine hK.out _ _ ?_ (fun hHeld => ?_)
        case refine_1 => exact ⟨R77q.out.cell 0, R77q.out.cell 1, R77q.out.cell 2, R77q.out.cell 3, R77q.out.cell 4, R77q.out.cell 5, R77x.out.cell 0, R77x.out.cell 1, R77x.out.cell 2, R77x.out.cell 3, R77x.out.cell 4, R77x.out.cell 5⟩
        clear hK K
        refine nmL 58 2305843009213693951 ?_
        refine rdD (rs := [61]) HBR ?_
        refine (AllReadyH.cons rfl (fun K hK => ?_) AllReadyH.nil)
        go_simp
        (with_reducible refine (num14_any ((b : Int)) (1) w77).mono ?_)
        rintro e w78 ⟨rfl, HC78⟩
        have R78q := Lib.hid (R77q.out.belowW HC78.out)
        have R78x := Lib.hid (R77x.out.belowW HC78.out)
        have R78o := Lib.hid (R77o.out.trans (HC78.out.mono R77o.out.size))
        have R78r := Lib.hid (R77r.out.belowW HC78.out)
        go_wp2_with fail
        clear hHeld
        refine hK.out _ _ ?_ (fun hHeld => ?_)
        case refine_1 => exact ⟨R78q.out.cell 0, R78q.out.cell 1, R78q.out.cell 2, R78q.out.cell 3, R78q.out.cell 4, R78q.out.cell 5, R78x.out.cell 0, R78x.out.cell 1, R78x.out.cell 2, R78x.out.cell 3, R78x.out.cell 4, R78x.out.cell 5⟩
        clear hK K
        refine nmL 61 4611686018427387903 ?_
        refine rdD (rs := [62]) HBR ?_
        refine (AllReadyH.cons rfl (fun K hK => ?_) AllReadyH.nil)
        go_simp
        (with_reducible refine (quo_any (numE (a, 1)) (numE ((b : Int), 1)) (ndN a 1) (ndN (b : Int) 1) w78 (KA.out w78) (KB.out w78)).mono ?_)
        rintro e w79 ⟨z62, rfl, HZ62, HC79⟩
        have R79q := Lib.hid (R78q.out.belowW HC79.out)
        have R79x := Lib.hid (R78x.out.belowW HC79.out)
        have R79o := Lib.hid (R78o.out.trans (HC79.out.mono R78o.out.size))
        have R79r := Lib.hid (R78r.out.belowW HC79.out)
        have R79p := Lib.hid (HZ62.out)
        go_wp2_with fail
        clear hHeld
        refine hK.out _ _ ?_ (fun hHeld => ?_)
        case refine_1 => exact ⟨R79q.out.cell 0, R79q.out.cell 1, R79q.out.cell 2, R79q.out.cell 3, R79q.out.cell 4, R79q.out.cell 5, R79x.out.cell 0, R79x.out.cell 1, R79x.out.cell 2, R79x.out.cell 3, R79x.out.cell 4, R79x.out.cell 5⟩
        clear hK K
        refine nmL 62 9223372036854775807 ?_
        refine rdD (rs := [63]) HBR ?_
        refine (AllReadyH.cons rfl (fun K hK => ?_) AllReadyH.nil)
        go_simp
        (with_reducible refine (same_any _ (opE 6 [numE (a, 1), numE ((b : Int), 1)]) (Nat.le_refl _) (opE 6 [numE (a, 1), numE ((b : Int), 1)]) v54 (z62) w79 R79r.out (R79p.out)).mono ?_)
        rintro e w80 ⟨b63, rfl, HE63, HC80⟩
        have R80q := Lib.hid (R79q.out.belowW HC80.out)
        have R80x := Lib.hid (R79x.out.belowW HC80.out)
        have R80o := Lib.hid (R79o.out.trans (HC80.out.mono R79o.out.size))
        have R80r := Lib.hid (R79r.out.belowW HC80.out)
        have R80p := Lib.hid (R79p.out.belowW HC80.out)
        obtain rfl : b63 = true := HE63.out.2 rfl
        go_wp2_with fail
        clear hHeld
        refine hK.out _ _ ?_ (fun hHeld => ?_)
        case refine_1 => exact ⟨R80q.out.cell 0, R80q.out.cell 1, R80q.out.cell 2, R80q.out.cell 3, R80q.out.cell 4, R80q.out.cell 5, R80x.out.cell 0, R80x.out.cell 1, R80x.out.cell 2, R80x.out.cell 3, R80x.out.cell 4, R80x.out.cell 5⟩
        clear hK K
        refine nmL 63 18446744073709551615 ?_
        refine tkD 64 115 36893488147419103231 HBR ?_
        refine tkD 65 116 73786976294838206463 HBR ?_
        refine tkD 66 117 147573952589676412927 HBR ?_
        refine tkD 67 118 295147905179352825855 HBR ?_
        refine tkD 68 119 590295810358705651711 HBR ?_
        refine tkD 69 120 1180591620717411303423 HBR ?_
        refine tkD 70 121 2361183241434822606847 HBR ?_
        refine tkD 71 122 4722366482869645213695 HBR ?_
        refine tkD 73 124 14167099448608935641087 HBR ?_
        refine tkD 74 125 33056565380087516495871 HBR ?_
        refine tkD 75 126 70835497243044678205439 HBR ?_
        refine rdD (rs := [72]) HBR ?_
        refine (AllReadyH.cons rfl (fun K hK => ?_) AllReadyH.nil)
        go_simp
        (with_reducible refine (KR5.out w80 R80o.out).mono ?_)
        rintro e w81 ⟨v72, rfl, HV72, HC81⟩
        have R81q := Lib.hid (R80q.out.belowW HC81.out)
        have R81x := Lib.hid (R80x.out.belowW HC81.out)
        have R81o := Lib.hid (R80o.out.trans (HC81.out.mono R80o.out.size))
        have R81r := Lib.hid (HV72.out)
        go_wp2_with fail
        clear hHeld
        refine hK.out _ _ ?_ (fun hHeld => ?_)
        case refine_1 => exact ⟨R81q.out.cell 0, R81q.out.cell 1, R81q.out.cell 2, R81q.out.cell 3, R81q.out.cell 4, R81q.out.cell 5, R81x.out.cell 0, R81x.out.cell 1, R81x.out.cell 2, R81x.out.cell 3, R81x.out.cell 4, R81x.out.cell 5⟩
        clear hK K
        refine nmL 72 75557863725914323419135 ?_
        refine rdD (rs := [76]) HBR ?_
        refine (AllReadyH.cons rfl (fun K hK => ?_) AllReadyH.nil)
        go_simp
        (with_reducible refine (prod_any (varE [120]) (numE (qn, qd)) (⟨⟨2, 0, 0, ⟨#[120]⟩, 0⟩, none, 0, 0⟩) (⟨⟨1, qn, qd, ⟨#[]⟩, 0⟩, none, 0, 0⟩) w81 (KX.out w81) (KQ.out w81)).mono ?_)
        rintro e w82 ⟨z76, rfl, HZ76, HC82⟩
        have R82q := Lib.hid (R81q.out.belowW HC82.out)
        have R82x := Lib.hid (R81x.out.belowW HC82.out)
        have R82o := Lib.hid (R81o.out.trans (HC82.out.mono R81o.out.size))
        have R82r := Lib.hid (R81r.out.belowW HC82.out)
        have R82p := Lib.hid (HZ76.out)
        go_wp2_with fail
        clear hHeld
        refine hK.out _ _ ?_ (fun hHeld => ?_)
        case refine_1 => exact ⟨R82q.out.cell 0, R82q.out.cell 1, R82q.out.cell 2, R82q.out.cell 3, R82q.out.cell 4, R82q.out.cell 5, R82x.out.cell 0, R82x.out.cell 1, R82x.out.cell 2, R82x.out.cell 3, R82x.out.cell 4, R82x.out.cell 5⟩
        clear hK K
        refine nmL 76 151115727451828646838271 ?_
        refine rdD (rs := [77]) HBR ?_
        refine (AllReadyH.cons rfl (fun K hK => ?_) AllReadyH.nil)
        go_simp
        (with_reducible refine (same_any _ (opE 5 [varE [120], numE (qn, qd)]) (Nat.le_refl _) (opE 5 [varE [120], numE (qn, qd)]) v72 (z76) w82 R82r.out (R82p.out)).mono ?_)
        rintro e w83 ⟨b77, rfl, HE77, HC83⟩
        have R83q := Lib.hid (R82q.out.belowW HC83.out)
        have R83x := Lib.hid (R82x.out.belowW HC83.out)
        have R83o := Lib.hid (R82o.out.trans (HC83.out.mono R82o.out.size))
        have R83r := Lib.hid (R82r.out.belowW HC83.out)
        have R83p := Lib.hid (R82p.out.belowW HC83.out)
        obtain rfl : b77 = true := HE77.out.2 rfl
        go_wp2_with fail
        clear hHeld
        refine hK.out _ _ ?_ (fun hHeld => ?_)
        case refine_1 => exact ⟨R83q.out.cell 0, R83q.out.cell 1, R83q.out.cell 2, R83q.out.cell 3, R83q.out.cell 4, R83q.out.cell 5, R83x.out.cell 0, R83x.out.cell 1, R83x.out.cell 2, R83x.out.cell 3, R83x.out.cell 4, R83x.out.cell 5⟩
        clear hK K
        refine nmL 77 302231454903657293676543 ?_
        refine tkD 78 129 604462909807314587353087 HBR ?_
        refine tkD 79 130 1208925819614629174706175 HBR ?_
        refine tkD 80 131 2417851639229258349412351 HBR ?_
        refine tkD 81 132 4835703278458516698824703 HBR ?_
        refine tkD 82 133 9671406556917033397649407 HBR ?_
        refine tkD 83 134 19342813113834066795298815 HBR ?_
        refine tkD 84 135 38685626227668133590597631 HBR ?_
        refine tkD 85 136 77371252455336267181195263 HBR ?_
        refine tkD 86 137 154742504910672534362390527 HBR ?_
        refine tkD 88 139 464227514732017603087171583 HBR ?_
        refine tkD 89 140 1083197534374707740536733695 HBR ?_
        refine tkD 91 142 3559077612945468290334982143 HBR ?_
        refine tkD 92 143 8510837770086989389931479039 HBR ?_
        refine rdD (rs := [87]) HBR ?_
        refine (AllReadyH.cons rfl (fun K hK => ?_) AllReadyH.nil)
        go_simp
        (with_reducible refine (KR6.out w83 R83o.out).mono ?_)
        rintro e w84 ⟨v87, rfl, HV87, HC84⟩
        have R84q := Lib.hid (R83q.out.belowW HC84.out)
        have R84x := Lib.hid (R83x.out.belowW HC84.out)
        have R84o := Lib.hid (R83o.out.trans (HC84.out.mono R83o.out.size))
        have R84r := Lib.hid (HV87.out)
        go_wp2_with fail
        clear hHeld
        refine hK.out _ _ ?_ (fun hHeld => ?_)
        case refine_1 => exact ⟨R84q.out.cell 0, R84q.out.cell 1, R84q.out.cell 2, R84q.out.cell 3, R84q.out.cell 4, R84q.out.cell 5, R84x.out.cell 0, R84x.out.cell 1, R84x.out.cell 2, R84x.out.cell 3, R84x.out.cell 4, R84x.out.cell 5⟩
        clear hK K
        refine nmL 87 8665580274997661924293869567 ?_
        refine rdD (rs := [90]) HBR ?_
        refine (AllReadyH.cons rfl (fun K hK => ?_) AllReadyH.nil)
        go_simp
        (with_reducible refine (num14_any (1) (1) w84).mono ?_)
        rintro e w85 ⟨rfl, HC85⟩
        have R85q := Lib.hid (R84q.out.belowW HC85.out)
        have R85x := Lib.hid (R84x.out.belowW HC85.out)
        have R85o := Lib.hid (R84o.out.trans (HC85.out.mono R84o.out.size))
        have R85r := Lib.hid (R84r.out.belowW HC85.out)
        go_wp2_with fail
        clear hHeld
        refine hK.out _ _ ?_ (fun hHeld => ?_)
        case refine_1 => exact ⟨R85q.out.cell 0, R85q.out.cell 1, R85q.out.cell 2, R85q.out.cell 3, R85q.out.cell 4, R85q.out.cell 5, R85x.out.cell 0, R85x.out.cell 1, R85x.out.cell 2, R85x.out.cell 3, R85x.out.cell 4, R85x.out.cell 5⟩
        clear hK K
        refine nmL 90 9903520314283042199192993791 ?_
        refine rdD (rs := [93]) HBR ?_
        refine (AllReadyH.cons rfl (fun K hK => ?_) AllReadyH.nil)
        go_simp
        (with_reducible refine (num14_any ((b : Int)) (1) w85).mono ?_)
        rintro e w86 ⟨rfl, HC86⟩
        have R86q := Lib.hid (R85q.out.belowW HC86.out)
        have R86x := Lib.hid (R85x.out.belowW HC86.out)
        have R86o := Lib.hid (R85o.out.trans (HC86.out.mono R85o.out.size))
        have R86r := Lib.hid (R85r.out.belowW HC86.out)
        go_wp2_with fail
        clear hHeld
        refine hK.out _ _ ?_ (fun hHeld => ?_)
        case refine_1 => exact ⟨R86q.out.cell 0, R86q.out.cell 1, R86q.out.cell 2, R86q.out.cell 3, R86q.out.cell 4, R86q.out.cell 5, R86x.out.cell 0, R86x.out.cell 1, R86x.out.cell 2, R86x.out.cell 3, R86x.out.cell 4, R86x.out.cell 5⟩
        clear hK K
        refine nmL 93 19807040628566084398385987583 ?_
        refine rdD (rs := [94]) HBR ?_
        refine (AllReadyH.cons rfl (fun K hK => ?_) AllReadyH.nil)
        go_simp
        (with_reducible refine (quo_any (numE (1, 1)) (numE ((b : Int), 1)) (ndN 1 1) (ndN (b : Int) 1) w86 (K1.out w86) (KB.out w86)).mono ?_)
        rintro e w87 ⟨z94, rfl, HZ94, HC87⟩
        have R87q := Lib.hid (R86q.out.belowW HC87.out)
        have R87x := Lib.hid (R86x.out.belowW HC87.out)
        have R87o := Lib.hid (R86o.out.trans (HC87.out.mono R86o.out.size))
        have R87r := Lib.hid (R86r.out.belowW HC87.out)
        have R87p := Lib.hid (HZ94.out)
        go_wp2_with fail
        clear hHeld
        refine hK.out _ _ ?_ (fun hHeld => ?_)
        case refine_1 => exact ⟨R87q.out.cell 0, R87q.out.cell 1, R87q.out.cell 2, R87q.out.cell 3, R87q.out.cell 4, R87q.out.cell 5, R87x.out.cell 0, R87x.out.cell 1, R87x.out.cell 2, R87x.out.cell 3, R87x.out.cell 4, R87x.out.cell 5⟩
        clear hK K
        refine nmL 94 39614081257132168796771975167 ?_
        refine rdD (rs := [95]) HBR ?_
        refine (AllReadyH.cons rfl (fun K hK => ?_) AllReadyH.nil)
        go_simp
        (with_reducible refine (same_any _ (opE 6 [numE (1, 1), numE ((b : Int), 1)]) (Nat.le_refl _) (opE 6 [numE (1, 1), numE ((b : Int), 1)]) v87 (z94) w87 R87r.out (R87p.out)).mono ?_)
        rintro e w88 ⟨b95, rfl, HE95, HC88⟩
        have R88q := Lib.hid (R87q.out.belowW HC88.out)
        have R88x := Lib.hid (R87x.out.belowW HC88.out)
        have R88o := Lib.hid (R87o.out.trans (HC88.out.mono R87o.out.size))
        have R88r := Lib.hid (R87r.out.belowW HC88.out)
        have R88p := Lib.hid (R87p.out.belowW HC88.out)
        obtain rfl : b95 = true := HE95.out.2 rfl
        go_wp2_with fail
        clear hHeld
        refine hK.out _ _ ?_ (fun hHeld => ?_)
        case refine_1 => exact ⟨R88q.out.cell 0, R88q.out.cell 1, R88q.out.cell 2, R88q.out.cell 3, R88q.out.cell 4, R88q.out.cell 5, R88x.out.cell 0, R88x.out.cell 1, R88x.out.cell 2, R88x.out.cell 3, R88x.out.cell 4, R88x.out.cell 5⟩
        clear hK K
        refine nmL 95 79228162514264337593543950335 ?_
        refine tkD 96 147 158456325028528675187087900671 HBR ?_
        refine tkD 97 148 316912650057057350374175801343 HBR ?_
        refine tkD 98 149 633825300114114700748351602687 HBR ?_
        refine tkD 99 150 1267650600228229401496703205375 HBR ?_
        refine tkD 101 152 3802951800684688204490109616127 HBR ?_
        refine tkD 102 153 8873554201597605810476922437631 HBR ?_
        refine tkD 103 154 19014759003423441022450548080639 HBR ?_
        refine tkD 104 155 39297168607075111446397799366655 HBR ?_
        refine rdD (rs := [100]) HBR ?_
        refine (AllReadyH.cons rfl (fun K hK => ?_) AllReadyH.nil)
        go_simp
        (with_reducible refine (KR7.out w88 R88o.out).mono ?_)
        rintro e w89 ⟨v100, rfl, HV100, HC89⟩
        have R89q := Lib.hid (R88q.out.belowW HC89.out)
        have R89x := Lib.hid (R88x.out.belowW HC89.out)
        have R89o := Lib.hid (R88o.out.trans (HC89.out.mono R88o.out.size))
        have R89r := Lib.hid (HV100.out)
        go_wp2_with fail
        clear hHeld
        refine hK.out _ _ ?_ (fun hHeld => ?_)
        case refine_1 => exact ⟨R89q.out.cell 0, R89q.out.cell 1, R89q.out.cell 2, R89q.out.cell 3, R89q.out.cell 4, R89q.out.cell 5, R89x.out.cell 0, R89x.out.cell 1, R89x.out.cell 2, R89x.out.cell 3, R89x.out.cell 4, R89x.out.cell 5⟩
        clear hK K
        refine nmL 100 40564819207303340847894502572031 ?_
        refine rdD (rs := [105]) HBR ?_
        refine (AllReadyH.cons rfl (fun K hK => ?_) AllReadyH.nil)
        go_simp
        (with_reducible refine (lowest_any (2 * (b : Int) + 1) 2 w89).mono ?_)
        rintro e w90 ⟨rfl, hsame⟩
        rw [hsame]
        clear hsame
        go_wp2_with fail
        clear hHeld
        refine hK.out _ _ ?_ (fun hHeld => ?_)
        case refine_1 => exact ⟨R89q.out.cell 0, R89q.out.cell 1, R89q.out.cell 2, R89q.out.cell 3, R89q.out.cell 4, R89q.out.cell 5, R89x.out.cell 0, R89x.out.cell 1, R89x.out.cell 2, R89x.out.cell 3, R89x.out.cell 4, R89x.out.cell 5⟩
        clear hK K
        refine nmL 105 81129638414606681695789005144063 ?_
        refine tkD 106 157 162259276829213363391578010288127 HBR ?_
        refine tkD 107 158 324518553658426726783156020576255 HBR ?_
        refine rdD (rs := [108]) HBR ?_
        refine (AllReadyH.cons rfl (fun K hK => ?_) AllReadyH.nil)
        go_simp
        (with_reducible refine (num14_any (2 * (b : Int) + 1) (2) w89).mono ?_)
        rintro e w91 ⟨rfl, HC91⟩
        have R91q := Lib.hid (R89q.out.belowW HC91.out)
        have R91x := Lib.hid (R89x.out.belowW HC91.out)
        have R91o := Lib.hid (R89o.out.trans (HC91.out.mono R89o.out.size))
        have R91r := Lib.hid (R89r.out.belowW HC91.out)
        go_wp2_with fail
        clear hHeld
        refine hK.out _ _ ?_ (fun hHeld => ?_)
        case refine_1 => exact ⟨R91q.out.cell 0, R91q.out.cell 1, R91q.out.cell 2, R91q.out.cell 3, R91q.out.cell 4, R91q.out.cell 5, R91x.out.cell 0, R91x.out.cell 1, R91x.out.cell 2, R91x.out.cell 3, R91x.out.cell 4, R91x.out.cell 5⟩
        clear hK K
        refine nmL 108 649037107316853453566312041152511 ?_
        refine rdD (rs := [109]) HBR ?_
        refine (AllReadyH.cons rfl (fun K hK => ?_) AllReadyH.nil)
        go_simp
        (with_reducible refine (same_any _ (numE (((2 * b + 1 : Nat) : Int), 2)) (Nat.le_refl _) (numE (((2 * b + 1 : Nat) : Int), 2)) v100 (ndN (2 * (b : Int) + 1) 2) w91 R91r.out (KH.out w91)).mono ?_)
        rintro e w92 ⟨b109, rfl, HE109, HC92⟩
        have R92q := Lib.hid (R91q.out.belowW HC92.out)
        have R92x := Lib.hid (R91x.out.belowW HC92.out)
        have R92o := Lib.hid (R91o.out.trans (HC92.out.mono R91o.out.size))
        have R92r := Lib.hid (R91r.out.belowW HC92.out)
        obtain rfl : b109 = true := HE109.out.2 rfl
        go_wp2_with fail
        clear hHeld
        refine hK.out _ _ ?_ (fun hHeld => ?_)
        case refine_1 => exact ⟨R92q.out.cell 0, R92q.out.cell 1, R92q.out.cell 2, R92q.out.cell 3, R92q.out.cell 4, R92q.out.cell 5, R92x.out.cell 0, R92x.out.cell 1, R92x.out.cell 2, R92x.out.cell 3, R92x.out.cell 4, R92x.out.cell 5⟩
        clear hK K
        refine nmL 109 1298074214633706907132624082305023 ?_
        refine tkD 110 161 2596148429267413814265248164610047 HBR ?_
        refine tkD 111 4 5192296858534827628530496329220095 HBR ?_
        refine dnD HBR ?_
        go_wp2_with fail
        go_ret
        exact ⟨ret_bool (by simp), R92o⟩
    · have dv : ((v : Int) != 0) = true := by rw [bne_iff_ne]; omega
      have dv2 : ((v : Int) == 0) = false := by rw [beq_eq_false_iff_ne]; omega
      have em : (u : Int).tmod (v : Int) = ((u % v : Nat) : Int) := by
        rw [Int.tmod_eq_emod_of_nonneg (by omega)]
        rfl
      have hlt : u % v < v := Nat.mod_lt _ (by omega)
      go_wp2_with fail
      go_region
      go_wp2_with fail
      go_roundg (u % v)
      case measure => exact hlt
      case rel => exact ⟨v, u % v, rfl, by simp, rfl, by omega, by omega, Lib.hid (by rw [Nat.gcd_comm, ← Nat.gcd_rec, Nat.gcd_comm]; exact HGC.out), Lib.hid (below_drewN OR.out _)⟩
end Go.Proofs.YtkjoohnndobjeaaGreatDoor
