/-
  The walks of the reference's digits, number, Parse.
-/
import Derived.Test.YtnogfceojmnjiaaGreatDoorRaI
import Derived.Test.YtnogfceojmnjiaaGreatDoorRaE
set_option linter.unusedVariables false
namespace Go.Fl.Rt
theorem make_sgn (ng : Bool) (n d : Nat) (h : d ≠ 0) : make (if ng then -(n : Int) else n) (d : Int) = chkR ng n d := by
  rw [make_chk (by omega)]
  have hd : decide ((d : Int) < 0) = false := decide_eq_false (by omega)
  rw [hd]
  cases ng with
  | false =>
    have : decide ((n : Int) < 0) = false := decide_eq_false (by omega)
    simp only [Bool.false_eq_true, if_false]
    rw [this]
    rfl
  | true =>
    simp only [if_true]
    by_cases h0 : n = 0
    · subst h0
      unfold chkR
      simp
    · have : decide (-(n : Int) < 0) = true := decide_eq_true (by omega)
      rw [this]
      simp
theorem digs_take_ok {l : List UInt8} {k : Nat} (hk : k < l.length) (h : l.all isDig = true) : isDig l[k] = true := by
  rw [List.all_eq_true] at h
  exact h _ (List.getElem_mem hk)
end Go.Fl.Rt
namespace Go.Proofs.YtnogfceojmnjiaaGreatDoor
open Go.RowKit Go.Fl Go.Fl.Nm Go.Fl.Dy Go.Fl.Rt
set_option maxHeartbeats 1000000 in
theorem digits_r (s : ByteArray) (w : World) (hs : s.size ≤ 100000) :
    Calls Tryz.prog 57 #[.string s] w fun e w' => e = .returned (.bool (digs s.data.toList)) ∧ w = w' := by
  go_enter Tryz.func57, Tryz.ntmps57
  go_wp2
  go_loop [3] (fun i => ∃ k : Nat, k ≤ s.size ∧ i = .int .i64 k ∧ Hid ((s.data.toList.take k).all isDig = true)) (fun i => s.size - (intOf i).toNat)
  case atStart => exact ⟨0, Nat.zero_le _, rfl, Lib.hid (by simp)⟩
  case round =>
    obtain ⟨k, hk, rfl, HA⟩ := hrel
    by_cases hlt : k < s.size
    · by_cases hd : isDig s[k] = true
      · have HA2 := Lib.hid (show (s.data.toList.take (k + 1)).all isDig = true by rw [take_snoc s k hlt, List.all_append, HA.out]; simp [hd])
        have hd2 := hd
        unfold isDig at hd2
        simp at hd2
        have d1 : decide ((s[k].toNat : Int) < 48) = false := decide_eq_false (by omega)
        have d2 : decide ((57 : Int) < s[k].toNat) = false := decide_eq_false (by omega)
        clear hd hd2
        go_wp2
        go_round
        case rel => exact ⟨k + 1, by omega, by go_num, HA2⟩
        case measure => simp [intOf]; omega
      · have HR := Lib.hid (show digs s.data.toList = false by
          unfold digs
          rw [Bool.and_eq_false_iff]
          right
          rw [List.all_eq_false]
          exact ⟨s[k], List.getElem_mem (by simpa using hlt), hd⟩)
        have hd2 : s[k].toNat < 48 ∨ 57 < s[k].toNat := by
          unfold isDig at hd
          simp at hd
          omega
        by_cases h48 : s[k].toNat < 48
        · have d1 : decide ((s[k].toNat : Int) < 48) = true := decide_eq_true (by omega)
          clear hd hd2 h48
          go_wp2
          go_ret
          exact ⟨ret_bool HR.out.symm, rfl⟩
        · have d1 : decide ((s[k].toNat : Int) < 48) = false := decide_eq_false (by omega)
          have d2 : decide ((57 : Int) < s[k].toNat) = true := decide_eq_true (by omega)
          clear hd hd2 h48
          go_wp2
          go_ret
          exact ⟨ret_bool HR.out.symm, rfl⟩
    · have hall : s.data.toList.all isDig = true := by have := HA.out; rwa [take_all s k hlt] at this
      by_cases h0 : s.data.toList = []
      · have HR := Lib.hid (show digs s.data.toList = false by rw [h0]; rfl)
        have e1 : s.toList.isEmpty = true := by rw [bl_data, h0]; rfl
        have e2 : s.toList = [] := by rw [bl_data, h0]
        clear h0 hall
        go_wp2
        go_ret
        exact ⟨ret_bool HR.out.symm, rfl⟩
      · have HR := Lib.hid (show digs s.data.toList = true by unfold digs; rw [hall]; simp [h0])
        have e1 : s.toList.isEmpty = false := by rw [bl_data]; cases hh : s.data.toList with | nil => exact absurd hh h0 | cons x r => rfl
        clear h0 hall
        go_wp2
        go_ret
        exact ⟨ret_bool HR.out.symm, rfl⟩
set_option maxHeartbeats 1000000 in
theorem number_r (s : ByteArray) (w : World) (h : digs s.data.toList = true) (hl : s.data.toList.length ≤ 18) :
    Calls Tryz.prog 58 #[.string s] w fun e w' => e = .returned (.int .u64 (dval s.data.toList : Nat)) ∧ w = w' := by
  have hsz : s.size ≤ 18 := by rw [← length_data]; exact hl
  have HALL := Lib.hid (digs_all h)
  clear h hl
  go_enter Tryz.func58, Tryz.ntmps58
  go_wp2
  go_loop [3, 4] (fun n i => ∃ k : Nat, k ≤ s.size ∧ i = .int .i64 k ∧ n = .int .u64 (dval (s.data.toList.take k) : Nat)) (fun _ i => s.size - (intOf i).toNat)
  case atStart => exact ⟨0, Nat.zero_le _, rfl, rfl⟩
  case round =>
    obtain ⟨k, hk, rfl, rfl⟩ := hrel
    by_cases hlt : k < s.size
    · have hd : isDig s[k] = true := digs_take_ok (l := s.data.toList) (k := k) (by simpa using hlt) HALL.out
      unfold isDig at hd
      simp at hd
      have hv := dval_lt (s.data.toList.take k) (by
        rw [List.all_eq_true]; intro x hx; exact (List.all_eq_true.1 HALL.out) x (List.mem_of_mem_take hx))
      have hp := pow10_le (k := (s.data.toList.take k).length) (by rw [List.length_take, length_data]; omega)
      have HN := Lib.hid (show dval (s.data.toList.take (k + 1)) = 10 * dval (s.data.toList.take k) + (s[k].toNat - 48) by rw [take_snoc s k hlt]; simp [dval])
      obtain ⟨v, hvv⟩ : ∃ v, v = dval (s.data.toList.take k) := ⟨_, rfl⟩
      rw [← hvv] at hv HN ⊢
      have hv2 : v < 1000000000000000000 := by omega
      have s1 : IntKind.u64.wrap (10 * (v : Int)) = 10 * v := by rw [IntKind.wrap_u64]; omega
      have s2 : IntKind.u64.wrap (10 * (v : Int) + ((s[k].toNat : Int) - 48)) = 10 * v + ((s[k].toNat : Int) - 48) := by rw [IntKind.wrap_u64]; omega
      have hb1 : (48 : Int) ≤ s[k].toNat := by omega
      have hb2 : (s[k].toNat : Int) ≤ 57 := by omega
      clear hvv hv hp hd
      go_wp2
      go_round
      case rel => exact ⟨k + 1, by omega, by go_num, by rw [HN.out]; congr 1; omega⟩
      case measure => simp [intOf]; omega
    · go_wp2
      go_ret
      exact ⟨ret_int (by rw [take_all s k hlt]), rfl⟩

theorem read2_none {l rest : List UInt8} {ng : Bool} (hn : (l.head? == some 45) = ng) (hr : (if ng then l.tail else l) = rest) (h : rest.dropWhile plainB = []) :
    read2 l = if !digs rest then (0, 0, 3) else if 18 < rest.length then (0, 0, 5) else make (if ng then -(dval rest : Int) else (dval rest : Int)) 1 := by
  have ht : rest.takeWhile plainB = rest := by have := List.takeWhile_append_dropWhile (p := plainB) (l := rest); rw [h, List.append_nil] at this; exact this
  unfold read2
  simp only [hn, hr, h, ht]
  simp
theorem read2_point {l rest a b : List UInt8} {ng : Bool} (hn : (l.head? == some 45) = ng) (hr : (if ng then l.tail else l) = rest) (ha : rest.takeWhile plainB = a) (h : rest.dropWhile plainB = 46 :: b) :
    read2 l = if !digs a || !digs b then (0, 0, 3) else if 18 < a.length + b.length then (0, 0, 5) else make (if ng then -(dval (a ++ b) : Int) else (dval (a ++ b) : Int)) ((10 ^ b.length : Nat) : Int) := by
  unfold read2
  simp only [hn, hr, h, ha, List.tail_cons, List.head?_cons]
  cases digs a <;> cases digs b <;> simp
theorem read2_slash {l rest a b : List UInt8} {ng : Bool} (hn : (l.head? == some 45) = ng) (hr : (if ng then l.tail else l) = rest) (ha : rest.takeWhile plainB = a) (h : rest.dropWhile plainB = 47 :: b) :
    read2 l = if !digs a || !digs b then (0, 0, 3) else if 18 < max a.length b.length then (0, 0, 5) else make (if ng then -(dval a : Int) else (dval a : Int)) (dval b : Int) := by
  unfold read2
  simp only [hn, hr, h, ha, List.tail_cons, List.head?_cons]
  cases digs a <;> cases digs b <;> simp
set_option maxHeartbeats 8000000 in
set_option maxRecDepth 100000 in
theorem parse_r (s : ByteArray) (w : World) (hs : s.size ≤ 1000) :
    Calls Tryz.prog 18 #[.string s] w (RtE (read2 s.data.toList) w) := by
  obtain ⟨ng, hng⟩ : ∃ b : Bool, (s.data.toList.head? == some 45) = b := ⟨_, rfl⟩
  obtain ⟨rest, hrest⟩ : ∃ r : List UInt8, (if ng then s.data.toList.tail else s.data.toList) = r := ⟨_, rfl⟩
  have HN := Lib.hid hng
  have HR := Lib.hid hrest
  have hrl : rest.length ≤ 1000 := by
    have : s.data.toList.length ≤ 1000 := by rw [length_data]; exact hs
    rw [← hrest]; split
    · simp at this ⊢; omega
    · exact this
  go_enter Tryz.func18, Tryz.ntmps18
  go_upto_region 1 with (fail)
  obtain ⟨w1, hw⟩ : ∃ z9 : World, z9 = (w.alloc (.cells #[.int .i64 0, .int .i64 0] 23)) := ⟨_, rfl⟩
  have HB1 := Lib.hid (show Below w.heap.size w w1 by rw [hw]; exact below_a1 _ _)
  have F1r := Lib.hid (show Blk w1 (w.heap.size) 23 #[.int .i64 0, .int .i64 0] by rw [hw]; exact Blk.new _ _ _)
  rw [← hw]
  clear hw
  go_cut [4] (fun s4 wx => s4 = .bool ng ∧ wx = w1)
  case first =>
    by_cases h0 : s.data.toList = []
    · have e1 : s.toList.isEmpty = true := by rw [bl_data, h0]; rfl
      have e2 : s.toList = [] := by rw [bl_data, h0]
      have hgg : ng = false := by rw [← hng, h0]; rfl
      subst hgg
      clear h0 hng hrest
      go_wp2_with fail
      go_meet
      exact ⟨rfl, rfl⟩
    · have e1 : s.toList.isEmpty = false := by rw [bl_data]; cases hh : s.data.toList with | nil => exact absurd hh h0 | cons x r => rfl
      have hpos : 0 < s.size := by rw [← length_data]; exact List.length_pos_iff.2 h0
      have hh : s.data.toList.head? = some s[0] := by rw [List.head?_eq_getElem?, List.getElem?_eq_getElem (by simpa using hpos)]; rfl
      have hgg : ((s[0].toNat : Int) == 45) = ng := by
        rw [← hng, hh, Bool.eq_iff_iff]
        simp
        constructor
        · intro h; exact UInt8.toNat_inj.1 (by have h45 : (45 : UInt8).toNat = 45 := rfl; omega)
        · intro h; rw [h]; rfl
      clear h0 hng hrest hh
      go_wp2_with fail
      go_meet
      exact ⟨rfl, rfl⟩
  case rest =>
    obtain ⟨rfl, hwc⟩ := hcut
    rw [hwc]
    clear hwc
    go_upto_if 18 with (fail)
    go_cut [0] (fun s0 wx => ∃ R : ByteArray, s0 = .string R ∧ Hid (R.data.toList = rest) ∧ wx = w1)
    case first =>
      cases ng with
      | true =>
        have hpos : 0 < s.size := by
          rcases Nat.eq_zero_or_pos s.size with h | h
          · have h0 : s.data.toList = [] := List.eq_nil_of_length_eq_zero (by rw [length_data]; exact h)
            rw [h0] at hng; cases hng
          · exact h
        have HE := Lib.hid (show (s.extract 1 s.size).data.toList = rest by rw [Lib.extract_to_end, ← hrest]; simp)
        have p1 : (1 : Int) ≤ s.size := by omega
        have p2 : 1 ≤ s.size := by omega
        clear hng hrest hpos
        go_wp2_with fail
        go_meet
        exact ⟨_, rfl, HE, rfl⟩
      | false =>
        have HE := Lib.hid (show s.data.toList = rest by rw [← hrest]; simp)
        clear hng hrest
        go_wp2_with fail
        go_meet
        exact ⟨_, rfl, HE, rfl⟩
    case rest =>
      obtain ⟨R, rfl, HRL, hwc⟩ := hcut
      rw [hwc]
      clear hwc
      clear hng hrest
      have hRs : R.size ≤ 1000 := by rw [← length_data, HRL.out]; exact hrl
      go_wp2_with fail
      go_loop [5] (fun i => ∃ k : Nat, k ≤ R.size ∧ i = .int .i64 k ∧ Hid ((R.data.toList.take k).all plainB = true)) (fun i => R.size - (intOf i).toNat)
      case atStart => exact ⟨0, Nat.zero_le _, rfl, Lib.hid (by simp)⟩
      case round =>
        obtain ⟨k, hk, rfl, HA⟩ := hrel
        by_cases hlt : k < R.size
        · by_cases hp : plainB R[k] = true
          · have HA2 := Lib.hid (show (R.data.toList.take (k + 1)).all plainB = true by rw [take_snoc R k hlt, List.all_append, HA.out]; simp [hp])
            unfold plainB at hp
            simp at hp
            have h46 : R[k].toNat ≠ 46 := fun e => hp.1 (UInt8.toNat_inj.1 e)
            have h47 : R[k].toNat ≠ 47 := fun e => hp.2 (UInt8.toNat_inj.1 e)
            have d1 : ((R[k].toNat : Int) != 46) = true := by rw [bne_iff_ne]; omega
            have d2 : ((R[k].toNat : Int) != 47) = true := by rw [bne_iff_ne]; omega
            clear hp
            go_wp2
            go_round
            case rel => exact ⟨k + 1, by omega, by go_num, HA2⟩
            case measure => simp [intOf]; omega
          · have hc : R[k] = 46 ∨ R[k] = 47 := by
              unfold plainB at hp
              simp at hp
              by_cases h : R[k] = 46
              · exact .inl h
              · exact .inr (hp h)
            have hsp : rest = R.data.toList.take k ++ R[k] :: R.data.toList.drop (k + 1) := by
              rw [← HRL.out, ← drop_cons R k hlt, List.take_append_drop]
            have htw := tw_stop (p := plainB) (a := R.data.toList.take k) (b := R.data.toList.drop (k + 1)) (c := R[k]) (fun x hx => List.all_eq_true.1 HA.out x hx) (by simpa using hp)
            rw [← hsp] at htw
            have HAx := Lib.hid (show (R.extract 0 k).data.toList = R.data.toList.take k by rw [Lib.extract_data]; simp)
            have HBx := Lib.hid (show (R.extract (k + 1) R.size).data.toList = R.data.toList.drop (k + 1) by rw [Lib.extract_to_end])
            obtain ⟨a, ha⟩ : ∃ a, a = R.data.toList.take k := ⟨_, rfl⟩
            obtain ⟨b, hb⟩ : ∃ b, b = R.data.toList.drop (k + 1) := ⟨_, rfl⟩
            rw [← ha] at HAx htw
            rw [← hb] at HBx htw
            obtain ⟨A, hA⟩ : ∃ z : ByteArray, z = R.extract 0 k := ⟨_, rfl⟩
            obtain ⟨B, hB⟩ : ∃ z : ByteArray, z = R.extract (k + 1) R.size := ⟨_, rfl⟩
            rw [← hA] at HAx
            rw [← hB] at HBx
            have hsA : A.size = a.length := by rw [← length_data, HAx.out]
            have hsB : B.size = b.length := by rw [← length_data, HBx.out]
            have hla : a.length ≤ 1000 := by rw [ha, List.length_take, length_data]; omega
            have hlb : b.length ≤ 1000 := by rw [hb, List.length_drop, length_data]; omega
            have hAm : A.size ≤ 1000 := by omega
            have hBm : B.size ≤ 1000 := by omega
            have HSA := Lib.hid hsA
            have HSB := Lib.hid hsB
            have HTW := Lib.hid htw
            have eA : R.extract 0 k = A := hA.symm
            have eB : R.extract (k + 1) R.size = B := hB.symm
            have s1 : IntKind.i64.wrap ((k : Int) + 1) = k + 1 := IntWalk.i64_in _ (by omega)
            have s2 : ((k : Int) + 1).toNat = k + 1 := by omega
            have p0 : (0 : Int) ≤ k := by omega
            have p1 : (0 : Int) ≤ (k : Int) + 1 := by omega
            have p2 : (k : Int) ≤ R.size := by omega
            have p3 : (k : Int) + 1 ≤ R.size := by omega
            have p4 : k ≤ R.size := by omega
            have p5 : k + 1 ≤ R.size := by omega
            clear hp hsp htw ha hb hA hB hsA hsB hla hlb
            rcases hc with hc | hc
            · have HRD := Lib.hid (read2_point HN.out HR.out HTW.out.1 (by rw [HTW.out.2, hc]))
              have hcn : R[k].toNat = 46 := by rw [hc]; rfl
              have d1 : ((R[k].toNat : Int) != 46) = false := by simp [hcn]
              have d3 : ((R[k].toNat : Int) != 0) = true := by rw [bne_iff_ne]; omega
              have d4 : ((R[k].toNat : Int) == 47) = false := by rw [beq_eq_false_iff_ne]; omega
              clear hc
              go_wp2_with fail
              go_quiet (fail)
              rename_i nq
              obtain ⟨w2, hw⟩ : ∃ z9 : World, z9 = w1.drewN nq := ⟨_, rfl⟩
              have HB2 := Lib.hid (show Below w1.heap.size w1 w2 by rw [hw]; exact below_drewN (Below.refl _ _) _)
              rw [← hw]
              clear hw
              have F2r := Lib.hid (F1r.out.belowW HB2.out)
              have HL2 := Lib.hid (HB1.out.trans (HB2.out.mono HB1.out.size))
              go_wp2_with fail
              cases da : digs a with
              | false =>
                have DA := Lib.hid da
                clear da
                refine (digits_r A w2 (by omega)).mono ?_
                rw [HAx.out, DA.out]
                rintro e w' ⟨rfl, rfl⟩
                have pr0 : (w2).cell? ⟨w.heap.size, 0, none⟩ = some (.int .i64 0) := F2r.out.cell 0
                have fr0 : (w2).frozen? ⟨w.heap.size, 0, none⟩ = false := F2r.out.frozen 0
                have pr1 : (w2).cell? ⟨w.heap.size, 1, none⟩ = some (.int .i64 0) := F2r.out.cell 1
                have fr1 : (w2).frozen? ⟨w.heap.size, 1, none⟩ = false := F2r.out.frozen 1
                go_wp2_with fail
                refine bodyPost_ret (v := .tuple #[.agg #[.int .i64 0, .int .i64 0], .int .i64 3]) (by simp [results, Tryz.results18, go_sem, pr0, pr1]) rfl ?_
                rw [show read2 s.data.toList = (0, 0, 3) from HRD.out.trans (by rw [DA.out]; rfl)]
                exact ⟨rfl, Lib.hid (store2_below HL2.out F2r.out _ _ (Nat.le_refl _))⟩
              | true =>
                have DA := Lib.hid da
                clear da
                refine (digits_r A w2 (by omega)).mono ?_
                rw [HAx.out, DA.out]
                rintro e w' ⟨rfl, rfl⟩
                go_wp2_with fail
                cases db : digs b with
                | false =>
                  have DB := Lib.hid db
                  clear db
                  refine (digits_r B w2 (by omega)).mono ?_
                  rw [HBx.out, DB.out]
                  rintro e w' ⟨rfl, rfl⟩
                  have pr0 : (w2).cell? ⟨w.heap.size, 0, none⟩ = some (.int .i64 0) := F2r.out.cell 0
                  have fr0 : (w2).frozen? ⟨w.heap.size, 0, none⟩ = false := F2r.out.frozen 0
                  have pr1 : (w2).cell? ⟨w.heap.size, 1, none⟩ = some (.int .i64 0) := F2r.out.cell 1
                  have fr1 : (w2).frozen? ⟨w.heap.size, 1, none⟩ = false := F2r.out.frozen 1
                  go_wp2_with fail
                  refine bodyPost_ret (v := .tuple #[.agg #[.int .i64 0, .int .i64 0], .int .i64 3]) (by simp [results, Tryz.results18, go_sem, pr0, pr1]) rfl ?_
                  rw [show read2 s.data.toList = (0, 0, 3) from HRD.out.trans (by rw [DA.out, DB.out]; rfl)]
                  exact ⟨rfl, Lib.hid (store2_below HL2.out F2r.out _ _ (Nat.le_refl _))⟩
                | true =>
                  have DB := Lib.hid db
                  clear db
                  refine (digits_r B w2 (by omega)).mono ?_
                  rw [HBx.out, DB.out]
                  rintro e w' ⟨rfl, rfl⟩
                  by_cases hbig : 18 < A.size + B.size
                  · have db : decide ((18 : Int) < (A.size : Int) + B.size) = true := decide_eq_true (by omega)
                    have HB9 := Lib.hid (show 18 < a.length + b.length by rw [← HSA.out, ← HSB.out]; exact hbig)
                    clear hbig
                    have pr0 : (w2).cell? ⟨w.heap.size, 0, none⟩ = some (.int .i64 0) := F2r.out.cell 0
                    have fr0 : (w2).frozen? ⟨w.heap.size, 0, none⟩ = false := F2r.out.frozen 0
                    have pr1 : (w2).cell? ⟨w.heap.size, 1, none⟩ = some (.int .i64 0) := F2r.out.cell 1
                    have fr1 : (w2).frozen? ⟨w.heap.size, 1, none⟩ = false := F2r.out.frozen 1
                    go_wp2_with fail
                    refine bodyPost_ret (v := .tuple #[.agg #[.int .i64 0, .int .i64 0], .int .i64 5]) (by simp [results, Tryz.results18, go_sem, pr0, pr1]) rfl ?_
                    rw [show read2 s.data.toList = (0, 0, 5) from HRD.out.trans (by rw [DA.out, DB.out, if_pos HB9.out]; rfl)]
                    exact ⟨rfl, Lib.hid (store2_below HL2.out F2r.out _ _ (Nat.le_refl _))⟩
                  · have db : decide ((18 : Int) < (A.size : Int) + B.size) = false := decide_eq_false (by omega)
                    have HB9 := Lib.hid (show ¬ 18 < a.length + b.length by rw [← HSA.out, ← HSB.out]; exact hbig)
                    have HAB2 := Lib.hid (show (A ++ B).data.toList = a ++ b by rw [data_append, HAx.out, HBx.out])
                    have HDG := Lib.hid (show digs (A ++ B).data.toList = true by rw [HAB2.out]; exact digs_append DA.out (digs_all DB.out))
                    have HLN := Lib.hid (show (A ++ B).data.toList.length ≤ 18 by rw [HAB2.out, List.length_append]; have := HB9.out; omega)
                    obtain ⟨V, hV⟩ : ∃ V : Nat, V = dval (a ++ b) := ⟨_, rfl⟩
                    have hVb : V < 1000000000000000000 := by
                      have h1 := dval_lt (a ++ b) (by rw [List.all_append, digs_all DA.out, digs_all DB.out]; rfl)
                      have h2 := pow10_le (show (a ++ b).length ≤ 18 by rw [List.length_append]; have := HB9.out; omega)
                      omega
                    have HVV := Lib.hid hV.symm
                    clear hV
                    go_wp2_with fail
                    go_loop [9, 10] (fun dv i => ∃ j : Nat, j ≤ B.size ∧ i = .int .i64 j ∧ dv = .int .u64 (10 ^ j : Nat)) (fun _ i => B.size - (intOf i).toNat)
                    case atStart => exact ⟨0, Nat.zero_le _, rfl, rfl⟩
                    case round =>
                      obtain ⟨j, hj, rfl, rfl⟩ := hrel
                      by_cases hjl : j < B.size
                      · have hpw := pow10_le (show j + 1 ≤ 18 by omega)
                        have HPW := Lib.hid (show (10 ^ (j + 1) : Nat) = 10 ^ j * 10 from Nat.pow_succ 10 j)
                        obtain ⟨z, hz⟩ : ∃ z : Nat, z = 10 ^ j := ⟨_, rfl⟩
                        rw [Nat.pow_succ, ← hz] at hpw
                        rw [← hz]
                        have HZ := Lib.hid hz
                        have sz : IntKind.u64.wrap (10 * (z : Int)) = 10 * z := by rw [IntKind.wrap_u64]; omega
                        clear hz
                        go_wp2
                        go_round
                        case rel => exact ⟨j + 1, by omega, by go_num, by rw [HPW.out, ← HZ.out]; congr 1; omega⟩
                        case measure => simp [intOf]; omega
                      · obtain rfl : j = B.size := by omega
                        have hpw := pow10_le (show B.size ≤ 18 by omega)
                        obtain ⟨D9, hD9⟩ : ∃ z : Nat, z = 10 ^ B.size := ⟨_, rfl⟩
                        have hD0 : D9 ≠ 0 := by rw [hD9]; exact Nat.pos_iff_ne_zero.1 (Nat.pow_pos (by omega))
                        rw [← hD9] at hpw ⊢
                        have HD9 := Lib.hid hD9
                        have HD0 := Lib.hid hD0
                        clear hD9 hD0
                        go_wp2_with fail
                        refine (number_r (A ++ B) w2 HDG.out HLN.out).mono ?_
                        rw [HAB2.out, HVV.out]
                        rintro e w' ⟨rfl, rfl⟩
                        go_wp2_with fail
                        refine (checkedR_any ng V D9 w2 (by omega) (by omega) HD0.out).mono ?_
                        rintro e w3 ⟨rfl, HB3⟩
                        have F3r := Lib.hid (F2r.out.belowW HB3.out)
                        have HL3 := Lib.hid (HL2.out.trans (HB3.out.mono HL2.out.size))
                        have pr0 : (w3).cell? ⟨w.heap.size, 0, none⟩ = some (.int .i64 0) := F3r.out.cell 0
                        have fr0 : (w3).frozen? ⟨w.heap.size, 0, none⟩ = false := F3r.out.frozen 0
                        have pr1 : (w3).cell? ⟨w.heap.size, 1, none⟩ = some (.int .i64 0) := F3r.out.cell 1
                        have fr1 : (w3).frozen? ⟨w.heap.size, 1, none⟩ = false := F3r.out.frozen 1
                        go_wp2_with fail
                        refine bodyPost_ret (v := .tuple #[.agg #[.int .i64 (chkR ng V D9).1, .int .i64 (chkR ng V D9).2.1], .int .i64 (chkR ng V D9).2.2]) (by simp [results, Tryz.results18, go_sem, pr0, pr1]) rfl ?_
                        rw [show read2 s.data.toList = chkR ng V D9 from HRD.out.trans (by rw [DA.out, DB.out]; simp only [Bool.not_true, Bool.or_self, Bool.false_eq_true, if_false]; rw [if_neg HB9.out, HVV.out, ← HSB.out, ← HD9.out]; exact make_sgn ng V D9 HD0.out)]
                        exact ⟨rfl, Lib.hid (store2_below HL3.out F3r.out _ _ (Nat.le_refl _))⟩
            · have HRD := Lib.hid (read2_slash HN.out HR.out HTW.out.1 (by rw [HTW.out.2, hc]))
              have hcn : R[k].toNat = 47 := by rw [hc]; rfl
              have d1 : ((R[k].toNat : Int) != 46) = true := by simp [hcn]
              have d2 : ((R[k].toNat : Int) != 47) = false := by simp [hcn]
              have d3 : ((R[k].toNat : Int) != 0) = true := by rw [bne_iff_ne]; omega
              have d4 : ((R[k].toNat : Int) == 47) = true := by simp [hcn]
              clear hc
              go_wp2_with fail
              go_quiet (fail)
              rename_i nq
              obtain ⟨w2, hw⟩ : ∃ z9 : World, z9 = w1.drewN nq := ⟨_, rfl⟩
              have HB2 := Lib.hid (show Below w1.heap.size w1 w2 by rw [hw]; exact below_drewN (Below.refl _ _) _)
              rw [← hw]
              clear hw
              have F2r := Lib.hid (F1r.out.belowW HB2.out)
              have HL2 := Lib.hid (HB1.out.trans (HB2.out.mono HB1.out.size))
              go_wp2_with fail
              cases da : digs a with
              | false =>
                have DA := Lib.hid da
                clear da
                refine (digits_r A w2 (by omega)).mono ?_
                rw [HAx.out, DA.out]
                rintro e w' ⟨rfl, rfl⟩
                have pr0 : (w2).cell? ⟨w.heap.size, 0, none⟩ = some (.int .i64 0) := F2r.out.cell 0
                have fr0 : (w2).frozen? ⟨w.heap.size, 0, none⟩ = false := F2r.out.frozen 0
                have pr1 : (w2).cell? ⟨w.heap.size, 1, none⟩ = some (.int .i64 0) := F2r.out.cell 1
                have fr1 : (w2).frozen? ⟨w.heap.size, 1, none⟩ = false := F2r.out.frozen 1
                go_wp2_with fail
                refine bodyPost_ret (v := .tuple #[.agg #[.int .i64 0, .int .i64 0], .int .i64 3]) (by simp [results, Tryz.results18, go_sem, pr0, pr1]) rfl ?_
                rw [show read2 s.data.toList = (0, 0, 3) from HRD.out.trans (by rw [DA.out]; rfl)]
                exact ⟨rfl, Lib.hid (store2_below HL2.out F2r.out _ _ (Nat.le_refl _))⟩
              | true =>
                have DA := Lib.hid da
                clear da
                refine (digits_r A w2 (by omega)).mono ?_
                rw [HAx.out, DA.out]
                rintro e w' ⟨rfl, rfl⟩
                go_wp2_with fail
                cases db : digs b with
                | false =>
                  have DB := Lib.hid db
                  clear db
                  refine (digits_r B w2 (by omega)).mono ?_
                  rw [HBx.out, DB.out]
                  rintro e w' ⟨rfl, rfl⟩
                  have pr0 : (w2).cell? ⟨w.heap.size, 0, none⟩ = some (.int .i64 0) := F2r.out.cell 0
                  have fr0 : (w2).frozen? ⟨w.heap.size, 0, none⟩ = false := F2r.out.frozen 0
                  have pr1 : (w2).cell? ⟨w.heap.size, 1, none⟩ = some (.int .i64 0) := F2r.out.cell 1
                  have fr1 : (w2).frozen? ⟨w.heap.size, 1, none⟩ = false := F2r.out.frozen 1
                  go_wp2_with fail
                  refine bodyPost_ret (v := .tuple #[.agg #[.int .i64 0, .int .i64 0], .int .i64 3]) (by simp [results, Tryz.results18, go_sem, pr0, pr1]) rfl ?_
                  rw [show read2 s.data.toList = (0, 0, 3) from HRD.out.trans (by rw [DA.out, DB.out]; rfl)]
                  exact ⟨rfl, Lib.hid (store2_below HL2.out F2r.out _ _ (Nat.le_refl _))⟩
                | true =>
                  have DB := Lib.hid db
                  clear db
                  refine (digits_r B w2 (by omega)).mono ?_
                  rw [HBx.out, DB.out]
                  rintro e w' ⟨rfl, rfl⟩
                  obtain ⟨M9, hM9⟩ : ∃ z : Nat, z = max A.size B.size := ⟨_, rfl⟩
                  have hmx : max (A.size : Int) (B.size : Int) = (M9 : Int) := by omega
                  by_cases hbig : 18 < M9
                  · have db : decide ((18 : Int) < (M9 : Int)) = true := decide_eq_true (by omega)
                    have HB9 := Lib.hid (show 18 < max a.length b.length by rw [← HSA.out, ← HSB.out]; omega)
                    clear hbig hM9
                    have pr0 : (w2).cell? ⟨w.heap.size, 0, none⟩ = some (.int .i64 0) := F2r.out.cell 0
                    have fr0 : (w2).frozen? ⟨w.heap.size, 0, none⟩ = false := F2r.out.frozen 0
                    have pr1 : (w2).cell? ⟨w.heap.size, 1, none⟩ = some (.int .i64 0) := F2r.out.cell 1
                    have fr1 : (w2).frozen? ⟨w.heap.size, 1, none⟩ = false := F2r.out.frozen 1
                    go_wp2_with fail
                    refine bodyPost_ret (v := .tuple #[.agg #[.int .i64 0, .int .i64 0], .int .i64 5]) (by simp [results, Tryz.results18, go_sem, pr0, pr1]) rfl ?_
                    rw [show read2 s.data.toList = (0, 0, 5) from HRD.out.trans (by rw [DA.out, DB.out, if_pos HB9.out]; rfl)]
                    exact ⟨rfl, Lib.hid (store2_below HL2.out F2r.out _ _ (Nat.le_refl _))⟩
                  · have db : decide ((18 : Int) < (M9 : Int)) = false := decide_eq_false (by omega)
                    have HB9 := Lib.hid (show ¬ 18 < max a.length b.length by rw [← HSA.out, ← HSB.out]; omega)
                    have HlA := Lib.hid (show A.data.toList.length ≤ 18 by rw [length_data]; omega)
                    have HlB := Lib.hid (show B.data.toList.length ≤ 18 by rw [length_data]; omega)
                    clear hbig hM9
                    obtain ⟨V, hV⟩ : ∃ V : Nat, V = dval a := ⟨_, rfl⟩
                    obtain ⟨D9, hD⟩ : ∃ V : Nat, V = dval b := ⟨_, rfl⟩
                    have hVb : V < 1000000000000000000 := by
                      have h1 := dval_lt a (digs_all DA.out)
                      have h2 := pow10_le (show a.length ≤ 18 by have := HB9.out; omega)
                      omega
                    have hDb : D9 < 1000000000000000000 := by
                      have h1 := dval_lt b (digs_all DB.out)
                      have h2 := pow10_le (show b.length ≤ 18 by have := HB9.out; omega)
                      omega
                    have HVV := Lib.hid hV.symm
                    have HDD := Lib.hid hD.symm
                    clear hV hD
                    go_wp2_with fail
                    refine (number_r B w2 (by rw [HBx.out]; exact DB.out) HlB.out).mono ?_
                    rw [HBx.out, HDD.out]
                    rintro e w' ⟨rfl, rfl⟩
                    by_cases hz : D9 = 0
                    · have dz : ((D9 : Int) == 0) = true := by simp [hz]
                      have HZ := Lib.hid hz
                      clear hz
                      have pr0 : (w2).cell? ⟨w.heap.size, 0, none⟩ = some (.int .i64 0) := F2r.out.cell 0
                      have fr0 : (w2).frozen? ⟨w.heap.size, 0, none⟩ = false := F2r.out.frozen 0
                      have pr1 : (w2).cell? ⟨w.heap.size, 1, none⟩ = some (.int .i64 0) := F2r.out.cell 1
                      have fr1 : (w2).frozen? ⟨w.heap.size, 1, none⟩ = false := F2r.out.frozen 1
                      go_wp2_with fail
                      refine bodyPost_ret (v := .tuple #[.agg #[.int .i64 0, .int .i64 0], .int .i64 10]) (by simp [results, Tryz.results18, go_sem, pr0, pr1]) rfl ?_
                      rw [show read2 s.data.toList = (0, 0, 10) from HRD.out.trans (by rw [DA.out, DB.out]; simp only [Bool.not_true, Bool.or_self, Bool.false_eq_true, if_false]; rw [if_neg HB9.out, HVV.out, HDD.out]; rw [HZ.out]; unfold make; rw [if_pos (by rfl)])]
                      exact ⟨rfl, Lib.hid (store2_below HL2.out F2r.out _ _ (Nat.le_refl _))⟩
                    · have dz : ((D9 : Int) == 0) = false := by rw [beq_eq_false_iff_ne]; omega
                      have HZ := Lib.hid hz
                      clear hz
                      go_wp2_with fail
                      refine (number_r A w2 (by rw [HAx.out]; exact DA.out) HlA.out).mono ?_
                      rw [HAx.out, HVV.out]
                      rintro e w' ⟨rfl, rfl⟩
                      go_wp2_with fail
                      refine (number_r B w2 (by rw [HBx.out]; exact DB.out) HlB.out).mono ?_
                      rw [HBx.out, HDD.out]
                      rintro e w' ⟨rfl, rfl⟩
                      go_wp2_with fail
                      refine (checkedR_any ng V D9 w2 (by omega) (by omega) HZ.out).mono ?_
                      rintro e w3 ⟨rfl, HB3⟩
                      have F3r := Lib.hid (F2r.out.belowW HB3.out)
                      have HL3 := Lib.hid (HL2.out.trans (HB3.out.mono HL2.out.size))
                      have pr0 : (w3).cell? ⟨w.heap.size, 0, none⟩ = some (.int .i64 0) := F3r.out.cell 0
                      have fr0 : (w3).frozen? ⟨w.heap.size, 0, none⟩ = false := F3r.out.frozen 0
                      have pr1 : (w3).cell? ⟨w.heap.size, 1, none⟩ = some (.int .i64 0) := F3r.out.cell 1
                      have fr1 : (w3).frozen? ⟨w.heap.size, 1, none⟩ = false := F3r.out.frozen 1
                      go_wp2_with fail
                      refine bodyPost_ret (v := .tuple #[.agg #[.int .i64 (chkR ng V D9).1, .int .i64 (chkR ng V D9).2.1], .int .i64 (chkR ng V D9).2.2]) (by simp [results, Tryz.results18, go_sem, pr0, pr1]) rfl ?_
                      rw [show read2 s.data.toList = chkR ng V D9 from HRD.out.trans (by rw [DA.out, DB.out]; simp only [Bool.not_true, Bool.or_self, Bool.false_eq_true, if_false]; rw [if_neg HB9.out, HVV.out, HDD.out]; exact make_sgn ng V D9 HZ.out)]
                      exact ⟨rfl, Lib.hid (store2_below HL3.out F3r.out _ _ (Nat.le_refl _))⟩
        · have hkk : k = R.size := by omega
          subst hkk
          have hall : rest.all plainB = true := by have := HA.out; rw [take_all R R.size hlt, HRL.out] at this; exact this
          have htw := tw_all (p := plainB) (l := rest) (List.all_eq_true.1 hall)
          have HRD := Lib.hid (read2_none HN.out HR.out htw.2)
          have HAx := Lib.hid (show (R.extract 0 R.size).data.toList = rest by rw [Lib.extract_data, HRL.out]; simp; rw [← length_data, HRL.out]; simp)
          obtain ⟨A, hA⟩ : ∃ z : ByteArray, z = R.extract 0 R.size := ⟨_, rfl⟩
          rw [← hA] at HAx
          have hAm : A.size ≤ 1000 := by rw [← length_data, HAx.out]; exact hrl
          have HSA := Lib.hid (show A.size = rest.length by rw [← length_data, HAx.out])
          have eA : R.extract 0 R.size = A := hA.symm
          have p0 : (0 : Int) ≤ R.size := by omega
          clear hall htw hA
          obtain ⟨E, hE⟩ : ∃ E : ByteArray, E = ⟨#[]⟩ := ⟨_, rfl⟩
          have hE0 : E.size ≤ 0 := by rw [hE]; exact Nat.le_refl _
          have HEE := Lib.hid hE
          clear hE
          go_upto_region 10 with (fail)
          rw [← HEE.out]
          go_wp2_with fail
          cases da : digs rest with
          | false =>
            have DA := Lib.hid da
            clear da
            refine (digits_r A w1 (by omega)).mono ?_
            rw [HAx.out, DA.out]
            rintro e w' ⟨rfl, rfl⟩
            have pr0 : (w1).cell? ⟨w.heap.size, 0, none⟩ = some (.int .i64 0) := F1r.out.cell 0
            have fr0 : (w1).frozen? ⟨w.heap.size, 0, none⟩ = false := F1r.out.frozen 0
            have pr1 : (w1).cell? ⟨w.heap.size, 1, none⟩ = some (.int .i64 0) := F1r.out.cell 1
            have fr1 : (w1).frozen? ⟨w.heap.size, 1, none⟩ = false := F1r.out.frozen 1
            go_wp2_with fail
            refine bodyPost_ret (v := .tuple #[.agg #[.int .i64 0, .int .i64 0], .int .i64 3]) (by simp [results, Tryz.results18, go_sem, pr0, pr1]) rfl ?_
            rw [show read2 s.data.toList = (0, 0, 3) from HRD.out.trans (by rw [DA.out]; rfl)]
            exact ⟨rfl, Lib.hid (store2_below HB1.out F1r.out _ _ (Nat.le_refl _))⟩
          | true =>
            have DA := Lib.hid da
            clear da
            refine (digits_r A w1 (by omega)).mono ?_
            rw [HAx.out, DA.out]
            rintro e w' ⟨rfl, rfl⟩
            by_cases hbig : 18 < A.size
            · have db : decide ((18 : Int) < (A.size : Int) + E.size) = true := decide_eq_true (by omega)
              have HB9 := Lib.hid (show 18 < rest.length by rw [← HSA.out]; exact hbig)
              clear hbig
              have pr0 : (w1).cell? ⟨w.heap.size, 0, none⟩ = some (.int .i64 0) := F1r.out.cell 0
              have fr0 : (w1).frozen? ⟨w.heap.size, 0, none⟩ = false := F1r.out.frozen 0
              have pr1 : (w1).cell? ⟨w.heap.size, 1, none⟩ = some (.int .i64 0) := F1r.out.cell 1
              have fr1 : (w1).frozen? ⟨w.heap.size, 1, none⟩ = false := F1r.out.frozen 1
              go_wp2_with fail
              refine bodyPost_ret (v := .tuple #[.agg #[.int .i64 0, .int .i64 0], .int .i64 5]) (by simp [results, Tryz.results18, go_sem, pr0, pr1]) rfl ?_
              rw [show read2 s.data.toList = (0, 0, 5) from HRD.out.trans (by rw [DA.out, if_pos HB9.out]; rfl)]
              exact ⟨rfl, Lib.hid (store2_below HB1.out F1r.out _ _ (Nat.le_refl _))⟩
            · have db : decide ((18 : Int) < (A.size : Int) + E.size) = false := decide_eq_false (by omega)
              have HB9 := Lib.hid (show ¬ 18 < rest.length by rw [← HSA.out]; exact hbig)
              have HAB2 := Lib.hid (show (A ++ E).data.toList = rest by rw [data_append, HAx.out, HEE.out]; simp)
              have HDG := Lib.hid (show digs (A ++ E).data.toList = true by rw [HAB2.out]; exact DA.out)
              have HLN := Lib.hid (show (A ++ E).data.toList.length ≤ 18 by rw [HAB2.out]; have := HB9.out; omega)
              obtain ⟨V, hV⟩ : ∃ V : Nat, V = dval rest := ⟨_, rfl⟩
              have hVb : V < 1000000000000000000 := by
                have h1 := dval_lt rest (digs_all DA.out)
                have h2 := pow10_le (show rest.length ≤ 18 by have := HB9.out; omega)
                omega
              have HVV := Lib.hid hV.symm
              clear hV
              go_wp2_with fail
              go_loop [9, 10] (fun dv i => i = .int .i64 0 ∧ dv = .int .u64 1) (fun _ _ => 0)
              case atStart => exact ⟨rfl, rfl⟩
              case round =>
                obtain ⟨rfl, rfl⟩ := hrel
                have de : decide (0 < E.size) = false := decide_eq_false (by omega)
                have de2 : decide ((0 : Int) < (E.size : Int)) = false := decide_eq_false (by omega)
                go_wp2_with fail
                refine (number_r (A ++ E) w1 HDG.out HLN.out).mono ?_
                rw [HAB2.out, HVV.out]
                rintro e w' ⟨rfl, rfl⟩
                go_wp2_with fail
                refine (checkedR_any ng V 1 w1 (by omega) (by omega) (by omega)).mono ?_
                rintro e w2 ⟨rfl, HB2⟩
                have F2r := Lib.hid (F1r.out.belowW HB2.out)
                have HL2 := Lib.hid (HB1.out.trans (HB2.out.mono HB1.out.size))
                have pr0 : (w2).cell? ⟨w.heap.size, 0, none⟩ = some (.int .i64 0) := F2r.out.cell 0
                have fr0 : (w2).frozen? ⟨w.heap.size, 0, none⟩ = false := F2r.out.frozen 0
                have pr1 : (w2).cell? ⟨w.heap.size, 1, none⟩ = some (.int .i64 0) := F2r.out.cell 1
                have fr1 : (w2).frozen? ⟨w.heap.size, 1, none⟩ = false := F2r.out.frozen 1
                go_wp2_with fail
                refine bodyPost_ret (v := .tuple #[.agg #[.int .i64 (chkR ng V 1).1, .int .i64 (chkR ng V 1).2.1], .int .i64 (chkR ng V 1).2.2]) (by simp [results, Tryz.results18, go_sem, pr0, pr1]) rfl ?_
                rw [show read2 s.data.toList = chkR ng V 1 from HRD.out.trans (by rw [DA.out]; simp only [Bool.not_true, Bool.false_eq_true, if_false]; rw [if_neg HB9.out, HVV.out]; exact make_sgn ng V 1 (by omega))]
                exact ⟨rfl, Lib.hid (store2_below HL2.out F2r.out _ _ (Nat.le_refl _))⟩
end Go.Proofs.YtnogfceojmnjiaaGreatDoor
