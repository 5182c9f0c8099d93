/-
  The walk of FormatNeeds.
-/
import Derived.Test.YtkjoohnndobjeaaGreatDoorPfA
import Derived.Test.YtkjoohnndobjeaaGreatDoorPfD
import Derived.Test.YtkjoohnndobjeaaGreatDoorQH
set_option linter.unusedVariables false
namespace Go.Proofs.YtkjoohnndobjeaaGreatDoor
open Go.RowKit Go.Fl Go.Fl.Lx Go.Fl.Nm Go.Fl.Fm Go.Fl.Rt Go.Fl.Pa
open List (setIfInBounds_toArray set_cons_zero set_cons_succ getElem_toArray getElem_cons_zero getElem_cons_succ)
/-- Without a pair of parentheses, the text is not read as the tree. -/
theorem need_expr {T : TE} (h : okE T = true) {A B C s : List UInt8} (hs : txt 20 T = A ++ 40 :: (B ++ 41 :: C)) (hA : ∀ c, A.getLast? = some c → inRun c = false) (he : s = A ++ (B ++ C)) (T1 : TE) (h1 : (exprR s).2 = some T1) : T1 ≠ T := by
  rintro rfl
  subst he
  unfold exprR runR at h1
  split at h1
  · cases h1
  · rename_i ts hts
    unfold runS at h1
    split at h1
    · rename_i T2 k1 hp
      split at h1
      · cases h1
      · have e : T2 = T1 := by split at h1 <;> (injection h1)
        subst e
        exact need_no nameP_word (txt20 h).1 hs hA hts hp
    · cases h1
    · cases h1
/-- What parse.Expr answers there. -/
def NeedQ (er : Nat) (T : TE) (v : Nd) (lo hi : Nat) (w : World) : Prop := er ≠ 0 ∨ ∃ T1, T1 ≠ T ∧ InA (fun b => lo ≤ b ∧ b < hi) w T1 v
theorem NeedQ.belowW {er : Nat} {T : TE} {v : Nd} {lo hi : Nat} {w w' : World} (h : NeedQ er T v lo hi w) (hb : Below w.heap.size w w') : NeedQ er T v lo hi w' := h.imp id (fun ⟨T1, h1, h2⟩ => ⟨T1, h1, h2.belowW hb⟩)
theorem NeedQ.far {er : Nat} {T : TE} {v : Nd} {lo hi : Nat} {w : World} (h : NeedQ er T v lo hi w) (r : Nat) (hr : r < lo ∨ hi ≤ r) (t : TypeId) (V : Array Value) : NeedQ er T v lo hi (putB w r t V) := h.imp id (fun ⟨T1, h1, h2⟩ => ⟨T1, h1, h2.far (by omega) t V⟩)
def NeedP (T : TE) (w : World) (e : Ending) (w' : World) : Prop :=
  ∃ (v : Nd) (ln co er : Nat), e = .returned (.tuple #[v.val, .agg #[.int .i64 (ln : Nat), .int .i64 (co : Nat)], .int .i64 (er : Nat)]) ∧ Hid (Below w.heap.size w w') ∧ Hid (NeedQ er T v w.heap.size w'.heap.size w')
theorem pExpr_need {T : TE} (h : okE T = true) {A B C : List UInt8} {s : ByteArray} (hs : txt 20 T = A ++ 40 :: (B ++ 41 :: C)) (hA : ∀ c, A.getLast? = some c → inRun c = false) (he : s.data.toList = A ++ (B ++ C)) (hsz : s.size ≤ maxLen) (w : World) (hR : RX w) (hX : FX w) :
    Calls Tryz.prog 21 #[.string s] w (NeedP T w) := by
  refine (pExpr s w hsz hR hX).mono ?_
  rintro e w' ⟨v, rfl, HB, HO⟩
  refine ⟨v, _, _, _, rfl, HB, Lib.hid ?_⟩
  by_cases h0 : (exprR s.data.toList).1.2.2 = 0
  · obtain ⟨T1, h1, h2⟩ := HO.2 h0
    exact .inr ⟨T1, need_expr h hs hA he T1 h1, h2.lt⟩
  · exact .inl h0
/-- Where a pair of parentheses is: what stands around it. -/
theorem pair_parts {S : ByteArray} {i j : Nat} (hi : i < j) (hj : j < S.size) (h1 : S[i] = 40) (h2 : S[j] = 41) :
    S.data.toList = S.data.toList.take i ++ 40 :: ((S.data.toList.take j).drop (i + 1) ++ 41 :: S.data.toList.drop (j + 1)) ∧
    (S.extract 0 i ++ S.extract (i + 1) j ++ S.extract (j + 1) S.size).data.toList = S.data.toList.take i ++ ((S.data.toList.take j).drop (i + 1) ++ S.data.toList.drop (j + 1)) := by
  have hl : S.data.toList.length = S.size := by simp
  have g1 : S.data.toList[i]'(by omega) = 40 := h1
  have g2 : S.data.toList[j]'(by omega) = 41 := h2
  constructor
  · have e1 : S.data.toList.drop i = 40 :: S.data.toList.drop (i + 1) := by rw [List.drop_eq_getElem_cons (by omega), g1]
    have e2 : S.data.toList.drop j = 41 :: S.data.toList.drop (j + 1) := by rw [List.drop_eq_getElem_cons (by omega), g2]
    have e3 : S.data.toList.drop (i + 1) = (S.data.toList.take j).drop (i + 1) ++ S.data.toList.drop j := by
      conv => lhs; rw [← List.take_append_drop j S.data.toList]
      rw [List.drop_append_of_le_length (by rw [List.length_take]; omega)]
    conv => lhs; rw [← List.take_append_drop i S.data.toList, e1, e3, e2]
  · rw [ByteArray.data_append, ByteArray.data_append, Array.toList_append, Array.toList_append, ByteArray.data_extract, ByteArray.data_extract, ByteArray.data_extract]
    simp only [Array.toList_extract, List.extract_eq_take_drop, List.drop_zero, Nat.sub_zero, List.append_assoc]
    congr 2
    · rw [List.drop_take]
    · rw [List.take_of_length_le (by rw [List.length_drop]; omega)]
theorem last_take {S : ByteArray} {i : Nat} (hi : i < S.size) (h0 : 0 < i) : (S.data.toList.take i).getLast? = some (S[i - 1]'(by omega)) := by
  have hl : S.data.toList.length = S.size := by simp
  rw [List.getLast?_eq_getElem?, List.length_take, Nat.min_eq_left (by omega), List.getElem?_take_of_lt (by omega), List.getElem?_eq_getElem (by omega)]
  rfl
/-- A byte that is no letter and no digit behind an 'a'. -/
theorem byte_norun (c : UInt8) (h : okc c = true) (hn : nameP [97, c] = false) : inRun c = false := by
  have := u8_all (p := fun c => !okc c || nameP [97, c] || !inRun c) (by decide +kernel) c
  rw [h, hn] at this
  simpa using this
theorem blank_norun (c : UInt8) (h : c = 32) : inRun c = false := by rw [h]; rfl

set_option maxHeartbeats 4000000 in
set_option maxRecDepth 100000 in
theorem needs_any (T : TE) (v : Nd) (w : World) (hR : RX w) (hX : FX w) (hin : InE w T v) : Calls Tryz.prog 6 #[v.val] w (RetB (.bool true) w) := by
  have HR := Lib.hid hR
  have HX := Lib.hid hX
  have HIN := Lib.hid hin
  clear hR hX hin
  obtain ⟨⟨kd, n, d, nm, k⟩, A, len, cap⟩ := v
  simp only [Nd.val]
  go_enter Tryz.func6, Tryz.ntmps6
  go_upto_region 1 with (fail)
  obtain ⟨w1, hw1⟩ : ∃ z9 : World, z9 = w.alloc (Obj.cells #[.int .i64 kd, .int .i64 n, .int .i64 d, .string nm, .int .i64 k, .slice A len cap] 29) := ⟨_, rfl⟩
  have HL1 := Lib.hid (show Below w.heap.size w w1 by rw [hw1]; exact below_box _ _)
  have F1 := Lib.hid (show Blk w1 w.heap.size 29 #[.int .i64 kd, .int .i64 n, .int .i64 d, .string nm, .int .i64 k, .slice A len cap] by rw [hw1]; exact Blk.new _ _ _)
  rw [← hw1]
  clear hw1
  go_wp2_with fail
  refine (fAwake_any w1 (HR.out.belowW HL1.out).1).mono ?_
  rintro e w2 ⟨rfl, HB2⟩
  have HL2 := Lib.hid (HL1.out.trans (HB2.out.mono HL1.out.size))
  have F2 := Lib.hid (F1.out.belowW HB2.out)
  obtain ⟨a0, _, a1, _, a2, _, a3, _, a4, _, a5, _⟩ := F2.out.all6
  go_wp2_with fail
  refine (fexpr_any T ⟨⟨kd, n, d, nm, k⟩, A, len, cap⟩ w2 (HIN.out.go HL2.out) (HR.out.belowW HL2.out).1).mono ?_
  rintro e w3 ⟨S, rfl, HS, HB3⟩
  have HL3 := Lib.hid (HL2.out.trans (HB3.out.mono HL2.out.size))
  have F3 := Lib.hid (F2.out.belowW HB3.out)
  clear a0 a1 a2 a3 a4 a5
  cases hok : okE T with
  | false =>
    go_wp2_with fail
    go_ret
    exact ⟨rfl, HL3⟩
  | true =>
    have HS1 := Lib.hid (show S.data.toList = txt 20 T by have h := HS.out; rw [hok, if_pos rfl] at h; exact h)
    have hsm : S.size ≤ 10000 := show S.data.toList.length ≤ 10000 by rw [HS1.out]; exact (txt20 hok).2
    have KP := Lib.hid (fun (i j : Nat) (hi : i < j) (hj : j < S.size) (h1 : S[i] = 40) (h2 : S[j] = 41) (h3 : ∀ c, (S.data.toList.take i).getLast? = some c → inRun c = false) (w' : World) (hb : Below w.heap.size w w') =>
      pExpr_need hok (A := S.data.toList.take i) (HS1.out.symm.trans (pair_parts hi hj h1 h2).1) h3 (pair_parts hi hj h1 h2).2 (by
        rw [ByteArray.size_append, ByteArray.size_append, ByteArray.size_extract, ByteArray.size_extract, ByteArray.size_extract]
        unfold maxLen
        omega) w' (HR.out.belowW hb) (HX.out.belowW hb))
    have HOK := Lib.hid (fun c (hc : c ∈ S.data.toList) => (show okc c = true from okC_txt nameP_word (txt20 hok).1 c (by rw [← HS1.out]; exact hc)))
    clear hok HS
    go_wp2_with fail
    go_loopg [22] S.size (fun g iv wr => ∃ i : Nat, iv = .int .i64 i ∧ i ≤ S.size ∧ g = S.size - i ∧ Hid (Blk wr w.heap.size 29 #[.int .i64 kd, .int .i64 n, .int .i64 d, .string nm, .int .i64 k, .slice A len cap]) ∧ Hid (Below w.heap.size w wr))
    case atStart => exact ⟨0, rfl, Nat.zero_le _, rfl, F3, HL3⟩
    case round =>
      obtain ⟨i, rfl, hi, rfl, FR, HLR⟩ := hrel
      by_cases hlt : i < S.size
      · have dlt : decide (i < S.size) = true := decide_eq_true hlt
        go_upto_region 9 with (fail)
        go_cut [48] (fun sk wx => ∃ b : Bool, sk = .bool b ∧ wx = wr ∧ Hid (b = false → S[i] = 40 ∧ ∀ c, (S.data.toList.take i).getLast? = some c → inRun c = false))
        case first =>
          by_cases h40 : S[i] = 40
          · have d1 : ((S[i].toNat : Int) != 40) = false := by rw [h40]; rfl
            have H40 := Lib.hid h40
            clear h40
            by_cases hi0 : i = 0
            · subst hi0
              go_wp2_with fail
              go_meet
              exact ⟨_, rfl, rfl, Lib.hid (fun _ => ⟨H40.out, fun c hc => by simp at hc⟩)⟩
            · obtain ⟨m, rfl⟩ : ∃ m, i = m + 1 := ⟨i - 1, by omega⟩
              have hm1 : m < S.size := by omega
              have HLA := Lib.hid (show (S.data.toList.take (m + 1)).getLast? = some S[m] from last_take hlt (by omega))
              have HOC := Lib.hid (HOK.out S[m] (List.getElem_mem (l := S.data.toList) (by simpa using hm1)))
              have hc1 : IntKind.i64.wrap (((m + 1 : Nat) : Int) - 1) = (m : Int) := by rw [IntKind.wrap_i64]; omega
              have HNM := Lib.hid (show ((⟨#[97]⟩ : ByteArray) ++ S.extract m (m + 1)).data.toList = [97, S[m]] by
                rw [data_app, ByteArray.data_extract]
                simp only [Array.toList_extract, List.extract_eq_take_drop]
                rw [List.drop_eq_getElem_cons (by simpa using hm1), show m + 1 - m = 1 by omega]
                rfl)
              have hc2 : ((m : Int) + 1).toNat = m + 1 := by omega
              go_wp2_with fail
              refine (name_any ((⟨#[97]⟩ : ByteArray) ++ S.extract m (m + 1)) _ (by rw [ByteArray.size_append, ByteArray.size_extract]; unfold maxLen; show 1 + _ ≤ _; omega)).mono ?_
              rintro e w' ⟨rfl, rfl⟩
              rw [HNM.out]
              cases hnm : nameP [97, S[m]] with
              | false =>
                have HNA := Lib.hid hnm
                clear hnm
                go_wp2_with fail
                go_meet
                exact ⟨_, rfl, rfl, Lib.hid (fun _ => ⟨H40.out, fun c hc => by
                  rw [HLA.out] at hc
                  injection hc with hc
                  rw [← hc]
                  exact byte_norun _ HOC.out HNA.out⟩)⟩
              | true =>
                clear hnm
                by_cases h32 : S[m] = 32
                · have d2 : ((S[m].toNat : Int) != 32) = false := by rw [h32]; rfl
                  have H32 := Lib.hid h32
                  clear h32
                  go_wp2_with fail
                  go_meet
                  exact ⟨_, rfl, rfl, Lib.hid (fun _ => ⟨H40.out, fun c hc => by
                    rw [HLA.out] at hc
                    injection hc with hc
                    rw [← hc]
                    exact blank_norun _ H32.out⟩)⟩
                · have d2 : ((S[m].toNat : Int) != 32) = true := by
                    rw [bne_iff_ne]
                    intro e
                    apply h32
                    rw [← UInt8.toNat_inj]
                    have : (32 : UInt8).toNat = 32 := rfl
                    omega
                  clear h32
                  go_wp2_with fail
                  go_meet
                  exact ⟨_, rfl, rfl, Lib.hid (fun h => by cases h)⟩
          · have d1 : ((S[i].toNat : Int) != 40) = true := by
              rw [bne_iff_ne]
              intro e
              apply h40
              rw [← UInt8.toNat_inj]
              have : (40 : UInt8).toNat = 40 := rfl
              omega
            go_wp2_with fail
            go_meet
            exact ⟨_, rfl, rfl, Lib.hid (fun h => by cases h)⟩
        case rest =>
          obtain ⟨b, rfl, hwc, HSK⟩ := hcut
          rw [hwc]
          clear hwc
          cases b with
          | true =>
            go_wp2_with fail
            go_roundg (S.size - (i + 1))
            case measure => omega
            case rel => exact ⟨i + 1, by go_num, by omega, rfl, FR, HLR⟩
          | false =>
            have HS2 := Lib.hid (show S[i] = 40 ∧ ∀ c, (S.data.toList.take i).getLast? = some c → inRun c = false from HSK.out (by simp))
            clear HSK
            go_wp2_with fail
            go_loopg [6, 7] (S.size - i) (fun g ev jv wr' => ∃ e j : Nat, ev = .int .i64 e ∧ jv = .int .i64 j ∧ i ≤ j ∧ j ≤ S.size ∧ g = S.size - j ∧ e ≤ j ∧ ((j = i ∧ e = 0) ∨ (i < j ∧ 1 ≤ e)) ∧ wr' = wr)
            case atStart => exact ⟨0, i, rfl, rfl, Nat.le_refl _, by omega, rfl, Nat.zero_le _, .inl ⟨rfl, rfl⟩, rfl⟩
            case round =>
              obtain ⟨ee, j, rfl, rfl, hij, hj, rfl, hej, hjj, rfl⟩ := hrel
              by_cases hlt2 : j < S.size
              · have dlt2 : decide (j < S.size) = true := decide_eq_true hlt2
                by_cases h40 : S[j] = 40
                · have d1 : ((S[j].toNat : Int) == 40) = true := by rw [h40]; rfl
                  have c1 : IntKind.i64.wrap ((ee : Int) + 1) = (ee : Int) + 1 := by rw [IntKind.wrap_i64]; omega
                  have d3 : decide (0 < (ee : Int) + 1) = true := decide_eq_true (by omega)
                  clear h40
                  go_wp2_with fail
                  go_roundg (S.size - (j + 1))
                  case measure => omega
                  case rel => exact ⟨ee + 1, j + 1, by go_num, by go_num, by omega, by omega, rfl, by omega, .inr ⟨by omega, by omega⟩, rfl⟩
                · have hje : i < j ∧ 1 ≤ ee := by
                    rcases hjj with ⟨e1, _⟩ | h
                    · exfalso
                      subst e1
                      exact h40 HS2.out.1
                    · exact h
                  have d1 : ((S[j].toNat : Int) == 40) = false := by
                    rw [beq_eq_false_iff_ne]
                    intro e
                    apply h40
                    rw [← UInt8.toNat_inj]
                    have : (40 : UInt8).toNat = 40 := rfl
                    omega
                  clear h40 hjj
                  by_cases h41 : S[j] = 41
                  · have d2 : ((S[j].toNat : Int) == 41) = true := by rw [h41]; rfl
                    have H41 := Lib.hid h41
                    clear h41
                    obtain ⟨q, rfl⟩ : ∃ q, ee = q + 1 := ⟨ee - 1, by omega⟩
                    have c1 : IntKind.i64.wrap (((q + 1 : Nat) : Int) - 1) = (q : Int) := by rw [IntKind.wrap_i64]; omega
                    by_cases hq : 0 < q
                    · have d3 : decide (0 < q) = true := decide_eq_true hq
                      go_wp2_with fail
                      go_roundg (S.size - (j + 1))
                      case measure => omega
                      case rel => exact ⟨q, j + 1, by go_num, by go_num, by omega, by omega, rfl, by omega, .inr ⟨by omega, by omega⟩, rfl⟩
                    · obtain rfl : q = 0 := by omega
                      have KP := Lib.hid (KP.out i j hje.1 hlt2 HS2.out.1 H41.out HS2.out.2)
                      have e1 : (S.extract 0 i).size = i := by rw [ByteArray.size_extract]; omega
                      have e2 : (S.extract (i + 1) j).size = j - (i + 1) := by rw [ByteArray.size_extract]; omega
                      have e3 : (S.extract (j + 1) S.size).size = S.size - (j + 1) := by rw [ByteArray.size_extract]; omega
                      have n1 : ¬ 9223372036854775807 < (S.extract 0 i).size + (S.extract (i + 1) j).size := by omega
                      have n2 : ¬ 9223372036854775807 < (S.extract 0 i).size + (S.extract (i + 1) j).size + (S.extract (j + 1) S.size).size := by omega
                      have n3 : ¬ 9223372036854775807 < i + (j - (i + 1)) := by omega
                      have n4 : ¬ 9223372036854775807 < i + (j - (i + 1)) + (S.size - (j + 1)) := by omega
                      clear e1 e2 e3
                      have c2 : IntKind.i64.wrap ((i : Int) + 1) = (i : Int) + 1 := by rw [IntKind.wrap_i64]; omega
                      have c3 : IntKind.i64.wrap ((j : Int) + 1) = (j : Int) + 1 := by rw [IntKind.wrap_i64]; omega
                      have c4 : ((i : Int) + 1).toNat = i + 1 := by omega
                      have c5 : ((j : Int) + 1).toNat = j + 1 := by omega
                      have b1 : 0 ≤ (i : Int) + 1 ∧ (i : Int) + 1 ≤ (j : Int) := by omega
                      have b2 : 0 ≤ (j : Int) + 1 ∧ (j : Int) + 1 ≤ (S.size : Int) := by omega
                      have b3 : 0 ≤ (i : Int) ∧ (i : Int) ≤ (S.size : Int) := by omega
                      have b4 : 0 ≤ (j : Int) ∧ (j : Int) ≤ (S.size : Int) := by omega
                      go_upto_region 20 with (fail)
                      have HR61 := Lib.hid (below_dr wr)
                      have R61a := Lib.hid (FR.out.belowW HR61.out)
                      have R61o := Lib.hid (HLR.out.trans (HR61.out.mono HLR.out.size))
                      refine wp_region_held_drew (S := fun w' => w'.cell? ⟨w.heap.size, 0, none⟩ = some (.int .i64 kd) ∧ w'.cell? ⟨w.heap.size, 1, none⟩ = some (.int .i64 n) ∧ w'.cell? ⟨w.heap.size, 2, none⟩ = some (.int .i64 d) ∧ w'.cell? ⟨w.heap.size, 3, none⟩ = some (.string nm) ∧ w'.cell? ⟨w.heap.size, 4, none⟩ = some (.int .i64 k) ∧ w'.cell? ⟨w.heap.size, 5, none⟩ = some (.slice A len cap)) (by kernel_rfl) ?_ (fun hHeld => ?_)
                      case refine_1 => exact ⟨R61a.out.cell 0, R61a.out.cell 1, R61a.out.cell 2, R61a.out.cell 3, R61a.out.cell 4, R61a.out.cell 5⟩
                      obtain ⟨wd61, hwd⟩ : ∃ z9 : World, z9 = wr.drew := ⟨_, rfl⟩
                      rw [← hwd] at HR61 R61a R61o hHeld ⊢
                      clear hwd
                      refine tkW 0 ?_
                      refine tkW 1 ?_
                      refine tkW 2 ?_
                      refine tkW 3 ?_
                      refine tkW 4 ?_
                      refine tkW 5 ?_
                      refine tkW 6 ?_
                      refine tkW 7 ?_
                      refine tkW 8 ?_
                      refine tkW 9 ?_
                      refine tkW 10 ?_
                      refine tkW 11 ?_
                      refine tkW 12 ?_
                      refine tkW 13 ?_
                      refine wpAnyH_ready (rs := [14, 19, 20]) (by kernel_rfl) (by simp) ?_
                      refine (AllReadyH.cons rfl (fun K hK => ?_) (AllReadyH.cons rfl (fun K hK => ?_) (AllReadyH.cons rfl (fun K hK => ?_) AllReadyH.nil)))
                      · go_simp
                        (with_reducible refine (KP.out wd61 (R61o.out)).mono ?_)
                        rintro e w62 ⟨v, ln, co, er, rfl, HC62, HQR⟩
                        have R62a := Lib.hid (R61a.out.belowW HC62.out)
                        have R62o := Lib.hid (R61o.out.trans (HC62.out.mono R61o.out.size))
                        have R62q := Lib.hid (HQR.out)
                        have R62h := Lib.hid (Nat.le_refl w62.heap.size)
                        go_wp2_with fail
                        clear hHeld
                        refine hK.out _ _ ?_ (fun hHeld => ?_)
                        case refine_1 => exact ⟨R62a.out.cell 0, R62a.out.cell 1, R62a.out.cell 2, R62a.out.cell 3, R62a.out.cell 4, R62a.out.cell 5⟩
                        clear hK K
                        try simp only [setIfInBounds_toArray, set_cons_zero, set_cons_succ]
                        refine tkW 15 ?_
                        refine tkW 16 ?_
                        refine tkW 17 ?_
                        refine tkW 18 ?_
                        refine wpAnyH_ready (rs := [19, 20]) (by kernel_rfl) (by simp) ?_
                        refine (AllReadyH.cons rfl (fun K hK => ?_) (AllReadyH.cons rfl (fun K hK => ?_) AllReadyH.nil))
                        · go_simp
                          obtain ⟨w63, hw⟩ : ∃ z9 : World, z9 = w62.alloc (Obj.cells #[.int .i64 0, .int .i64 0, .int .i64 0, .string ⟨#[]⟩, .int .i64 0, .slice none 0 0] 29) := ⟨_, rfl⟩
                          have HC63 := Lib.hid (show Below w62.heap.size w62 w63 by rw [hw]; exact below_box _ _)
                          have R63a := Lib.hid (R62a.out.belowW HC63.out)
                          have R63o := Lib.hid (R62o.out.trans (HC63.out.mono R62o.out.size))
                          have R63q := Lib.hid (R62q.out.belowW HC63.out)
                          have R63h := Lib.hid (Nat.le_trans R62h.out HC63.out.size)
                          have R63e := Lib.hid (show Blk w63 w62.heap.size 29 #[.int .i64 0, .int .i64 0, .int .i64 0, .string ⟨#[]⟩, .int .i64 0, .slice none 0 0] by rw [hw]; exact Blk.new _ _ _)
                          have R63m8 := Lib.hid (show w.heap.size ≠ w62.heap.size from Nat.ne_of_lt R62a.out.lt)
                          have R63k8 := Lib.hid ((show w62.heap.size < wd61.heap.size ∨ w62.heap.size ≤ w62.heap.size from Or.inr R62h.out))
                          have R63l8 := Lib.hid (show w.heap.size ≤ w62.heap.size from R62o.out.size)
                          rw [← hw]
                          clear hw
                          clear hHeld
                          refine hK.out _ _ ?_ (fun hHeld => ?_)
                          case refine_1 => exact ⟨R63a.out.cell 0, R63a.out.cell 1, R63a.out.cell 2, R63a.out.cell 3, R63a.out.cell 4, R63a.out.cell 5⟩
                          clear hK K
                          try simp only [setIfInBounds_toArray, set_cons_zero, set_cons_succ]
                          refine wpAnyH_ready (rs := [20]) (by kernel_rfl) (by simp) ?_
                          refine (AllReadyH.cons rfl (fun K hK => ?_) AllReadyH.nil)
                          go_simp
                          obtain ⟨w64, hw⟩ : ∃ z9 : World, z9 = w63.alloc (Obj.cells #[.int .i64 0, .int .i64 0] 40) := ⟨_, rfl⟩
                          have HC64 := Lib.hid (show Below w63.heap.size w63 w64 by rw [hw]; exact below_box _ _)
                          have R64a := Lib.hid (R63a.out.belowW HC64.out)
                          have R64o := Lib.hid (R63o.out.trans (HC64.out.mono R63o.out.size))
                          have R64q := Lib.hid (R63q.out.belowW HC64.out)
                          have R64h := Lib.hid (Nat.le_trans R63h.out HC64.out.size)
                          have R64e := Lib.hid (R63e.out.belowW HC64.out)
                          have R64m8 := Lib.hid (R63m8.out)
                          have R64k8 := Lib.hid (R63k8.out)
                          have R64l8 := Lib.hid (R63l8.out)
                          have R64p := Lib.hid (show Blk w64 w63.heap.size 40 #[.int .i64 0, .int .i64 0] by rw [hw]; exact Blk.new _ _ _)
                          have R64m9 := Lib.hid (show w.heap.size ≠ w63.heap.size from Nat.ne_of_lt R63a.out.lt)
                          have R64m89 := Lib.hid (show w62.heap.size ≠ w63.heap.size from (Nat.ne_of_lt R63e.out.lt))
                          have R64k9 := Lib.hid ((show w63.heap.size < wd61.heap.size ∨ w62.heap.size ≤ w63.heap.size from Or.inr R63h.out))
                          have R64l9 := Lib.hid (show w.heap.size ≤ w63.heap.size from R63o.out.size)
                          rw [← hw]
                          clear hw
                          clear hHeld
                          refine hK.out _ _ ?_ (fun hHeld => ?_)
                          case refine_1 => exact ⟨R64a.out.cell 0, R64a.out.cell 1, R64a.out.cell 2, R64a.out.cell 3, R64a.out.cell 4, R64a.out.cell 5⟩
                          clear hK K
                          try simp only [setIfInBounds_toArray, set_cons_zero, set_cons_succ]
                          refine wpAnyH_ready (rs := [21]) (by kernel_rfl) (by simp) ?_
                          refine (AllReadyH.cons rfl (fun K hK => ?_) AllReadyH.nil)
                          obtain ⟨ps0, fs0, ps1, fs1, ps2, fs2, ps3, fs3, ps4, fs4, ps5, fs5⟩ := R64e.out.all6
                          go_simp
                          rw [pst6 R64e.out]
                          clear ps0 fs0 ps1 fs1 ps2 fs2 ps3 fs3 ps4 fs4 ps5 fs5
                          have R65a := Lib.hid (R64a.out.far (t' := 29) R64m8.out #[.int .i64 v.h.kind, .int .i64 v.h.n, .int .i64 v.h.d, .string v.h.name, .int .i64 v.h.k, .slice v.A v.len v.cap])
                          have R65o := Lib.hid (R64o.out.trans (putB_below w64 (w62.heap.size) 29 #[.int .i64 v.h.kind, .int .i64 v.h.n, .int .i64 v.h.d, .string v.h.name, .int .i64 v.h.k, .slice v.A v.len v.cap] R64l8.out))
                          have R65q := Lib.hid (R64q.out.far _ R64k8.out 29 #[.int .i64 v.h.kind, .int .i64 v.h.n, .int .i64 v.h.d, .string v.h.name, .int .i64 v.h.k, .slice v.A v.len v.cap])
                          have R65m8 := Lib.hid (R64m8.out)
                          have R65k8 := Lib.hid (R64k8.out)
                          have R65l8 := Lib.hid (R64l8.out)
                          have R65p := Lib.hid (R64p.out.far (t' := 29) (R64m89.out.symm) #[.int .i64 v.h.kind, .int .i64 v.h.n, .int .i64 v.h.d, .string v.h.name, .int .i64 v.h.k, .slice v.A v.len v.cap])
                          have R65m9 := Lib.hid (R64m9.out)
                          have R65m89 := Lib.hid (R64m89.out)
                          have R65k9 := Lib.hid (R64k9.out)
                          have R65l9 := Lib.hid (R64l9.out)
                          have R65zz := Lib.hid (R64e.out.put #[.int .i64 v.h.kind, .int .i64 v.h.n, .int .i64 v.h.d, .string v.h.name, .int .i64 v.h.k, .slice v.A v.len v.cap])
                          obtain ⟨w65, hw9⟩ : ∃ z9 : World, z9 = putB w64 (w62.heap.size) 29 #[.int .i64 v.h.kind, .int .i64 v.h.n, .int .i64 v.h.d, .string v.h.name, .int .i64 v.h.k, .slice v.A v.len v.cap] := ⟨_, rfl⟩
                          try rw [← hw9] at R65a
                          try rw [← hw9] at R65o
                          try rw [← hw9] at R65q
                          try rw [← hw9] at R65m8
                          try rw [← hw9] at R65k8
                          try rw [← hw9] at R65l8
                          try rw [← hw9] at R65p
                          try rw [← hw9] at R65m9
                          try rw [← hw9] at R65m89
                          try rw [← hw9] at R65k9
                          try rw [← hw9] at R65l9
                          try rw [← hw9] at R65zz
                          rw [← hw9]
                          clear hw9 hHeld
                          refine hK.out _ _ ?_ (fun hHeld => ?_)
                          case refine_1 => exact ⟨R65a.out.cell 0, R65a.out.cell 1, R65a.out.cell 2, R65a.out.cell 3, R65a.out.cell 4, R65a.out.cell 5⟩
                          clear hK K
                          try simp only [setIfInBounds_toArray, set_cons_zero, set_cons_succ]
                          refine wpAnyH_ready (rs := [22]) (by kernel_rfl) (by simp) ?_
                          refine (AllReadyH.cons rfl (fun K hK => ?_) AllReadyH.nil)
                          obtain ⟨ps0, fs0, ps1, fs1⟩ := R65p.out.all2
                          go_simp
                          rw [pst2 R65p.out]
                          clear ps0 fs0 ps1 fs1
                          have R66a := Lib.hid (R65a.out.far (t' := 40) R65m9.out #[.int .i64 (ln : Nat), .int .i64 (co : Nat)])
                          have R66o := Lib.hid (R65o.out.trans (putB_below w65 (w63.heap.size) 40 #[.int .i64 (ln : Nat), .int .i64 (co : Nat)] R65l9.out))
                          have R66q := Lib.hid (R65q.out.far _ R65k9.out 40 #[.int .i64 (ln : Nat), .int .i64 (co : Nat)])
                          have R66m8 := Lib.hid (R65m8.out)
                          have R66k8 := Lib.hid (R65k8.out)
                          have R66l8 := Lib.hid (R65l8.out)
                          have R66m9 := Lib.hid (R65m9.out)
                          have R66m89 := Lib.hid (R65m89.out)
                          have R66k9 := Lib.hid (R65k9.out)
                          have R66l9 := Lib.hid (R65l9.out)
                          have R66e := Lib.hid (R65zz.out.far (t' := 40) (R65m89.out) #[.int .i64 (ln : Nat), .int .i64 (co : Nat)])
                          have R66zz := Lib.hid (R65p.out.put #[.int .i64 (ln : Nat), .int .i64 (co : Nat)])
                          obtain ⟨w66, hw9⟩ : ∃ z9 : World, z9 = putB w65 (w63.heap.size) 40 #[.int .i64 (ln : Nat), .int .i64 (co : Nat)] := ⟨_, rfl⟩
                          try rw [← hw9] at R66a
                          try rw [← hw9] at R66o
                          try rw [← hw9] at R66q
                          try rw [← hw9] at R66m8
                          try rw [← hw9] at R66k8
                          try rw [← hw9] at R66l8
                          try rw [← hw9] at R66m9
                          try rw [← hw9] at R66m89
                          try rw [← hw9] at R66k9
                          try rw [← hw9] at R66l9
                          try rw [← hw9] at R66e
                          try rw [← hw9] at R66zz
                          rw [← hw9]
                          clear hw9 hHeld
                          refine hK.out _ _ ?_ (fun hHeld => ?_)
                          case refine_1 => exact ⟨R66a.out.cell 0, R66a.out.cell 1, R66a.out.cell 2, R66a.out.cell 3, R66a.out.cell 4, R66a.out.cell 5⟩
                          clear hK K
                          try simp only [setIfInBounds_toArray, set_cons_zero, set_cons_succ]
                          refine tkW 23 ?_
                          refine wpAnyH_done (by kernel_rfl) ?_ _
                          obtain ⟨a0, _, a1, _, a2, _, a3, _, a4, _, a5, _⟩ := R66a.out.all6
                          obtain ⟨z0, _, z1, _, z2, _, z3, _, z4, _, z5, _⟩ := R66e.out.all6
                          by_cases her : er = 0
                          · have d9 : (((er : Nat) : Int) != 0) = false := by rw [her]; rfl
                            obtain ⟨T1, hT1, hX1⟩ : ∃ T1, T1 ≠ T ∧ InE w66 T1 v := by
                              rcases R66q.out with h | ⟨T1, h1, h2⟩
                              · exact absurd her h
                              · exact ⟨T1, h1, h2.toE⟩
                            clear her
                            go_wp2_with fail
                            refine (show Calls Tryz.prog 28 #[.agg #[.int .i64 v.h.kind, .int .i64 v.h.n, .int .i64 v.h.d, .string v.h.name, .int .i64 v.h.k, .slice v.A v.len v.cap], .agg #[.int .i64 kd, .int .i64 n, .int .i64 d, .string nm, .int .i64 k, .slice A len cap]] w66 _ from treeEqual_any T1 T v ⟨⟨kd, n, d, nm, k⟩, A, len, cap⟩ w66 hX1 (HIN.out.go R66o.out)).mono ?_
                            rintro e w7 ⟨r, rfl, HR7, HB7⟩
                            have hr : r = false := by
                              cases r with
                              | false => rfl
                              | true => exact absurd (HR7.out.1 rfl).2.2 hT1
                            subst hr
                            go_wp2_with fail
                            go_ret
                            exact ⟨ret_bool (by simp), Lib.hid (R66o.out.trans (HB7.out.mono R66o.out.size))⟩
                          · have d9 : (((er : Nat) : Int) != 0) = true := by rw [bne_iff_ne]; omega
                            go_wp2_with fail
                            go_ret
                            exact ⟨ret_bool (by simp), R66o⟩
                        · go_simp
                          obtain ⟨w63, hw⟩ : ∃ z9 : World, z9 = w62.alloc (Obj.cells #[.int .i64 0, .int .i64 0] 40) := ⟨_, rfl⟩
                          have HC63 := Lib.hid (show Below w62.heap.size w62 w63 by rw [hw]; exact below_box _ _)
                          have R63a := Lib.hid (R62a.out.belowW HC63.out)
                          have R63o := Lib.hid (R62o.out.trans (HC63.out.mono R62o.out.size))
                          have R63q := Lib.hid (R62q.out.belowW HC63.out)
                          have R63h := Lib.hid (Nat.le_trans R62h.out HC63.out.size)
                          have R63p := Lib.hid (show Blk w63 w62.heap.size 40 #[.int .i64 0, .int .i64 0] by rw [hw]; exact Blk.new _ _ _)
                          have R63m9 := Lib.hid (show w.heap.size ≠ w62.heap.size from Nat.ne_of_lt R62a.out.lt)
                          have R63k9 := Lib.hid ((show w62.heap.size < wd61.heap.size ∨ w62.heap.size ≤ w62.heap.size from Or.inr R62h.out))
                          have R63l9 := Lib.hid (show w.heap.size ≤ w62.heap.size from R62o.out.size)
                          rw [← hw]
                          clear hw
                          clear hHeld
                          refine hK.out _ _ ?_ (fun hHeld => ?_)
                          case refine_1 => exact ⟨R63a.out.cell 0, R63a.out.cell 1, R63a.out.cell 2, R63a.out.cell 3, R63a.out.cell 4, R63a.out.cell 5⟩
                          clear hK K
                          try simp only [setIfInBounds_toArray, set_cons_zero, set_cons_succ]
                          refine wpAnyH_ready (rs := [19]) (by kernel_rfl) (by simp) ?_
                          refine (AllReadyH.cons rfl (fun K hK => ?_) AllReadyH.nil)
                          go_simp
                          obtain ⟨w64, hw⟩ : ∃ z9 : World, z9 = w63.alloc (Obj.cells #[.int .i64 0, .int .i64 0, .int .i64 0, .string ⟨#[]⟩, .int .i64 0, .slice none 0 0] 29) := ⟨_, rfl⟩
                          have HC64 := Lib.hid (show Below w63.heap.size w63 w64 by rw [hw]; exact below_box _ _)
                          have R64a := Lib.hid (R63a.out.belowW HC64.out)
                          have R64o := Lib.hid (R63o.out.trans (HC64.out.mono R63o.out.size))
                          have R64q := Lib.hid (R63q.out.belowW HC64.out)
                          have R64h := Lib.hid (Nat.le_trans R63h.out HC64.out.size)
                          have R64p := Lib.hid (R63p.out.belowW HC64.out)
                          have R64m9 := Lib.hid (R63m9.out)
                          have R64k9 := Lib.hid (R63k9.out)
                          have R64l9 := Lib.hid (R63l9.out)
                          have R64e := Lib.hid (show Blk w64 w63.heap.size 29 #[.int .i64 0, .int .i64 0, .int .i64 0, .string ⟨#[]⟩, .int .i64 0, .slice none 0 0] by rw [hw]; exact Blk.new _ _ _)
                          have R64m8 := Lib.hid (show w.heap.size ≠ w63.heap.size from Nat.ne_of_lt R63a.out.lt)
                          have R64m89 := Lib.hid (show w63.heap.size ≠ w62.heap.size from (Nat.ne_of_lt R63p.out.lt).symm)
                          have R64k8 := Lib.hid ((show w63.heap.size < wd61.heap.size ∨ w62.heap.size ≤ w63.heap.size from Or.inr R63h.out))
                          have R64l8 := Lib.hid (show w.heap.size ≤ w63.heap.size from R63o.out.size)
                          rw [← hw]
                          clear hw
                          clear hHeld
                          refine hK.out _ _ ?_ (fun hHeld => ?_)
                          case refine_1 => exact ⟨R64a.out.cell 0, R64a.out.cell 1, R64a.out.cell 2, R64a.out.cell 3, R64a.out.cell 4, R64a.out.cell 5⟩
                          clear hK K
                          try simp only [setIfInBounds_toArray, set_cons_zero, set_cons_succ]
                          refine wpAnyH_ready (rs := [21]) (by kernel_rfl) (by simp) ?_
                          refine (AllReadyH.cons rfl (fun K hK => ?_) AllReadyH.nil)
                          obtain ⟨ps0, fs0, ps1, fs1, ps2, fs2, ps3, fs3, ps4, fs4, ps5, fs5⟩ := R64e.out.all6
                          go_simp
                          rw [pst6 R64e.out]
                          clear ps0 fs0 ps1 fs1 ps2 fs2 ps3 fs3 ps4 fs4 ps5 fs5
                          have R65a := Lib.hid (R64a.out.far (t' := 29) R64m8.out #[.int .i64 v.h.kind, .int .i64 v.h.n, .int .i64 v.h.d, .string v.h.name, .int .i64 v.h.k, .slice v.A v.len v.cap])
                          have R65o := Lib.hid (R64o.out.trans (putB_below w64 (w63.heap.size) 29 #[.int .i64 v.h.kind, .int .i64 v.h.n, .int .i64 v.h.d, .string v.h.name, .int .i64 v.h.k, .slice v.A v.len v.cap] R64l8.out))
                          have R65q := Lib.hid (R64q.out.far _ R64k8.out 29 #[.int .i64 v.h.kind, .int .i64 v.h.n, .int .i64 v.h.d, .string v.h.name, .int .i64 v.h.k, .slice v.A v.len v.cap])
                          have R65p := Lib.hid (R64p.out.far (t' := 29) (R64m89.out.symm) #[.int .i64 v.h.kind, .int .i64 v.h.n, .int .i64 v.h.d, .string v.h.name, .int .i64 v.h.k, .slice v.A v.len v.cap])
                          have R65m9 := Lib.hid (R64m9.out)
                          have R65k9 := Lib.hid (R64k9.out)
                          have R65l9 := Lib.hid (R64l9.out)
                          have R65m8 := Lib.hid (R64m8.out)
                          have R65m89 := Lib.hid (R64m89.out)
                          have R65k8 := Lib.hid (R64k8.out)
                          have R65l8 := Lib.hid (R64l8.out)
                          have R65zz := Lib.hid (R64e.out.put #[.int .i64 v.h.kind, .int .i64 v.h.n, .int .i64 v.h.d, .string v.h.name, .int .i64 v.h.k, .slice v.A v.len v.cap])
                          obtain ⟨w65, hw9⟩ : ∃ z9 : World, z9 = putB w64 (w63.heap.size) 29 #[.int .i64 v.h.kind, .int .i64 v.h.n, .int .i64 v.h.d, .string v.h.name, .int .i64 v.h.k, .slice v.A v.len v.cap] := ⟨_, rfl⟩
                          try rw [← hw9] at R65a
                          try rw [← hw9] at R65o
                          try rw [← hw9] at R65q
                          try rw [← hw9] at R65p
                          try rw [← hw9] at R65m9
                          try rw [← hw9] at R65k9
                          try rw [← hw9] at R65l9
                          try rw [← hw9] at R65m8
                          try rw [← hw9] at R65m89
                          try rw [← hw9] at R65k8
                          try rw [← hw9] at R65l8
                          try rw [← hw9] at R65zz
                          rw [← hw9]
                          clear hw9 hHeld
                          refine hK.out _ _ ?_ (fun hHeld => ?_)
                          case refine_1 => exact ⟨R65a.out.cell 0, R65a.out.cell 1, R65a.out.cell 2, R65a.out.cell 3, R65a.out.cell 4, R65a.out.cell 5⟩
                          clear hK K
                          try simp only [setIfInBounds_toArray, set_cons_zero, set_cons_succ]
                          refine wpAnyH_ready (rs := [22]) (by kernel_rfl) (by simp) ?_
                          refine (AllReadyH.cons rfl (fun K hK => ?_) AllReadyH.nil)
                          obtain ⟨ps0, fs0, ps1, fs1⟩ := R65p.out.all2
                          go_simp
                          rw [pst2 R65p.out]
                          clear ps0 fs0 ps1 fs1
                          have R66a := Lib.hid (R65a.out.far (t' := 40) R65m9.out #[.int .i64 (ln : Nat), .int .i64 (co : Nat)])
                          have R66o := Lib.hid (R65o.out.trans (putB_below w65 (w62.heap.size) 40 #[.int .i64 (ln : Nat), .int .i64 (co : Nat)] R65l9.out))
                          have R66q := Lib.hid (R65q.out.far _ R65k9.out 40 #[.int .i64 (ln : Nat), .int .i64 (co : Nat)])
                          have R66m9 := Lib.hid (R65m9.out)
                          have R66k9 := Lib.hid (R65k9.out)
                          have R66l9 := Lib.hid (R65l9.out)
                          have R66m8 := Lib.hid (R65m8.out)
                          have R66m89 := Lib.hid (R65m89.out)
                          have R66k8 := Lib.hid (R65k8.out)
                          have R66l8 := Lib.hid (R65l8.out)
                          have R66e := Lib.hid (R65zz.out.far (t' := 40) (R65m89.out) #[.int .i64 (ln : Nat), .int .i64 (co : Nat)])
                          have R66zz := Lib.hid (R65p.out.put #[.int .i64 (ln : Nat), .int .i64 (co : Nat)])
                          obtain ⟨w66, hw9⟩ : ∃ z9 : World, z9 = putB w65 (w62.heap.size) 40 #[.int .i64 (ln : Nat), .int .i64 (co : Nat)] := ⟨_, rfl⟩
                          try rw [← hw9] at R66a
                          try rw [← hw9] at R66o
                          try rw [← hw9] at R66q
                          try rw [← hw9] at R66m9
                          try rw [← hw9] at R66k9
                          try rw [← hw9] at R66l9
                          try rw [← hw9] at R66m8
                          try rw [← hw9] at R66m89
                          try rw [← hw9] at R66k8
                          try rw [← hw9] at R66l8
                          try rw [← hw9] at R66e
                          try rw [← hw9] at R66zz
                          rw [← hw9]
                          clear hw9 hHeld
                          refine hK.out _ _ ?_ (fun hHeld => ?_)
                          case refine_1 => exact ⟨R66a.out.cell 0, R66a.out.cell 1, R66a.out.cell 2, R66a.out.cell 3, R66a.out.cell 4, R66a.out.cell 5⟩
                          clear hK K
                          try simp only [setIfInBounds_toArray, set_cons_zero, set_cons_succ]
                          refine tkW 23 ?_
                          refine wpAnyH_done (by kernel_rfl) ?_ _
                          obtain ⟨a0, _, a1, _, a2, _, a3, _, a4, _, a5, _⟩ := R66a.out.all6
                          obtain ⟨z0, _, z1, _, z2, _, z3, _, z4, _, z5, _⟩ := R66e.out.all6
                          by_cases her : er = 0
                          · have d9 : (((er : Nat) : Int) != 0) = false := by rw [her]; rfl
                            obtain ⟨T1, hT1, hX1⟩ : ∃ T1, T1 ≠ T ∧ InE w66 T1 v := by
                              rcases R66q.out with h | ⟨T1, h1, h2⟩
                              · exact absurd her h
                              · exact ⟨T1, h1, h2.toE⟩
                            clear her
                            go_wp2_with fail
                            refine (show Calls Tryz.prog 28 #[.agg #[.int .i64 v.h.kind, .int .i64 v.h.n, .int .i64 v.h.d, .string v.h.name, .int .i64 v.h.k, .slice v.A v.len v.cap], .agg #[.int .i64 kd, .int .i64 n, .int .i64 d, .string nm, .int .i64 k, .slice A len cap]] w66 _ from treeEqual_any T1 T v ⟨⟨kd, n, d, nm, k⟩, A, len, cap⟩ w66 hX1 (HIN.out.go R66o.out)).mono ?_
                            rintro e w7 ⟨r, rfl, HR7, HB7⟩
                            have hr : r = false := by
                              cases r with
                              | false => rfl
                              | true => exact absurd (HR7.out.1 rfl).2.2 hT1
                            subst hr
                            go_wp2_with fail
                            go_ret
                            exact ⟨ret_bool (by simp), Lib.hid (R66o.out.trans (HB7.out.mono R66o.out.size))⟩
                          · have d9 : (((er : Nat) : Int) != 0) = true := by rw [bne_iff_ne]; omega
                            go_wp2_with fail
                            go_ret
                            exact ⟨ret_bool (by simp), R66o⟩
                      · go_simp
                        obtain ⟨w62, hw⟩ : ∃ z9 : World, z9 = wd61.alloc (Obj.cells #[.int .i64 0, .int .i64 0, .int .i64 0, .string ⟨#[]⟩, .int .i64 0, .slice none 0 0] 29) := ⟨_, rfl⟩
                        have HC62 := Lib.hid (show Below wd61.heap.size wd61 w62 by rw [hw]; exact below_box _ _)
                        have R62a := Lib.hid (R61a.out.belowW HC62.out)
                        have R62o := Lib.hid (R61o.out.trans (HC62.out.mono R61o.out.size))
                        have R62e := Lib.hid (show Blk w62 wd61.heap.size 29 #[.int .i64 0, .int .i64 0, .int .i64 0, .string ⟨#[]⟩, .int .i64 0, .slice none 0 0] by rw [hw]; exact Blk.new _ _ _)
                        have R62m8 := Lib.hid (show w.heap.size ≠ wd61.heap.size from Nat.ne_of_lt R61a.out.lt)
                        have R62l8 := Lib.hid (show w.heap.size ≤ wd61.heap.size from R61o.out.size)
                        rw [← hw]
                        clear hw
                        clear hHeld
                        refine hK.out _ _ ?_ (fun hHeld => ?_)
                        case refine_1 => exact ⟨R62a.out.cell 0, R62a.out.cell 1, R62a.out.cell 2, R62a.out.cell 3, R62a.out.cell 4, R62a.out.cell 5⟩
                        clear hK K
                        try simp only [setIfInBounds_toArray, set_cons_zero, set_cons_succ]
                        refine wpAnyH_ready (rs := [14, 20]) (by kernel_rfl) (by simp) ?_
                        refine (AllReadyH.cons rfl (fun K hK => ?_) (AllReadyH.cons rfl (fun K hK => ?_) AllReadyH.nil))
                        · go_simp
                          (with_reducible refine (KP.out w62 (R62o.out)).mono ?_)
                          rintro e w63 ⟨v, ln, co, er, rfl, HC63, HQR⟩
                          have R63a := Lib.hid (R62a.out.belowW HC63.out)
                          have R63o := Lib.hid (R62o.out.trans (HC63.out.mono R62o.out.size))
                          have R63e := Lib.hid (R62e.out.belowW HC63.out)
                          have R63m8 := Lib.hid (R62m8.out)
                          have R63l8 := Lib.hid (R62l8.out)
                          have R63q := Lib.hid (HQR.out)
                          have R63h := Lib.hid (Nat.le_refl w63.heap.size)
                          have R63k8 := Lib.hid ((show wd61.heap.size < w62.heap.size ∨ w63.heap.size ≤ wd61.heap.size from Or.inl R62e.out.lt))
                          go_wp2_with fail
                          clear hHeld
                          refine hK.out _ _ ?_ (fun hHeld => ?_)
                          case refine_1 => exact ⟨R63a.out.cell 0, R63a.out.cell 1, R63a.out.cell 2, R63a.out.cell 3, R63a.out.cell 4, R63a.out.cell 5⟩
                          clear hK K
                          try simp only [setIfInBounds_toArray, set_cons_zero, set_cons_succ]
                          refine tkW 15 ?_
                          refine tkW 16 ?_
                          refine tkW 17 ?_
                          refine tkW 18 ?_
                          refine wpAnyH_ready (rs := [20]) (by kernel_rfl) (by simp) ?_
                          refine (AllReadyH.cons rfl (fun K hK => ?_) AllReadyH.nil)
                          go_simp
                          obtain ⟨w64, hw⟩ : ∃ z9 : World, z9 = w63.alloc (Obj.cells #[.int .i64 0, .int .i64 0] 40) := ⟨_, rfl⟩
                          have HC64 := Lib.hid (show Below w63.heap.size w63 w64 by rw [hw]; exact below_box _ _)
                          have R64a := Lib.hid (R63a.out.belowW HC64.out)
                          have R64o := Lib.hid (R63o.out.trans (HC64.out.mono R63o.out.size))
                          have R64e := Lib.hid (R63e.out.belowW HC64.out)
                          have R64m8 := Lib.hid (R63m8.out)
                          have R64l8 := Lib.hid (R63l8.out)
                          have R64q := Lib.hid (R63q.out.belowW HC64.out)
                          have R64h := Lib.hid (Nat.le_trans R63h.out HC64.out.size)
                          have R64k8 := Lib.hid (R63k8.out)
                          have R64p := Lib.hid (show Blk w64 w63.heap.size 40 #[.int .i64 0, .int .i64 0] by rw [hw]; exact Blk.new _ _ _)
                          have R64m9 := Lib.hid (show w.heap.size ≠ w63.heap.size from Nat.ne_of_lt R63a.out.lt)
                          have R64m89 := Lib.hid (show wd61.heap.size ≠ w63.heap.size from (Nat.ne_of_lt R63e.out.lt))
                          have R64k9 := Lib.hid ((show w63.heap.size < w62.heap.size ∨ w63.heap.size ≤ w63.heap.size from Or.inr R63h.out))
                          have R64l9 := Lib.hid (show w.heap.size ≤ w63.heap.size from R63o.out.size)
                          rw [← hw]
                          clear hw
                          clear hHeld
                          refine hK.out _ _ ?_ (fun hHeld => ?_)
                          case refine_1 => exact ⟨R64a.out.cell 0, R64a.out.cell 1, R64a.out.cell 2, R64a.out.cell 3, R64a.out.cell 4, R64a.out.cell 5⟩
                          clear hK K
                          try simp only [setIfInBounds_toArray, set_cons_zero, set_cons_succ]
                          refine wpAnyH_ready (rs := [21]) (by kernel_rfl) (by simp) ?_
                          refine (AllReadyH.cons rfl (fun K hK => ?_) AllReadyH.nil)
                          obtain ⟨ps0, fs0, ps1, fs1, ps2, fs2, ps3, fs3, ps4, fs4, ps5, fs5⟩ := R64e.out.all6
                          go_simp
                          rw [pst6 R64e.out]
                          clear ps0 fs0 ps1 fs1 ps2 fs2 ps3 fs3 ps4 fs4 ps5 fs5
                          have R65a := Lib.hid (R64a.out.far (t' := 29) R64m8.out #[.int .i64 v.h.kind, .int .i64 v.h.n, .int .i64 v.h.d, .string v.h.name, .int .i64 v.h.k, .slice v.A v.len v.cap])
                          have R65o := Lib.hid (R64o.out.trans (putB_below w64 (wd61.heap.size) 29 #[.int .i64 v.h.kind, .int .i64 v.h.n, .int .i64 v.h.d, .string v.h.name, .int .i64 v.h.k, .slice v.A v.len v.cap] R64l8.out))
                          have R65m8 := Lib.hid (R64m8.out)
                          have R65l8 := Lib.hid (R64l8.out)
                          have R65q := Lib.hid (R64q.out.far _ R64k8.out 29 #[.int .i64 v.h.kind, .int .i64 v.h.n, .int .i64 v.h.d, .string v.h.name, .int .i64 v.h.k, .slice v.A v.len v.cap])
                          have R65k8 := Lib.hid (R64k8.out)
                          have R65p := Lib.hid (R64p.out.far (t' := 29) (R64m89.out.symm) #[.int .i64 v.h.kind, .int .i64 v.h.n, .int .i64 v.h.d, .string v.h.name, .int .i64 v.h.k, .slice v.A v.len v.cap])
                          have R65m9 := Lib.hid (R64m9.out)
                          have R65m89 := Lib.hid (R64m89.out)
                          have R65k9 := Lib.hid (R64k9.out)
                          have R65l9 := Lib.hid (R64l9.out)
                          have R65zz := Lib.hid (R64e.out.put #[.int .i64 v.h.kind, .int .i64 v.h.n, .int .i64 v.h.d, .string v.h.name, .int .i64 v.h.k, .slice v.A v.len v.cap])
                          obtain ⟨w65, hw9⟩ : ∃ z9 : World, z9 = putB w64 (wd61.heap.size) 29 #[.int .i64 v.h.kind, .int .i64 v.h.n, .int .i64 v.h.d, .string v.h.name, .int .i64 v.h.k, .slice v.A v.len v.cap] := ⟨_, rfl⟩
                          try rw [← hw9] at R65a
                          try rw [← hw9] at R65o
                          try rw [← hw9] at R65m8
                          try rw [← hw9] at R65l8
                          try rw [← hw9] at R65q
                          try rw [← hw9] at R65k8
                          try rw [← hw9] at R65p
                          try rw [← hw9] at R65m9
                          try rw [← hw9] at R65m89
                          try rw [← hw9] at R65k9
                          try rw [← hw9] at R65l9
                          try rw [← hw9] at R65zz
                          rw [← hw9]
                          clear hw9 hHeld
                          refine hK.out _ _ ?_ (fun hHeld => ?_)
                          case refine_1 => exact ⟨R65a.out.cell 0, R65a.out.cell 1, R65a.out.cell 2, R65a.out.cell 3, R65a.out.cell 4, R65a.out.cell 5⟩
                          clear hK K
                          try simp only [setIfInBounds_toArray, set_cons_zero, set_cons_succ]
                          refine wpAnyH_ready (rs := [22]) (by kernel_rfl) (by simp) ?_
                          refine (AllReadyH.cons rfl (fun K hK => ?_) AllReadyH.nil)
                          obtain ⟨ps0, fs0, ps1, fs1⟩ := R65p.out.all2
                          go_simp
                          rw [pst2 R65p.out]
                          clear ps0 fs0 ps1 fs1
                          have R66a := Lib.hid (R65a.out.far (t' := 40) R65m9.out #[.int .i64 (ln : Nat), .int .i64 (co : Nat)])
                          have R66o := Lib.hid (R65o.out.trans (putB_below w65 (w63.heap.size) 40 #[.int .i64 (ln : Nat), .int .i64 (co : Nat)] R65l9.out))
                          have R66m8 := Lib.hid (R65m8.out)
                          have R66l8 := Lib.hid (R65l8.out)
                          have R66q := Lib.hid (R65q.out.far _ R65k9.out 40 #[.int .i64 (ln : Nat), .int .i64 (co : Nat)])
                          have R66k8 := Lib.hid (R65k8.out)
                          have R66m9 := Lib.hid (R65m9.out)
                          have R66m89 := Lib.hid (R65m89.out)
                          have R66k9 := Lib.hid (R65k9.out)
                          have R66l9 := Lib.hid (R65l9.out)
                          have R66e := Lib.hid (R65zz.out.far (t' := 40) (R65m89.out) #[.int .i64 (ln : Nat), .int .i64 (co : Nat)])
                          have R66zz := Lib.hid (R65p.out.put #[.int .i64 (ln : Nat), .int .i64 (co : Nat)])
                          obtain ⟨w66, hw9⟩ : ∃ z9 : World, z9 = putB w65 (w63.heap.size) 40 #[.int .i64 (ln : Nat), .int .i64 (co : Nat)] := ⟨_, rfl⟩
                          try rw [← hw9] at R66a
                          try rw [← hw9] at R66o
                          try rw [← hw9] at R66m8
                          try rw [← hw9] at R66l8
                          try rw [← hw9] at R66q
                          try rw [← hw9] at R66k8
                          try rw [← hw9] at R66m9
                          try rw [← hw9] at R66m89
                          try rw [← hw9] at R66k9
                          try rw [← hw9] at R66l9
                          try rw [← hw9] at R66e
                          try rw [← hw9] at R66zz
                          rw [← hw9]
                          clear hw9 hHeld
                          refine hK.out _ _ ?_ (fun hHeld => ?_)
                          case refine_1 => exact ⟨R66a.out.cell 0, R66a.out.cell 1, R66a.out.cell 2, R66a.out.cell 3, R66a.out.cell 4, R66a.out.cell 5⟩
                          clear hK K
                          try simp only [setIfInBounds_toArray, set_cons_zero, set_cons_succ]
                          refine tkW 23 ?_
                          refine wpAnyH_done (by kernel_rfl) ?_ _
                          obtain ⟨a0, _, a1, _, a2, _, a3, _, a4, _, a5, _⟩ := R66a.out.all6
                          obtain ⟨z0, _, z1, _, z2, _, z3, _, z4, _, z5, _⟩ := R66e.out.all6
                          by_cases her : er = 0
                          · have d9 : (((er : Nat) : Int) != 0) = false := by rw [her]; rfl
                            obtain ⟨T1, hT1, hX1⟩ : ∃ T1, T1 ≠ T ∧ InE w66 T1 v := by
                              rcases R66q.out with h | ⟨T1, h1, h2⟩
                              · exact absurd her h
                              · exact ⟨T1, h1, h2.toE⟩
                            clear her
                            go_wp2_with fail
                            refine (show Calls Tryz.prog 28 #[.agg #[.int .i64 v.h.kind, .int .i64 v.h.n, .int .i64 v.h.d, .string v.h.name, .int .i64 v.h.k, .slice v.A v.len v.cap], .agg #[.int .i64 kd, .int .i64 n, .int .i64 d, .string nm, .int .i64 k, .slice A len cap]] w66 _ from treeEqual_any T1 T v ⟨⟨kd, n, d, nm, k⟩, A, len, cap⟩ w66 hX1 (HIN.out.go R66o.out)).mono ?_
                            rintro e w7 ⟨r, rfl, HR7, HB7⟩
                            have hr : r = false := by
                              cases r with
                              | false => rfl
                              | true => exact absurd (HR7.out.1 rfl).2.2 hT1
                            subst hr
                            go_wp2_with fail
                            go_ret
                            exact ⟨ret_bool (by simp), Lib.hid (R66o.out.trans (HB7.out.mono R66o.out.size))⟩
                          · have d9 : (((er : Nat) : Int) != 0) = true := by rw [bne_iff_ne]; omega
                            go_wp2_with fail
                            go_ret
                            exact ⟨ret_bool (by simp), R66o⟩
                        · go_simp
                          obtain ⟨w63, hw⟩ : ∃ z9 : World, z9 = w62.alloc (Obj.cells #[.int .i64 0, .int .i64 0] 40) := ⟨_, rfl⟩
                          have HC63 := Lib.hid (show Below w62.heap.size w62 w63 by rw [hw]; exact below_box _ _)
                          have R63a := Lib.hid (R62a.out.belowW HC63.out)
                          have R63o := Lib.hid (R62o.out.trans (HC63.out.mono R62o.out.size))
                          have R63e := Lib.hid (R62e.out.belowW HC63.out)
                          have R63m8 := Lib.hid (R62m8.out)
                          have R63l8 := Lib.hid (R62l8.out)
                          have R63p := Lib.hid (show Blk w63 w62.heap.size 40 #[.int .i64 0, .int .i64 0] by rw [hw]; exact Blk.new _ _ _)
                          have R63m9 := Lib.hid (show w.heap.size ≠ w62.heap.size from Nat.ne_of_lt R62a.out.lt)
                          have R63m89 := Lib.hid (show wd61.heap.size ≠ w62.heap.size from (Nat.ne_of_lt R62e.out.lt))
                          have R63l9 := Lib.hid (show w.heap.size ≤ w62.heap.size from R62o.out.size)
                          rw [← hw]
                          clear hw
                          clear hHeld
                          refine hK.out _ _ ?_ (fun hHeld => ?_)
                          case refine_1 => exact ⟨R63a.out.cell 0, R63a.out.cell 1, R63a.out.cell 2, R63a.out.cell 3, R63a.out.cell 4, R63a.out.cell 5⟩
                          clear hK K
                          try simp only [setIfInBounds_toArray, set_cons_zero, set_cons_succ]
                          refine wpAnyH_ready (rs := [14]) (by kernel_rfl) (by simp) ?_
                          refine (AllReadyH.cons rfl (fun K hK => ?_) AllReadyH.nil)
                          go_simp
                          (with_reducible refine (KP.out w63 (R63o.out)).mono ?_)
                          rintro e w64 ⟨v, ln, co, er, rfl, HC64, HQR⟩
                          have R64a := Lib.hid (R63a.out.belowW HC64.out)
                          have R64o := Lib.hid (R63o.out.trans (HC64.out.mono R63o.out.size))
                          have R64e := Lib.hid (R63e.out.belowW HC64.out)
                          have R64m8 := Lib.hid (R63m8.out)
                          have R64l8 := Lib.hid (R63l8.out)
                          have R64p := Lib.hid (R63p.out.belowW HC64.out)
                          have R64m9 := Lib.hid (R63m9.out)
                          have R64m89 := Lib.hid (R63m89.out)
                          have R64l9 := Lib.hid (R63l9.out)
                          have R64q := Lib.hid (HQR.out)
                          have R64h := Lib.hid (Nat.le_refl w64.heap.size)
                          have R64k8 := Lib.hid ((show wd61.heap.size < w63.heap.size ∨ w64.heap.size ≤ wd61.heap.size from Or.inl R63e.out.lt))
                          have R64k9 := Lib.hid ((show w62.heap.size < w63.heap.size ∨ w64.heap.size ≤ w62.heap.size from Or.inl R63p.out.lt))
                          go_wp2_with fail
                          clear hHeld
                          refine hK.out _ _ ?_ (fun hHeld => ?_)
                          case refine_1 => exact ⟨R64a.out.cell 0, R64a.out.cell 1, R64a.out.cell 2, R64a.out.cell 3, R64a.out.cell 4, R64a.out.cell 5⟩
                          clear hK K
                          try simp only [setIfInBounds_toArray, set_cons_zero, set_cons_succ]
                          refine tkW 15 ?_
                          refine tkW 16 ?_
                          refine tkW 17 ?_
                          refine tkW 18 ?_
                          refine wpAnyH_ready (rs := [21]) (by kernel_rfl) (by simp) ?_
                          refine (AllReadyH.cons rfl (fun K hK => ?_) AllReadyH.nil)
                          obtain ⟨ps0, fs0, ps1, fs1, ps2, fs2, ps3, fs3, ps4, fs4, ps5, fs5⟩ := R64e.out.all6
                          go_simp
                          rw [pst6 R64e.out]
                          clear ps0 fs0 ps1 fs1 ps2 fs2 ps3 fs3 ps4 fs4 ps5 fs5
                          have R65a := Lib.hid (R64a.out.far (t' := 29) R64m8.out #[.int .i64 v.h.kind, .int .i64 v.h.n, .int .i64 v.h.d, .string v.h.name, .int .i64 v.h.k, .slice v.A v.len v.cap])
                          have R65o := Lib.hid (R64o.out.trans (putB_below w64 (wd61.heap.size) 29 #[.int .i64 v.h.kind, .int .i64 v.h.n, .int .i64 v.h.d, .string v.h.name, .int .i64 v.h.k, .slice v.A v.len v.cap] R64l8.out))
                          have R65m8 := Lib.hid (R64m8.out)
                          have R65l8 := Lib.hid (R64l8.out)
                          have R65p := Lib.hid (R64p.out.far (t' := 29) (R64m89.out.symm) #[.int .i64 v.h.kind, .int .i64 v.h.n, .int .i64 v.h.d, .string v.h.name, .int .i64 v.h.k, .slice v.A v.len v.cap])
                          have R65m9 := Lib.hid (R64m9.out)
                          have R65m89 := Lib.hid (R64m89.out)
                          have R65l9 := Lib.hid (R64l9.out)
                          have R65q := Lib.hid (R64q.out.far _ R64k8.out 29 #[.int .i64 v.h.kind, .int .i64 v.h.n, .int .i64 v.h.d, .string v.h.name, .int .i64 v.h.k, .slice v.A v.len v.cap])
                          have R65k8 := Lib.hid (R64k8.out)
                          have R65k9 := Lib.hid (R64k9.out)
                          have R65zz := Lib.hid (R64e.out.put #[.int .i64 v.h.kind, .int .i64 v.h.n, .int .i64 v.h.d, .string v.h.name, .int .i64 v.h.k, .slice v.A v.len v.cap])
                          obtain ⟨w65, hw9⟩ : ∃ z9 : World, z9 = putB w64 (wd61.heap.size) 29 #[.int .i64 v.h.kind, .int .i64 v.h.n, .int .i64 v.h.d, .string v.h.name, .int .i64 v.h.k, .slice v.A v.len v.cap] := ⟨_, rfl⟩
                          try rw [← hw9] at R65a
                          try rw [← hw9] at R65o
                          try rw [← hw9] at R65m8
                          try rw [← hw9] at R65l8
                          try rw [← hw9] at R65p
                          try rw [← hw9] at R65m9
                          try rw [← hw9] at R65m89
                          try rw [← hw9] at R65l9
                          try rw [← hw9] at R65q
                          try rw [← hw9] at R65k8
                          try rw [← hw9] at R65k9
                          try rw [← hw9] at R65zz
                          rw [← hw9]
                          clear hw9 hHeld
                          refine hK.out _ _ ?_ (fun hHeld => ?_)
                          case refine_1 => exact ⟨R65a.out.cell 0, R65a.out.cell 1, R65a.out.cell 2, R65a.out.cell 3, R65a.out.cell 4, R65a.out.cell 5⟩
                          clear hK K
                          try simp only [setIfInBounds_toArray, set_cons_zero, set_cons_succ]
                          refine wpAnyH_ready (rs := [22]) (by kernel_rfl) (by simp) ?_
                          refine (AllReadyH.cons rfl (fun K hK => ?_) AllReadyH.nil)
                          obtain ⟨ps0, fs0, ps1, fs1⟩ := R65p.out.all2
                          go_simp
                          rw [pst2 R65p.out]
                          clear ps0 fs0 ps1 fs1
                          have R66a := Lib.hid (R65a.out.far (t' := 40) R65m9.out #[.int .i64 (ln : Nat), .int .i64 (co : Nat)])
                          have R66o := Lib.hid (R65o.out.trans (putB_below w65 (w62.heap.size) 40 #[.int .i64 (ln : Nat), .int .i64 (co : Nat)] R65l9.out))
                          have R66m8 := Lib.hid (R65m8.out)
                          have R66l8 := Lib.hid (R65l8.out)
                          have R66m9 := Lib.hid (R65m9.out)
                          have R66m89 := Lib.hid (R65m89.out)
                          have R66l9 := Lib.hid (R65l9.out)
                          have R66q := Lib.hid (R65q.out.far _ R65k9.out 40 #[.int .i64 (ln : Nat), .int .i64 (co : Nat)])
                          have R66k8 := Lib.hid (R65k8.out)
                          have R66k9 := Lib.hid (R65k9.out)
                          have R66e := Lib.hid (R65zz.out.far (t' := 40) (R65m89.out) #[.int .i64 (ln : Nat), .int .i64 (co : Nat)])
                          have R66zz := Lib.hid (R65p.out.put #[.int .i64 (ln : Nat), .int .i64 (co : Nat)])
                          obtain ⟨w66, hw9⟩ : ∃ z9 : World, z9 = putB w65 (w62.heap.size) 40 #[.int .i64 (ln : Nat), .int .i64 (co : Nat)] := ⟨_, rfl⟩
                          try rw [← hw9] at R66a
                          try rw [← hw9] at R66o
                          try rw [← hw9] at R66m8
                          try rw [← hw9] at R66l8
                          try rw [← hw9] at R66m9
                          try rw [← hw9] at R66m89
                          try rw [← hw9] at R66l9
                          try rw [← hw9] at R66q
                          try rw [← hw9] at R66k8
                          try rw [← hw9] at R66k9
                          try rw [← hw9] at R66e
                          try rw [← hw9] at R66zz
                          rw [← hw9]
                          clear hw9 hHeld
                          refine hK.out _ _ ?_ (fun hHeld => ?_)
                          case refine_1 => exact ⟨R66a.out.cell 0, R66a.out.cell 1, R66a.out.cell 2, R66a.out.cell 3, R66a.out.cell 4, R66a.out.cell 5⟩
                          clear hK K
                          try simp only [setIfInBounds_toArray, set_cons_zero, set_cons_succ]
                          refine tkW 23 ?_
                          refine wpAnyH_done (by kernel_rfl) ?_ _
                          obtain ⟨a0, _, a1, _, a2, _, a3, _, a4, _, a5, _⟩ := R66a.out.all6
                          obtain ⟨z0, _, z1, _, z2, _, z3, _, z4, _, z5, _⟩ := R66e.out.all6
                          by_cases her : er = 0
                          · have d9 : (((er : Nat) : Int) != 0) = false := by rw [her]; rfl
                            obtain ⟨T1, hT1, hX1⟩ : ∃ T1, T1 ≠ T ∧ InE w66 T1 v := by
                              rcases R66q.out with h | ⟨T1, h1, h2⟩
                              · exact absurd her h
                              · exact ⟨T1, h1, h2.toE⟩
                            clear her
                            go_wp2_with fail
                            refine (show Calls Tryz.prog 28 #[.agg #[.int .i64 v.h.kind, .int .i64 v.h.n, .int .i64 v.h.d, .string v.h.name, .int .i64 v.h.k, .slice v.A v.len v.cap], .agg #[.int .i64 kd, .int .i64 n, .int .i64 d, .string nm, .int .i64 k, .slice A len cap]] w66 _ from treeEqual_any T1 T v ⟨⟨kd, n, d, nm, k⟩, A, len, cap⟩ w66 hX1 (HIN.out.go R66o.out)).mono ?_
                            rintro e w7 ⟨r, rfl, HR7, HB7⟩
                            have hr : r = false := by
                              cases r with
                              | false => rfl
                              | true => exact absurd (HR7.out.1 rfl).2.2 hT1
                            subst hr
                            go_wp2_with fail
                            go_ret
                            exact ⟨ret_bool (by simp), Lib.hid (R66o.out.trans (HB7.out.mono R66o.out.size))⟩
                          · have d9 : (((er : Nat) : Int) != 0) = true := by rw [bne_iff_ne]; omega
                            go_wp2_with fail
                            go_ret
                            exact ⟨ret_bool (by simp), R66o⟩
                      · go_simp
                        obtain ⟨w62, hw⟩ : ∃ z9 : World, z9 = wd61.alloc (Obj.cells #[.int .i64 0, .int .i64 0] 40) := ⟨_, rfl⟩
                        have HC62 := Lib.hid (show Below wd61.heap.size wd61 w62 by rw [hw]; exact below_box _ _)
                        have R62a := Lib.hid (R61a.out.belowW HC62.out)
                        have R62o := Lib.hid (R61o.out.trans (HC62.out.mono R61o.out.size))
                        have R62p := Lib.hid (show Blk w62 wd61.heap.size 40 #[.int .i64 0, .int .i64 0] by rw [hw]; exact Blk.new _ _ _)
                        have R62m9 := Lib.hid (show w.heap.size ≠ wd61.heap.size from Nat.ne_of_lt R61a.out.lt)
                        have R62l9 := Lib.hid (show w.heap.size ≤ wd61.heap.size from R61o.out.size)
                        rw [← hw]
                        clear hw
                        clear hHeld
                        refine hK.out _ _ ?_ (fun hHeld => ?_)
                        case refine_1 => exact ⟨R62a.out.cell 0, R62a.out.cell 1, R62a.out.cell 2, R62a.out.cell 3, R62a.out.cell 4, R62a.out.cell 5⟩
                        clear hK K
                        try simp only [setIfInBounds_toArray, set_cons_zero, set_cons_succ]
                        refine wpAnyH_ready (rs := [14, 19]) (by kernel_rfl) (by simp) ?_
                        refine (AllReadyH.cons rfl (fun K hK => ?_) (AllReadyH.cons rfl (fun K hK => ?_) AllReadyH.nil))
                        · go_simp
                          (with_reducible refine (KP.out w62 (R62o.out)).mono ?_)
                          rintro e w63 ⟨v, ln, co, er, rfl, HC63, HQR⟩
                          have R63a := Lib.hid (R62a.out.belowW HC63.out)
                          have R63o := Lib.hid (R62o.out.trans (HC63.out.mono R62o.out.size))
                          have R63p := Lib.hid (R62p.out.belowW HC63.out)
                          have R63m9 := Lib.hid (R62m9.out)
                          have R63l9 := Lib.hid (R62l9.out)
                          have R63q := Lib.hid (HQR.out)
                          have R63h := Lib.hid (Nat.le_refl w63.heap.size)
                          have R63k9 := Lib.hid ((show wd61.heap.size < w62.heap.size ∨ w63.heap.size ≤ wd61.heap.size from Or.inl R62p.out.lt))
                          go_wp2_with fail
                          clear hHeld
                          refine hK.out _ _ ?_ (fun hHeld => ?_)
                          case refine_1 => exact ⟨R63a.out.cell 0, R63a.out.cell 1, R63a.out.cell 2, R63a.out.cell 3, R63a.out.cell 4, R63a.out.cell 5⟩
                          clear hK K
                          try simp only [setIfInBounds_toArray, set_cons_zero, set_cons_succ]
                          refine tkW 15 ?_
                          refine tkW 16 ?_
                          refine tkW 17 ?_
                          refine tkW 18 ?_
                          refine wpAnyH_ready (rs := [19]) (by kernel_rfl) (by simp) ?_
                          refine (AllReadyH.cons rfl (fun K hK => ?_) AllReadyH.nil)
                          go_simp
                          obtain ⟨w64, hw⟩ : ∃ z9 : World, z9 = w63.alloc (Obj.cells #[.int .i64 0, .int .i64 0, .int .i64 0, .string ⟨#[]⟩, .int .i64 0, .slice none 0 0] 29) := ⟨_, rfl⟩
                          have HC64 := Lib.hid (show Below w63.heap.size w63 w64 by rw [hw]; exact below_box _ _)
                          have R64a := Lib.hid (R63a.out.belowW HC64.out)
                          have R64o := Lib.hid (R63o.out.trans (HC64.out.mono R63o.out.size))
                          have R64p := Lib.hid (R63p.out.belowW HC64.out)
                          have R64m9 := Lib.hid (R63m9.out)
                          have R64l9 := Lib.hid (R63l9.out)
                          have R64q := Lib.hid (R63q.out.belowW HC64.out)
                          have R64h := Lib.hid (Nat.le_trans R63h.out HC64.out.size)
                          have R64k9 := Lib.hid (R63k9.out)
                          have R64e := Lib.hid (show Blk w64 w63.heap.size 29 #[.int .i64 0, .int .i64 0, .int .i64 0, .string ⟨#[]⟩, .int .i64 0, .slice none 0 0] by rw [hw]; exact Blk.new _ _ _)
                          have R64m8 := Lib.hid (show w.heap.size ≠ w63.heap.size from Nat.ne_of_lt R63a.out.lt)
                          have R64m89 := Lib.hid (show w63.heap.size ≠ wd61.heap.size from (Nat.ne_of_lt R63p.out.lt).symm)
                          have R64k8 := Lib.hid ((show w63.heap.size < w62.heap.size ∨ w63.heap.size ≤ w63.heap.size from Or.inr R63h.out))
                          have R64l8 := Lib.hid (show w.heap.size ≤ w63.heap.size from R63o.out.size)
                          rw [← hw]
                          clear hw
                          clear hHeld
                          refine hK.out _ _ ?_ (fun hHeld => ?_)
                          case refine_1 => exact ⟨R64a.out.cell 0, R64a.out.cell 1, R64a.out.cell 2, R64a.out.cell 3, R64a.out.cell 4, R64a.out.cell 5⟩
                          clear hK K
                          try simp only [setIfInBounds_toArray, set_cons_zero, set_cons_succ]
                          refine wpAnyH_ready (rs := [21]) (by kernel_rfl) (by simp) ?_
                          refine (AllReadyH.cons rfl (fun K hK => ?_) AllReadyH.nil)
                          obtain ⟨ps0, fs0, ps1, fs1, ps2, fs2, ps3, fs3, ps4, fs4, ps5, fs5⟩ := R64e.out.all6
                          go_simp
                          rw [pst6 R64e.out]
                          clear ps0 fs0 ps1 fs1 ps2 fs2 ps3 fs3 ps4 fs4 ps5 fs5
                          have R65a := Lib.hid (R64a.out.far (t' := 29) R64m8.out #[.int .i64 v.h.kind, .int .i64 v.h.n, .int .i64 v.h.d, .string v.h.name, .int .i64 v.h.k, .slice v.A v.len v.cap])
                          have R65o := Lib.hid (R64o.out.trans (putB_below w64 (w63.heap.size) 29 #[.int .i64 v.h.kind, .int .i64 v.h.n, .int .i64 v.h.d, .string v.h.name, .int .i64 v.h.k, .slice v.A v.len v.cap] R64l8.out))
                          have R65p := Lib.hid (R64p.out.far (t' := 29) (R64m89.out.symm) #[.int .i64 v.h.kind, .int .i64 v.h.n, .int .i64 v.h.d, .string v.h.name, .int .i64 v.h.k, .slice v.A v.len v.cap])
                          have R65m9 := Lib.hid (R64m9.out)
                          have R65l9 := Lib.hid (R64l9.out)
                          have R65q := Lib.hid (R64q.out.far _ R64k8.out 29 #[.int .i64 v.h.kind, .int .i64 v.h.n, .int .i64 v.h.d, .string v.h.name, .int .i64 v.h.k, .slice v.A v.len v.cap])
                          have R65k9 := Lib.hid (R64k9.out)
                          have R65m8 := Lib.hid (R64m8.out)
                          have R65m89 := Lib.hid (R64m89.out)
                          have R65k8 := Lib.hid (R64k8.out)
                          have R65l8 := Lib.hid (R64l8.out)
                          have R65zz := Lib.hid (R64e.out.put #[.int .i64 v.h.kind, .int .i64 v.h.n, .int .i64 v.h.d, .string v.h.name, .int .i64 v.h.k, .slice v.A v.len v.cap])
                          obtain ⟨w65, hw9⟩ : ∃ z9 : World, z9 = putB w64 (w63.heap.size) 29 #[.int .i64 v.h.kind, .int .i64 v.h.n, .int .i64 v.h.d, .string v.h.name, .int .i64 v.h.k, .slice v.A v.len v.cap] := ⟨_, rfl⟩
                          try rw [← hw9] at R65a
                          try rw [← hw9] at R65o
                          try rw [← hw9] at R65p
                          try rw [← hw9] at R65m9
                          try rw [← hw9] at R65l9
                          try rw [← hw9] at R65q
                          try rw [← hw9] at R65k9
                          try rw [← hw9] at R65m8
                          try rw [← hw9] at R65m89
                          try rw [← hw9] at R65k8
                          try rw [← hw9] at R65l8
                          try rw [← hw9] at R65zz
                          rw [← hw9]
                          clear hw9 hHeld
                          refine hK.out _ _ ?_ (fun hHeld => ?_)
                          case refine_1 => exact ⟨R65a.out.cell 0, R65a.out.cell 1, R65a.out.cell 2, R65a.out.cell 3, R65a.out.cell 4, R65a.out.cell 5⟩
                          clear hK K
                          try simp only [setIfInBounds_toArray, set_cons_zero, set_cons_succ]
                          refine wpAnyH_ready (rs := [22]) (by kernel_rfl) (by simp) ?_
                          refine (AllReadyH.cons rfl (fun K hK => ?_) AllReadyH.nil)
                          obtain ⟨ps0, fs0, ps1, fs1⟩ := R65p.out.all2
                          go_simp
                          rw [pst2 R65p.out]
                          clear ps0 fs0 ps1 fs1
                          have R66a := Lib.hid (R65a.out.far (t' := 40) R65m9.out #[.int .i64 (ln : Nat), .int .i64 (co : Nat)])
                          have R66o := Lib.hid (R65o.out.trans (putB_below w65 (wd61.heap.size) 40 #[.int .i64 (ln : Nat), .int .i64 (co : Nat)] R65l9.out))
                          have R66m9 := Lib.hid (R65m9.out)
                          have R66l9 := Lib.hid (R65l9.out)
                          have R66q := Lib.hid (R65q.out.far _ R65k9.out 40 #[.int .i64 (ln : Nat), .int .i64 (co : Nat)])
                          have R66k9 := Lib.hid (R65k9.out)
                          have R66m8 := Lib.hid (R65m8.out)
                          have R66m89 := Lib.hid (R65m89.out)
                          have R66k8 := Lib.hid (R65k8.out)
                          have R66l8 := Lib.hid (R65l8.out)
                          have R66e := Lib.hid (R65zz.out.far (t' := 40) (R65m89.out) #[.int .i64 (ln : Nat), .int .i64 (co : Nat)])
                          have R66zz := Lib.hid (R65p.out.put #[.int .i64 (ln : Nat), .int .i64 (co : Nat)])
                          obtain ⟨w66, hw9⟩ : ∃ z9 : World, z9 = putB w65 (wd61.heap.size) 40 #[.int .i64 (ln : Nat), .int .i64 (co : Nat)] := ⟨_, rfl⟩
                          try rw [← hw9] at R66a
                          try rw [← hw9] at R66o
                          try rw [← hw9] at R66m9
                          try rw [← hw9] at R66l9
                          try rw [← hw9] at R66q
                          try rw [← hw9] at R66k9
                          try rw [← hw9] at R66m8
                          try rw [← hw9] at R66m89
                          try rw [← hw9] at R66k8
                          try rw [← hw9] at R66l8
                          try rw [← hw9] at R66e
                          try rw [← hw9] at R66zz
                          rw [← hw9]
                          clear hw9 hHeld
                          refine hK.out _ _ ?_ (fun hHeld => ?_)
                          case refine_1 => exact ⟨R66a.out.cell 0, R66a.out.cell 1, R66a.out.cell 2, R66a.out.cell 3, R66a.out.cell 4, R66a.out.cell 5⟩
                          clear hK K
                          try simp only [setIfInBounds_toArray, set_cons_zero, set_cons_succ]
                          refine tkW 23 ?_
                          refine wpAnyH_done (by kernel_rfl) ?_ _
                          obtain ⟨a0, _, a1, _, a2, _, a3, _, a4, _, a5, _⟩ := R66a.out.all6
                          obtain ⟨z0, _, z1, _, z2, _, z3, _, z4, _, z5, _⟩ := R66e.out.all6
                          by_cases her : er = 0
                          · have d9 : (((er : Nat) : Int) != 0) = false := by rw [her]; rfl
                            obtain ⟨T1, hT1, hX1⟩ : ∃ T1, T1 ≠ T ∧ InE w66 T1 v := by
                              rcases R66q.out with h | ⟨T1, h1, h2⟩
                              · exact absurd her h
                              · exact ⟨T1, h1, h2.toE⟩
                            clear her
                            go_wp2_with fail
                            refine (show Calls Tryz.prog 28 #[.agg #[.int .i64 v.h.kind, .int .i64 v.h.n, .int .i64 v.h.d, .string v.h.name, .int .i64 v.h.k, .slice v.A v.len v.cap], .agg #[.int .i64 kd, .int .i64 n, .int .i64 d, .string nm, .int .i64 k, .slice A len cap]] w66 _ from treeEqual_any T1 T v ⟨⟨kd, n, d, nm, k⟩, A, len, cap⟩ w66 hX1 (HIN.out.go R66o.out)).mono ?_
                            rintro e w7 ⟨r, rfl, HR7, HB7⟩
                            have hr : r = false := by
                              cases r with
                              | false => rfl
                              | true => exact absurd (HR7.out.1 rfl).2.2 hT1
                            subst hr
                            go_wp2_with fail
                            go_ret
                            exact ⟨ret_bool (by simp), Lib.hid (R66o.out.trans (HB7.out.mono R66o.out.size))⟩
                          · have d9 : (((er : Nat) : Int) != 0) = true := by rw [bne_iff_ne]; omega
                            go_wp2_with fail
                            go_ret
                            exact ⟨ret_bool (by simp), R66o⟩
                        · go_simp
                          obtain ⟨w63, hw⟩ : ∃ z9 : World, z9 = w62.alloc (Obj.cells #[.int .i64 0, .int .i64 0, .int .i64 0, .string ⟨#[]⟩, .int .i64 0, .slice none 0 0] 29) := ⟨_, rfl⟩
                          have HC63 := Lib.hid (show Below w62.heap.size w62 w63 by rw [hw]; exact below_box _ _)
                          have R63a := Lib.hid (R62a.out.belowW HC63.out)
                          have R63o := Lib.hid (R62o.out.trans (HC63.out.mono R62o.out.size))
                          have R63p := Lib.hid (R62p.out.belowW HC63.out)
                          have R63m9 := Lib.hid (R62m9.out)
                          have R63l9 := Lib.hid (R62l9.out)
                          have R63e := Lib.hid (show Blk w63 w62.heap.size 29 #[.int .i64 0, .int .i64 0, .int .i64 0, .string ⟨#[]⟩, .int .i64 0, .slice none 0 0] by rw [hw]; exact Blk.new _ _ _)
                          have R63m8 := Lib.hid (show w.heap.size ≠ w62.heap.size from Nat.ne_of_lt R62a.out.lt)
                          have R63m89 := Lib.hid (show w62.heap.size ≠ wd61.heap.size from (Nat.ne_of_lt R62p.out.lt).symm)
                          have R63l8 := Lib.hid (show w.heap.size ≤ w62.heap.size from R62o.out.size)
                          rw [← hw]
                          clear hw
                          clear hHeld
                          refine hK.out _ _ ?_ (fun hHeld => ?_)
                          case refine_1 => exact ⟨R63a.out.cell 0, R63a.out.cell 1, R63a.out.cell 2, R63a.out.cell 3, R63a.out.cell 4, R63a.out.cell 5⟩
                          clear hK K
                          try simp only [setIfInBounds_toArray, set_cons_zero, set_cons_succ]
                          refine wpAnyH_ready (rs := [14]) (by kernel_rfl) (by simp) ?_
                          refine (AllReadyH.cons rfl (fun K hK => ?_) AllReadyH.nil)
                          go_simp
                          (with_reducible refine (KP.out w63 (R63o.out)).mono ?_)
                          rintro e w64 ⟨v, ln, co, er, rfl, HC64, HQR⟩
                          have R64a := Lib.hid (R63a.out.belowW HC64.out)
                          have R64o := Lib.hid (R63o.out.trans (HC64.out.mono R63o.out.size))
                          have R64p := Lib.hid (R63p.out.belowW HC64.out)
                          have R64m9 := Lib.hid (R63m9.out)
                          have R64l9 := Lib.hid (R63l9.out)
                          have R64e := Lib.hid (R63e.out.belowW HC64.out)
                          have R64m8 := Lib.hid (R63m8.out)
                          have R64m89 := Lib.hid (R63m89.out)
                          have R64l8 := Lib.hid (R63l8.out)
                          have R64q := Lib.hid (HQR.out)
                          have R64h := Lib.hid (Nat.le_refl w64.heap.size)
                          have R64k8 := Lib.hid ((show w62.heap.size < w63.heap.size ∨ w64.heap.size ≤ w62.heap.size from Or.inl R63e.out.lt))
                          have R64k9 := Lib.hid ((show wd61.heap.size < w63.heap.size ∨ w64.heap.size ≤ wd61.heap.size from Or.inl R63p.out.lt))
                          go_wp2_with fail
                          clear hHeld
                          refine hK.out _ _ ?_ (fun hHeld => ?_)
                          case refine_1 => exact ⟨R64a.out.cell 0, R64a.out.cell 1, R64a.out.cell 2, R64a.out.cell 3, R64a.out.cell 4, R64a.out.cell 5⟩
                          clear hK K
                          try simp only [setIfInBounds_toArray, set_cons_zero, set_cons_succ]
                          refine tkW 15 ?_
                          refine tkW 16 ?_
                          refine tkW 17 ?_
                          refine tkW 18 ?_
                          refine wpAnyH_ready (rs := [21]) (by kernel_rfl) (by simp) ?_
                          refine (AllReadyH.cons rfl (fun K hK => ?_) AllReadyH.nil)
                          obtain ⟨ps0, fs0, ps1, fs1, ps2, fs2, ps3, fs3, ps4, fs4, ps5, fs5⟩ := R64e.out.all6
                          go_simp
                          rw [pst6 R64e.out]
                          clear ps0 fs0 ps1 fs1 ps2 fs2 ps3 fs3 ps4 fs4 ps5 fs5
                          have R65a := Lib.hid (R64a.out.far (t' := 29) R64m8.out #[.int .i64 v.h.kind, .int .i64 v.h.n, .int .i64 v.h.d, .string v.h.name, .int .i64 v.h.k, .slice v.A v.len v.cap])
                          have R65o := Lib.hid (R64o.out.trans (putB_below w64 (w62.heap.size) 29 #[.int .i64 v.h.kind, .int .i64 v.h.n, .int .i64 v.h.d, .string v.h.name, .int .i64 v.h.k, .slice v.A v.len v.cap] R64l8.out))
                          have R65p := Lib.hid (R64p.out.far (t' := 29) (R64m89.out.symm) #[.int .i64 v.h.kind, .int .i64 v.h.n, .int .i64 v.h.d, .string v.h.name, .int .i64 v.h.k, .slice v.A v.len v.cap])
                          have R65m9 := Lib.hid (R64m9.out)
                          have R65l9 := Lib.hid (R64l9.out)
                          have R65m8 := Lib.hid (R64m8.out)
                          have R65m89 := Lib.hid (R64m89.out)
                          have R65l8 := Lib.hid (R64l8.out)
                          have R65q := Lib.hid (R64q.out.far _ R64k8.out 29 #[.int .i64 v.h.kind, .int .i64 v.h.n, .int .i64 v.h.d, .string v.h.name, .int .i64 v.h.k, .slice v.A v.len v.cap])
                          have R65k8 := Lib.hid (R64k8.out)
                          have R65k9 := Lib.hid (R64k9.out)
                          have R65zz := Lib.hid (R64e.out.put #[.int .i64 v.h.kind, .int .i64 v.h.n, .int .i64 v.h.d, .string v.h.name, .int .i64 v.h.k, .slice v.A v.len v.cap])
                          obtain ⟨w65, hw9⟩ : ∃ z9 : World, z9 = putB w64 (w62.heap.size) 29 #[.int .i64 v.h.kind, .int .i64 v.h.n, .int .i64 v.h.d, .string v.h.name, .int .i64 v.h.k, .slice v.A v.len v.cap] := ⟨_, rfl⟩
                          try rw [← hw9] at R65a
                          try rw [← hw9] at R65o
                          try rw [← hw9] at R65p
                          try rw [← hw9] at R65m9
                          try rw [← hw9] at R65l9
                          try rw [← hw9] at R65m8
                          try rw [← hw9] at R65m89
                          try rw [← hw9] at R65l8
                          try rw [← hw9] at R65q
                          try rw [← hw9] at R65k8
                          try rw [← hw9] at R65k9
                          try rw [← hw9] at R65zz
                          rw [← hw9]
                          clear hw9 hHeld
                          refine hK.out _ _ ?_ (fun hHeld => ?_)
                          case refine_1 => exact ⟨R65a.out.cell 0, R65a.out.cell 1, R65a.out.cell 2, R65a.out.cell 3, R65a.out.cell 4, R65a.out.cell 5⟩
                          clear hK K
                          try simp only [setIfInBounds_toArray, set_cons_zero, set_cons_succ]
                          refine wpAnyH_ready (rs := [22]) (by kernel_rfl) (by simp) ?_
                          refine (AllReadyH.cons rfl (fun K hK => ?_) AllReadyH.nil)
                          obtain ⟨ps0, fs0, ps1, fs1⟩ := R65p.out.all2
                          go_simp
                          rw [pst2 R65p.out]
                          clear ps0 fs0 ps1 fs1
                          have R66a := Lib.hid (R65a.out.far (t' := 40) R65m9.out #[.int .i64 (ln : Nat), .int .i64 (co : Nat)])
                          have R66o := Lib.hid (R65o.out.trans (putB_below w65 (wd61.heap.size) 40 #[.int .i64 (ln : Nat), .int .i64 (co : Nat)] R65l9.out))
                          have R66m9 := Lib.hid (R65m9.out)
                          have R66l9 := Lib.hid (R65l9.out)
                          have R66m8 := Lib.hid (R65m8.out)
                          have R66m89 := Lib.hid (R65m89.out)
                          have R66l8 := Lib.hid (R65l8.out)
                          have R66q := Lib.hid (R65q.out.far _ R65k9.out 40 #[.int .i64 (ln : Nat), .int .i64 (co : Nat)])
                          have R66k8 := Lib.hid (R65k8.out)
                          have R66k9 := Lib.hid (R65k9.out)
                          have R66e := Lib.hid (R65zz.out.far (t' := 40) (R65m89.out) #[.int .i64 (ln : Nat), .int .i64 (co : Nat)])
                          have R66zz := Lib.hid (R65p.out.put #[.int .i64 (ln : Nat), .int .i64 (co : Nat)])
                          obtain ⟨w66, hw9⟩ : ∃ z9 : World, z9 = putB w65 (wd61.heap.size) 40 #[.int .i64 (ln : Nat), .int .i64 (co : Nat)] := ⟨_, rfl⟩
                          try rw [← hw9] at R66a
                          try rw [← hw9] at R66o
                          try rw [← hw9] at R66m9
                          try rw [← hw9] at R66l9
                          try rw [← hw9] at R66m8
                          try rw [← hw9] at R66m89
                          try rw [← hw9] at R66l8
                          try rw [← hw9] at R66q
                          try rw [← hw9] at R66k8
                          try rw [← hw9] at R66k9
                          try rw [← hw9] at R66e
                          try rw [← hw9] at R66zz
                          rw [← hw9]
                          clear hw9 hHeld
                          refine hK.out _ _ ?_ (fun hHeld => ?_)
                          case refine_1 => exact ⟨R66a.out.cell 0, R66a.out.cell 1, R66a.out.cell 2, R66a.out.cell 3, R66a.out.cell 4, R66a.out.cell 5⟩
                          clear hK K
                          try simp only [setIfInBounds_toArray, set_cons_zero, set_cons_succ]
                          refine tkW 23 ?_
                          refine wpAnyH_done (by kernel_rfl) ?_ _
                          obtain ⟨a0, _, a1, _, a2, _, a3, _, a4, _, a5, _⟩ := R66a.out.all6
                          obtain ⟨z0, _, z1, _, z2, _, z3, _, z4, _, z5, _⟩ := R66e.out.all6
                          by_cases her : er = 0
                          · have d9 : (((er : Nat) : Int) != 0) = false := by rw [her]; rfl
                            obtain ⟨T1, hT1, hX1⟩ : ∃ T1, T1 ≠ T ∧ InE w66 T1 v := by
                              rcases R66q.out with h | ⟨T1, h1, h2⟩
                              · exact absurd her h
                              · exact ⟨T1, h1, h2.toE⟩
                            clear her
                            go_wp2_with fail
                            refine (show Calls Tryz.prog 28 #[.agg #[.int .i64 v.h.kind, .int .i64 v.h.n, .int .i64 v.h.d, .string v.h.name, .int .i64 v.h.k, .slice v.A v.len v.cap], .agg #[.int .i64 kd, .int .i64 n, .int .i64 d, .string nm, .int .i64 k, .slice A len cap]] w66 _ from treeEqual_any T1 T v ⟨⟨kd, n, d, nm, k⟩, A, len, cap⟩ w66 hX1 (HIN.out.go R66o.out)).mono ?_
                            rintro e w7 ⟨r, rfl, HR7, HB7⟩
                            have hr : r = false := by
                              cases r with
                              | false => rfl
                              | true => exact absurd (HR7.out.1 rfl).2.2 hT1
                            subst hr
                            go_wp2_with fail
                            go_ret
                            exact ⟨ret_bool (by simp), Lib.hid (R66o.out.trans (HB7.out.mono R66o.out.size))⟩
                          · have d9 : (((er : Nat) : Int) != 0) = true := by rw [bne_iff_ne]; omega
                            go_wp2_with fail
                            go_ret
                            exact ⟨ret_bool (by simp), R66o⟩
                  · have d2 : ((S[j].toNat : Int) == 41) = false := by
                      rw [beq_eq_false_iff_ne]
                      intro e
                      apply h41
                      rw [← UInt8.toNat_inj]
                      have : (41 : UInt8).toNat = 41 := rfl
                      omega
                    have d3 : decide (0 < ee) = true := decide_eq_true (by omega)
                    clear h41
                    go_wp2_with fail
                    go_roundg (S.size - (j + 1))
                    case measure => omega
                    case rel => exact ⟨ee, j + 1, by go_num, by go_num, by omega, by omega, rfl, by omega, .inr ⟨by omega, by omega⟩, rfl⟩
              · have dlt2 : decide (j < S.size) = false := decide_eq_false hlt2
                go_wp2_with fail
                go_roundg (S.size - (i + 1))
                case measure => omega
                case rel => exact ⟨i + 1, by go_num, by omega, rfl, FR, HLR⟩
      · go_wp2_with fail
        go_ret
        exact ⟨rfl, HLR⟩
end Go.Proofs.YtkjoohnndobjeaaGreatDoor
