/-
  The walk of the reference's Box.
-/
import Derived.Test.YtoogeihbhhcpaaaGreatDoorFrD
set_option linter.unusedVariables false
namespace Go.Proofs.YtoogeihbhhcpaaaGreatDoor
open Go.RowKit Go.Fl Go.Fl.Nm Go.Fl.Dy Go.Fl.Rt Go.Fl.Fm
def SRel (w : World) (q : Nat) (xs : List IvN) (k : Nat) (sv iv : Value) (wr : World) : Prop :=
  ∃ (j : Nat) (S : ByteArray), sv = .string S ∧ iv = .int .i64 j ∧ j ≤ xs.length ∧ k = xs.length - j ∧ S.size ≤ 20010 * j ∧ Hid ((xs.take j).any (fun x => (x.txt q).isEmpty) = false) ∧ Hid (S.data.toList = Lib.join ((xs.take j).map (IvN.txt q)) [32, 120, 32]) ∧ Hid (Below w.heap.size w wr)
set_option maxHeartbeats 4000000 in
set_option maxRecDepth 100000 in
theorem box_s (A : Option Addr) (len cap : Nat) (xs : List IvN) (q : Int) (w : World) (hx : InB w A len cap xs) :
    Calls Tryz.prog 13 #[.slice A len cap, .int .i64 q] w (StrE (boxT xs q).1 (boxT xs q).2 w) := by
  have HX := Lib.hid hx
  have HN := Lib.hid hx.hl
  clear hx
  by_cases h1 : len < 1
  · have d1 : decide ((len : Int) < 1) = true := decide_eq_true (by omega)
    have HE := Lib.hid (show boxT xs q = ([], 1) by unfold boxT; rw [if_pos (.inl (by rw [HN.out]; exact h1))])
    go_enter Tryz.func13, Tryz.ntmps13
    go_wp2_with fail
    refine bodyPost_ret (v := .tuple #[.string ⟨#[]⟩, .int .i64 1]) (by simp [results, Tryz.results13, go_sem]) rfl ?_
    rw [HE.out]
    exact ⟨_, rfl, Lib.hid rfl, Lib.hid (Below.refl _ _)⟩
  have d1 : decide ((len : Int) < 1) = false := decide_eq_false (by omega)
  by_cases h2 : 8 < len
  · have d2 : decide ((8 : Int) < (len : Int)) = true := decide_eq_true (by omega)
    have HE := Lib.hid (show boxT xs q = ([], 1) by unfold boxT; rw [if_pos (.inr (by rw [HN.out]; exact h2))])
    go_enter Tryz.func13, Tryz.ntmps13
    go_wp2_with fail
    refine bodyPost_ret (v := .tuple #[.string ⟨#[]⟩, .int .i64 1]) (by simp [results, Tryz.results13, go_sem]) rfl ?_
    rw [HE.out]
    exact ⟨_, rfl, Lib.hid rfl, Lib.hid (Below.refl _ _)⟩
  have d2 : decide ((8 : Int) < (len : Int)) = false := decide_eq_false (by omega)
  have HE1 := Lib.hid (show boxT xs q = if xs.all IvN.ok = false then ([], 1)
      else if q < 0 ∨ 50 < q then ([], 2)
      else if xs.any (fun x => (x.txt q.toNat).isEmpty) = true then ([], 9)
      else (Lib.join (xs.map (IvN.txt q.toNat)) [32, 120, 32], 0) by unfold boxT; rw [if_neg (by rw [HN.out]; omega)])
  go_enter Tryz.func13, Tryz.ntmps13
  go_wp2_with fail
  clear d1 d2
  go_loopg [6] len (VRel w xs)
  case atStart => exact ⟨0, rfl, by omega, by rw [HN.out]; rfl, Lib.hid (by simp), Lib.hid (Below.refl _ _)⟩
  case round =>
    obtain ⟨j, rfl, hj, rfl, HF, HL⟩ := hrel
    rw [HN.out] at hj
    by_cases hlt : j < len
    · obtain ⟨b, o, x, hA, ht, hin, h7⟩ := (HX.out.belowW HL.out).at_ j hlt
      subst hA
      obtain ⟨hbl, x0, x1, x2, x3, x4, x5, x6⟩ := h7
      have HIN := Lib.hid hin
      have HTK := Lib.hid (take_snoc9 xs j x ht)
      have HME := Lib.hid (List.mem_of_getElem? ht)
      have hls := HL.out.size
      have d3 : decide ((j : Int) < (len : Int)) = true := decide_eq_true (by omega)
      clear ht hin
      cases hp : x.ok with
      | false =>
        have HE := Lib.hid (show boxT xs q = ([], 1) by
          rw [HE1.out, if_pos (by rw [List.all_eq_false]; exact ⟨x, HME.out, by rw [hp]; simp⟩)])
        go_wp2_with fail
        refine (ivalid_s x _ HIN.out).mono ?_
        rw [hp]
        rintro e w2 ⟨rfl, HB⟩
        go_wp2_with fail
        refine bodyPost_ret (v := .tuple #[.string ⟨#[]⟩, .int .i64 1]) (by simp [results, Tryz.results13, go_sem]) rfl ?_
        rw [HE.out]
        exact ⟨_, rfl, Lib.hid rfl, Lib.hid (HL.out.trans (HB.out.mono hls))⟩
      | true =>
        go_wp2_with fail
        refine (ivalid_s x _ HIN.out).mono ?_
        rw [hp]
        rintro e w2 ⟨rfl, HB⟩
        have HL2 := Lib.hid (HL.out.trans (HB.out.mono hls))
        go_wp2_with fail
        go_roundg (xs.length - (j + 1))
        case measure => rw [HN.out]; omega
        case rel => exact ⟨j + 1, by go_num, by rw [HN.out]; omega, rfl, Lib.hid (by rw [HTK.out, List.all_append, HF.out]; simp [hp]), HL2⟩
    · have hjn : j = len := by omega
      subst hjn
      have HF' := Lib.hid (show xs.all IvN.ok = true by have := HF.out; rwa [← HN.out, List.take_length] at this)
      have HE2 := Lib.hid (show boxT xs q = if q < 0 ∨ 50 < q then ([], 2)
        else if xs.any (fun x => (x.txt q.toNat).isEmpty) = true then ([], 9)
        else (Lib.join (xs.map (IvN.txt q.toNat)) [32, 120, 32], 0) by rw [HE1.out, if_neg (by rw [HF'.out]; simp)])
      have d3 : decide ((j : Int) < (j : Int)) = false := decide_eq_false (by omega)
      have HXR := Lib.hid (HX.out.belowW HL.out)
      clear HX HF HE1 hlt
      by_cases h3 : q < 0
      · have d4 : decide (q < 0) = true := decide_eq_true h3
        have HE := Lib.hid (show boxT xs q = ([], 2) by rw [HE2.out, if_pos (.inl h3)])
        clear h3
        go_wp2_with fail
        refine bodyPost_ret (v := .tuple #[.string ⟨#[]⟩, .int .i64 2]) (by simp [results, Tryz.results13, go_sem]) rfl ?_
        rw [HE.out]
        exact ⟨_, rfl, Lib.hid rfl, HL⟩
      have d4 : decide (q < 0) = false := decide_eq_false h3
      by_cases h4 : 50 < q
      · have d5 : decide (50 < q) = true := decide_eq_true h4
        have HE := Lib.hid (show boxT xs q = ([], 2) by rw [HE2.out, if_pos (.inr h4)])
        clear h3 h4
        go_wp2_with fail
        refine bodyPost_ret (v := .tuple #[.string ⟨#[]⟩, .int .i64 2]) (by simp [results, Tryz.results13, go_sem]) rfl ?_
        rw [HE.out]
        exact ⟨_, rfl, Lib.hid rfl, HL⟩
      have d5 : decide (50 < q) = false := decide_eq_false h4
      obtain ⟨p, rfl⟩ := Int.eq_ofNat_of_zero_le (show 0 ≤ q by omega)
      have hp50 : p ≤ 50 := by omega
      have HE3 := Lib.hid (show boxT xs (p : Int) = if xs.any (fun x => (x.txt p).isEmpty) = true then ([], 9)
        else (Lib.join (xs.map (IvN.txt p)) [32, 120, 32], 0) by rw [HE2.out, if_neg (by omega), Int.toNat_natCast])
      clear h3 h4 HE2
      go_wp2_with fail
      clear d4 d5 d3
      obtain ⟨w5, rfl⟩ : ∃ z : World, z = wr := ⟨_, rfl⟩
      go_loopg [7, 8] j (fun k sv iv wr' => SRel w5 p xs k sv iv wr')
      case atStart => exact ⟨0, ⟨#[]⟩, rfl, rfl, by omega, by rw [HN.out]; rfl, by simp [ByteArray.size], by unfold Hid; simp, by unfold Hid; simp [Lib.join_nil], Below.refl _ _⟩
      case round =>
        obtain ⟨i, S, rfl, rfl, hi, rfl, hS, HG, HS, HW⟩ := hrel
        rw [HN.out] at hi
        by_cases hlt : i < j
        · obtain ⟨b, o, x, hA, ht, hin, h7⟩ := (HXR.out.belowW HW.out).at_ i hlt
          subst hA
          obtain ⟨hbl, x0, x1, x2, x3, x4, x5, x6⟩ := h7
          have HIN := Lib.hid hin
          have HTK := Lib.hid (take_snoc9 xs i x ht)
          have HME := Lib.hid (List.mem_of_getElem? ht)
          have HOK := Lib.hid (List.all_eq_true.1 HF'.out x HME.out)
          have hls := HW.out.size
          have d3 : decide ((i : Int) < (j : Int)) = true := decide_eq_true (by omega)
          obtain ⟨X, hX⟩ : ∃ X : ByteArray, X = ⟨(x.txt p).toArray⟩ := ⟨_, rfl⟩
          have HXE := Lib.hid (show X.toList.isEmpty = (x.txt p).isEmpty by rw [hX]; exact isE)
          have HXT := Lib.hid (show X.data.toList = x.txt p by rw [hX])
          have hXS : X.size ≤ 20000 := by rw [strp_size HXT.out]; exact iv_len hp50
          have HXV := Lib.hid hX
          clear ht hin hX
          go_wp2_with fail
          refine (itext_s x p _ HIN.out HOK.out hp50).mono ?_
          rw [← HXV.out]
          rintro e w2 ⟨rfl, HB⟩
          have HL2 := Lib.hid (HW.out.trans (HB.out.mono hls))
          cases he : X.toList.isEmpty with
          | true =>
            have HE := Lib.hid (show boxT xs (p : Int) = ([], 9) by
              rw [HE3.out, if_pos (List.any_eq_true.2 ⟨x, HME.out, by rw [← HXE.out]; exact he⟩)])
            go_wp2_with fail
            refine bodyPost_ret (v := .tuple #[.string ⟨#[]⟩, .int .i64 9]) (by simp [results, Tryz.results13, go_sem]) rfl ?_
            rw [HE.out]
            exact ⟨_, rfl, Lib.hid rfl, Lib.hid (HL.out.trans (HL2.out.mono HL.out.size))⟩
          | false =>
            clear x0 x1 x2 x3 x4 x5 x6
            have HG2 := Lib.hid (show (xs.take (i + 1)).any (fun x => (x.txt p).isEmpty) = false by rw [HTK.out, List.any_append, HG.out]; simp [← HXE.out, he])
            have hi8 : i ≤ 8 := by omega
            by_cases h0 : 0 < i
            · have d6 : decide ((0 : Int) < (i : Int)) = true := decide_eq_true (by omega)
              have s1 : ¬ 9223372036854775807 < S.size + 3 := by omega
              have s2 : ¬ 9223372036854775807 < S.size + 3 + X.size := by omega
              have HJ := Lib.hid (show (S ++ ⟨#[32, 120, 32]⟩ ++ X).data.toList = Lib.join ((xs.take (i + 1)).map (IvN.txt p)) [32, 120, 32] by
                rw [HTK.out, List.map_append, List.map_cons, List.map_nil, join_snoc9 _ _ _ (by
                  intro h
                  have := congrArg List.length h
                  rw [List.length_map, List.length_take, HN.out, List.length_nil] at this
                  omega), data_app, data_app, HS.out, HXT.out])
              go_wp2_with fail
              go_roundg (xs.length - (i + 1))
              case measure => rw [HN.out]; omega
              case rel => exact ⟨i + 1, _, rfl, by go_num, by rw [HN.out]; omega, rfl, by rw [ByteArray.size_append, ByteArray.size_append, show (⟨#[32, 120, 32]⟩ : ByteArray).size = 3 from rfl]; omega, HG2, HJ, HL2⟩
            · have hi0 : i = 0 := by omega
              subst hi0
              have HSE := Lib.hid (show S.data.toList = [] by rw [HS.out]; simp [Lib.join_nil])
              have s1 : ¬ 9223372036854775807 < S.size + X.size := by omega
              have HJ := Lib.hid (show (S ++ X).data.toList = Lib.join ((xs.take (0 + 1)).map (IvN.txt p)) [32, 120, 32] by
                rw [HTK.out, data_app, HSE.out, HXT.out]
                simp [Lib.join_cons, Lib.joinTail])
              go_wp2_with fail
              go_roundg (xs.length - (0 + 1))
              case measure => rw [HN.out]; omega
              case rel => exact ⟨0 + 1, _, rfl, by go_num, by rw [HN.out]; omega, rfl, by rw [ByteArray.size_append]; omega, HG2, HJ, HL2⟩
        · have hij : i = j := by omega
          subst hij
          have HG' := Lib.hid (show xs.any (fun x => (x.txt p).isEmpty) = false by have := HG.out; rwa [← HN.out, List.take_length] at this)
          have HE := Lib.hid (show boxT xs (p : Int) = (Lib.join (xs.map (IvN.txt p)) [32, 120, 32], 0) by rw [HE3.out, if_neg (by rw [HG'.out]; simp)])
          have HSF := Lib.hid (show S.data.toList = Lib.join (xs.map (IvN.txt p)) [32, 120, 32] by have := HS.out; rwa [← HN.out, List.take_length] at this)
          have d3 : decide ((i : Int) < (i : Int)) = false := decide_eq_false (by omega)
          go_wp2_with fail
          refine bodyPost_ret (v := .tuple #[.string S, .int .i64 0]) (by simp [results, Tryz.results13, go_sem]) rfl ?_
          rw [HE.out]
          exact ⟨S, rfl, HSF, Lib.hid (HL.out.trans (HW.out.mono HL.out.size))⟩
end Go.Proofs.YtoogeihbhhcpaaaGreatDoor
