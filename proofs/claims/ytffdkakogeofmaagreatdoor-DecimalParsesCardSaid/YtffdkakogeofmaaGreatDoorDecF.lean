/-
  The walks of strings.Cut at one byte and decimal.digits.
-/
import Derived.Test.YtffdkakogeofmaaGreatDoorDecE
import Derived.Test.YtffdkakogeofmaaGreatDoorDecShelf
import Derived.Test.YtffdkakogeofmaaGreatDoorPkA
set_option linter.unusedVariables false
namespace Go.Fl.Rt
open Go.Lib
theorem isDig_eq : (Rt.isDig : UInt8 → Bool) = Nm.isDig := by
  funext b
  first | rfl | (unfold Rt.isDig Nm.isDig; rfl)
theorem trim_digits (l : List UInt8) : (trimS l [48, 49, 50, 51, 52, 53, 54, 55, 56, 57] = []) ↔ l.all Rt.isDig = true := by rw [isDig_eq]; exact Nm.trim_digits l
end Go.Fl.Rt
namespace Go.Proofs.YtffdkakogeofmaaGreatDoor
open Go.RowKit Go.Fl Go.Fl.Nm Go.Fl.Dy Go.Fl.Rt Go.Lib
def CutP (a b : List UInt8) (w : World) (e : Ending) (w' : World) : Prop :=
  ∃ A B : ByteArray, e = .returned (.tuple #[.string A, .string B, .bool true]) ∧ Hid (A.data.toList = a) ∧ Hid (B.data.toList = b) ∧ Hid (Below w.heap.size w w')
theorem take_pre (a b : List UInt8) (c : UInt8) (k : Nat) (h : a.length = k) : (a ++ c :: b).take k = a ∧ (a ++ c :: b).drop (k + 1) = b := by
  subst h
  constructor
  · simp
  · rw [List.drop_append]
    simp
set_option maxHeartbeats 1000000 in
theorem cutl_yes (s : ByteArray) (c : UInt8) (a b : List UInt8) (w : World) (hs : s.size ≤ 100000) (h : s.data.toList = a ++ c :: b) (hc : c ∉ a) :
    Calls Tryz.prog 55 #[.string s, .string ⟨#[c]⟩] w (CutP a b w) := by
  have hlen : s.size = a.length + 1 + b.length := by rw [← length_data, h]; simp; omega
  rcases indexByte_spec s.data.toList c with ⟨h1, h2⟩ | ⟨h1, i, h2, h3, h4, h5, h6⟩
  · exact absurd (by rw [h]; simp) h1
  · have hp := tw_stop (p := (· != c)) (a := a) (b := b) (c := c) (fun x hx => by simp; exact fun e => hc (e ▸ hx)) (by simp)
    rw [h] at h3 h4
    rw [hp.1] at h4
    have hi : a.length = i := by
      have := congrArg List.length h4
      rw [List.length_take] at this
      omega
    obtain ⟨t1, t2⟩ := take_pre a b c i hi
    have HA := Lib.hid (show (s.extract 0 i).data.toList = a by rw [Lib.extract_data, h]; simpa using t1)
    have HB := Lib.hid (show (s.extract (i + 1) s.size).data.toList = b by rw [Lib.extract_to_end, h]; exact t2)
    have KI := Lib.hid (Tryz.stringslite_Index_one s c w)
    rw [h2] at KI
    have i1 : i + 1 ≤ s.size := by omega
    have i2 : i ≤ s.size := by omega
    have s1 : IntKind.i64.wrap ((i : Int) + 1) = i + 1 := IntWalk.i64_in _ (by omega)
    have s2 : ((i : Int) + 1).toNat = i + 1 := by omega
    have d0 : decide ((0 : Int) ≤ i) = true := decide_eq_true (by omega)
    have p0 : (0 : Int) ≤ i := by omega
    have p1 : (0 : Int) ≤ (i : Int) + 1 := by omega
    have p2 : (i : Int) ≤ s.size := by omega
    have p3 : (i : Int) + 1 ≤ s.size := by omega
    clear h h1 h2 h3 h4 h5 h6 hi t1 t2 hp hlen hc
    go_enter Tryz.func55, Tryz.ntmps55
    go_wp2_with fail
    refine KI.out.mono ?_
    rintro e w' ⟨rfl, hw⟩
    obtain rfl := hw.symm
    go_wp2_with fail
    go_quiet (fail)
    go_wp2_with fail
    refine bodyPost_ret (v := .tuple #[.string (s.extract 0 i), .string (s.extract (i + 1) s.size), .bool true]) (by simp [results, Tryz.results55, go_sem]) rfl ?_
    exact ⟨_, _, rfl, HA, HB, Lib.hid (below_drewN (Below.refl _ _) _)⟩
set_option maxHeartbeats 1000000 in
theorem cutl_no (s : ByteArray) (c : UInt8) (w : World) (hs : s.size ≤ 100000) (hc : c ∉ s.data.toList) :
    Calls Tryz.prog 55 #[.string s, .string ⟨#[c]⟩] w fun e w' => e = .returned (.tuple #[.string s, .string ⟨#[]⟩, .bool false]) ∧ w = w' := by
  rcases indexByte_spec s.data.toList c with ⟨h1, h2⟩ | ⟨h1, _⟩
  · have KI := Lib.hid (Tryz.stringslite_Index_one s c w)
    rw [h2] at KI
    clear h1 h2 hc
    go_enter Tryz.func55, Tryz.ntmps55
    go_wp2_with fail
    refine KI.out.mono ?_
    rintro e w' ⟨rfl, hw⟩
    obtain rfl := hw.symm
    go_wp2_with fail
    refine bodyPost_ret (v := .tuple #[.string s, .string ⟨#[]⟩, .bool false]) (by simp [results, Tryz.results55, go_sem]) rfl ?_
    exact ⟨rfl, rfl⟩
  · exact absurd h1 hc
set_option maxHeartbeats 1000000 in
theorem cut_yes (s : ByteArray) (c : UInt8) (a b : List UInt8) (w : World) (hs : s.size ≤ 100000) (h : s.data.toList = a ++ c :: b) (hc : c ∉ a) :
    Calls Tryz.prog 24 #[.string s, .string ⟨#[c]⟩] w (CutP a b w) := by
  have K := Lib.hid (cutl_yes s c a b w hs h hc)
  clear h hc
  go_enter Tryz.func24, Tryz.ntmps24
  go_wp2_with fail
  refine K.out.mono ?_
  rintro e w1 ⟨A, B, rfl, HA, HB, HL⟩
  go_wp2_with fail
  refine bodyPost_ret (v := .tuple #[.string A, .string B, .bool true]) (by simp [results, Tryz.results24, go_sem]) rfl ?_
  exact ⟨_, _, rfl, HA, HB, HL⟩
set_option maxHeartbeats 1000000 in
theorem cut_no (s : ByteArray) (c : UInt8) (w : World) (hs : s.size ≤ 100000) (hc : c ∉ s.data.toList) :
    Calls Tryz.prog 24 #[.string s, .string ⟨#[c]⟩] w fun e w' => e = .returned (.tuple #[.string s, .string ⟨#[]⟩, .bool false]) ∧ w = w' := by
  have K := Lib.hid (cutl_no s c w hs hc)
  clear hc
  go_enter Tryz.func24, Tryz.ntmps24
  go_wp2_with fail
  refine K.out.mono ?_
  rintro e w1 ⟨rfl, rfl⟩
  go_wp2_with fail
  refine bodyPost_ret (v := .tuple #[.string s, .string ⟨#[]⟩, .bool false]) (by simp [results, Tryz.results24, go_sem]) rfl ?_
  exact ⟨rfl, rfl⟩
set_option maxHeartbeats 1000000 in
theorem digits_any (s : ByteArray) (w : World) (hs : s.size ≤ 100000) :
    Calls Tryz.prog 61 #[.string s] w (Ret (.bool (digs s.data.toList)) w) := by
  by_cases h0 : s.data.toList = []
  · have HR := Lib.hid (show digs s.data.toList = false by rw [h0]; rfl)
    have e1 : s.toList.isEmpty = true := by rw [bl_data, h0]; rfl
    have e2 : s.toList = [] := by rw [bl_data, h0]
    clear h0
    go_enter Tryz.func61, Tryz.ntmps61
    go_wp2_with fail
    go_ret
    exact ⟨ret_bool HR.out.symm, Lib.hid (Below.refl _ _)⟩
  · have e1 : s.toList.isEmpty = false := by rw [bl_data]; cases hh : s.data.toList with | nil => exact absurd hh h0 | cons x r => rfl
    have KT := Lib.hid (Tryz.strings_Trim_digits s w (by omega))
    obtain ⟨ts, hts⟩ : ∃ ts : ByteArray, ts = ⟨(Lib.trimS s.data.toList [48, 49, 50, 51, 52, 53, 54, 55, 56, 57]).toArray⟩ := ⟨_, rfl⟩
    rw [← hts] at KT
    have hde : ts.toList = Lib.trimS s.data.toList [48, 49, 50, 51, 52, 53, 54, 55, 56, 57] := by rw [hts, bl_data]
    cases hall : s.data.toList.all Rt.isDig with
    | true =>
      have HR := Lib.hid (show digs s.data.toList = true by unfold digs; rw [hall]; simp [h0])
      have e3 : ts.toList = [] := by rw [hde]; exact (Rt.trim_digits _).2 hall
      have e4 : ts.toList.isEmpty = true := by rw [e3]; rfl
      clear h0 hts hde hall
      go_enter Tryz.func61, Tryz.ntmps61
      go_wp2_with fail
      refine KT.out.mono ?_
      rintro e w1 ⟨rfl, hb⟩
      have HB := Lib.hid hb
      clear hb
      go_wp2_with fail
      go_ret
      exact ⟨ret_bool HR.out.symm, HB⟩
    | false =>
      have HR := Lib.hid (show digs s.data.toList = false by unfold digs; rw [hall]; simp)
      have e4 : ts.toList.isEmpty = false := by
        rw [hde]
        cases hh : Lib.trimS s.data.toList [48, 49, 50, 51, 52, 53, 54, 55, 56, 57] with
        | nil => rw [(Rt.trim_digits _).1 hh] at hall; cases hall
        | cons x r => rfl
      clear h0 hts hde hall
      go_enter Tryz.func61, Tryz.ntmps61
      go_wp2_with fail
      refine KT.out.mono ?_
      rintro e w1 ⟨rfl, hb⟩
      have HB := Lib.hid hb
      clear hb
      go_wp2_with fail
      go_ret
      exact ⟨ret_bool HR.out.symm, HB⟩
end Go.Proofs.YtffdkakogeofmaaGreatDoor
