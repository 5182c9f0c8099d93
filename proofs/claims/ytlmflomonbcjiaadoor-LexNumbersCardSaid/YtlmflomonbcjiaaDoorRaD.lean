/-
  The walks of strings.Cut at one byte, ratio.digits, number.
-/
import Derived.Test.YtlmflomonbcjiaaDoorRaC
import Derived.Test.YtlmflomonbcjiaaDoorRaShelf
import Derived.Test.YtlmflomonbcjiaaDoorRatPlain
import Derived.Lib.SlTrimSet
import Derived.Lib.ParseIntBCases
import Derived.Laws.RangeAny
set_option linter.unusedVariables false
namespace Go.Fl.Rt
open Go.Lib Go.RowKit Go.Fl
theorem digits_contains (b : UInt8) : ([48, 49, 50, 51, 52, 53, 54, 55, 56, 57] : List UInt8).contains b = isDig b := by
  have h : ∀ k : Fin 256, ([48, 49, 50, 51, 52, 53, 54, 55, 56, 57] : List UInt8).contains (UInt8.ofNat k.val) = isDig (UInt8.ofNat k.val) := by decide +kernel
  have := h ⟨b.toNat, b.toNat_lt⟩
  simpa using this
theorem dw_nil (p : UInt8 → Bool) (l : List UInt8) : l.dropWhile p = [] ↔ ∀ x ∈ l, p x = true := by
  induction l with
  | nil => simp
  | cons x l ih =>
    by_cases h : p x = true
    · rw [List.dropWhile_cons_of_pos h, ih]; simp [h]
    · rw [List.dropWhile_cons_of_neg h]
      constructor
      · intro e; cases e
      · intro e; exact absurd (e x (by simp)) h
theorem dw_head {p : UInt8 → Bool} {l : List UInt8} {y : UInt8} {r : List UInt8} (h : l.dropWhile p = y :: r) : p y = false := by
  induction l with
  | nil => cases h
  | cons x l ih =>
    by_cases hx : p x = true
    · rw [List.dropWhile_cons_of_pos hx] at h; exact ih h
    · rw [List.dropWhile_cons_of_neg hx] at h
      injection h with h1 h2
      rw [← h1]; simpa using hx
theorem trim_digits (l : List UInt8) : (trimS l [48, 49, 50, 51, 52, 53, 54, 55, 56, 57] = []) ↔ l.all isDig = true := by
  have e : (fun b => ([48, 49, 50, 51, 52, 53, 54, 55, 56, 57] : List UInt8).contains b) = isDig := funext digits_contains
  unfold trimS trimLeftS trimRightS
  rw [e, dw_nil]
  constructor
  · intro h
    rw [List.all_eq_true]
    intro x hx
    cases hh : l.reverse.dropWhile isDig with
    | nil => exact (dw_nil _ _).1 hh x (by simpa using hx)
    | cons y r =>
      have h1 := dw_head hh
      have h2 := h y (by rw [hh]; simp)
      rw [h1] at h2
      cases h2
  · intro h x hx
    rw [List.all_eq_true] at h
    rw [(dw_nil isDig l.reverse).2 (fun y hy => h y (by simpa using hy))] at hx
    simp at hx
theorem fold_ge : ∀ (l : List UInt8) (v : Nat), v ≤ l.foldl (fun v b => 10 * v + (b.toNat - 48)) v := by
  intro l
  induction l with
  | nil => intro v; exact Nat.le_refl _
  | cons c l ih =>
    intro v
    have := ih (10 * v + (c.toNat - 48))
    show v ≤ l.foldl _ (10 * v + (c.toNat - 48))
    omega
theorem fold_lt : ∀ (l : List UInt8) (v : Nat), l.all isDig = true → l.foldl (fun v b => 10 * v + (b.toNat - 48)) v < (v + 1) * 10 ^ l.length := by
  intro l
  induction l with
  | nil => intro v _; simp
  | cons c l ih =>
    intro v h
    simp only [List.all_cons, Bool.and_eq_true] at h
    have hc := h.1
    unfold isDig at hc
    simp at hc
    have := ih (10 * v + (c.toNat - 48)) h.2
    refine Nat.lt_of_lt_of_le this ?_
    rw [List.length_cons, Nat.pow_succ, Nat.mul_comm (10 ^ l.length) 10, ← Nat.mul_assoc]
    exact Nat.mul_le_mul_right _ (by omega)
theorem dval_lt (l : List UInt8) (h : l.all isDig = true) : dval l < 10 ^ l.length := by have := fold_lt l 0 h; simpa [dval] using this
theorem pm_ok {M : Nat} (hM : M ≤ 18446744073709551615) : ∀ (l : List UInt8) (acc : Nat), l.all isDig = true → l.foldl (fun v b => 10 * v + (b.toNat - 48)) acc ≤ M → parseUintM M acc l = .ok (l.foldl (fun v b => 10 * v + (b.toNat - 48)) acc) := by
  intro l
  induction l with
  | nil => intro acc _ _; rfl
  | cons c l ih =>
    intro acc h hm
    simp only [List.all_cons, Bool.and_eq_true] at h
    have hc := h.1
    unfold isDig at hc
    simp at hc
    simp only [List.foldl_cons] at hm ⊢
    have hg := fold_ge l (10 * acc + (c.toNat - 48))
    unfold parseUintM
    rw [if_pos hc, if_neg (by omega), if_neg (by omega), Nat.mul_comm acc 10]
    exact ih _ h.2 hm
theorem pm_digits {M : Nat} : ∀ (l : List UInt8) (acc : Nat), l.all isDig = true → parseUintM M acc l = .range ∨ ∃ u, parseUintM M acc l = .ok u := by
  intro l
  induction l with
  | nil => intro acc _; exact .inr ⟨acc, rfl⟩
  | cons c l ih =>
    intro acc h
    simp only [List.all_cons, Bool.and_eq_true] at h
    have hc := h.1
    unfold isDig at hc
    simp at hc
    unfold parseUintM
    rw [if_pos hc]
    split
    · exact .inl rfl
    · split
      · exact .inl rfl
      · exact ih _ h.2
theorem digs_cons {l : List UInt8} (h : digs l = true) : ∃ c r, l = c :: r ∧ c.toNat ≠ 43 ∧ c.toNat ≠ 45 ∧ l.all isDig = true := by
  unfold digs at h
  simp only [Bool.and_eq_true, decide_eq_true_eq] at h
  obtain ⟨h1, h2⟩ := h
  cases l with
  | nil => exact absurd rfl h1
  | cons c r =>
    have hc := h2
    simp only [List.all_cons, Bool.and_eq_true] at hc
    have := hc.1
    unfold isDig at this
    simp at this
    exact ⟨c, r, rfl, by omega, by omega, h2⟩
theorem parse_ok {l : List UInt8} (h : digs l = true) (hl : l.length ≤ 18) : parseIntB 64 l = .ok (dval l : Int) := by
  obtain ⟨c, r, rfl, h1, h2, h3⟩ := digs_cons h
  have hv := dval_lt _ h3
  have hp : 10 ^ (c :: r).length ≤ 10 ^ 18 := Nat.pow_le_pow_right (by omega) hl
  have e18 : (10 : Nat) ^ 18 = 1000000000000000000 := by decide
  rw [e18] at hp
  rw [parseIntB_plain 64 c r h1 h2]
  unfold parseUintB
  rw [if_neg (by simp)]
  have e64 : (2 : Nat) ^ 64 - 1 = 18446744073709551615 := by decide
  rw [e64, pm_ok (Nat.le_refl _) (c :: r) 0 h3 (by show dval (c :: r) ≤ _; omega)]
  show signlessC _ (.ok (dval (c :: r))) = _
  have e63 : (2 : Nat) ^ (64 - 1) = 9223372036854775808 := by decide
  rw [e63]
  unfold signlessC
  simp only
  rw [if_neg (by omega)]
theorem parse_any {l : List UInt8} (h : digs l = true) : parseIntB 64 l = .range ∨ ∃ v : Int, parseIntB 64 l = .ok v := by
  obtain ⟨c, r, rfl, h1, h2, h3⟩ := digs_cons h
  rw [parseIntB_plain 64 c r h1 h2]
  unfold parseUintB
  rw [if_neg (by simp)]
  rcases pm_digits (M := 2 ^ 64 - 1) (c :: r) 0 h3 with e | ⟨u, e⟩
  · rw [e]; exact .inl rfl
  · rw [e]
    unfold signlessC
    simp only
    split
    · exact .inl rfl
    · exact .inr ⟨_, rfl⟩
theorem digs_append {a b : List UInt8} (ha : digs a = true) (hb : b.all isDig = true) : digs (a ++ b) = true := by
  unfold digs at ha ⊢
  simp only [Bool.and_eq_true, decide_eq_true_eq, List.all_append] at ha ⊢
  exact ⟨by simp [ha.1], ha.2, hb⟩
theorem digs_all {a : List UInt8} (ha : digs a = true) : a.all isDig = true := by
  unfold digs at ha
  simp only [Bool.and_eq_true] at ha
  exact ha.2
theorem bl_data (s : ByteArray) : s.toList = s.data.toList := ByteArray.toList_eq s
theorem read1_point {l rest a b : List UInt8} {ng : Bool} (hn : (l.head? == some 45) = ng) (hr : (if ng then l.tail else l) = rest) (hab : rest = a ++ 46 :: b) (h46 : (46 : UInt8) ∉ a) :
    read1 l = if !digs a || !digs b then (0, 0, 3) else if 18 < a.length + b.length then (0, 0, 5) else make (if ng then -(dval (a ++ b) : Int) else (dval (a ++ b) : Int)) ((10 ^ b.length : Nat) : Int) := by
  unfold read1
  simp only [hn, hr, hab, cut_some h46]
  simp
theorem read1_slash {l rest a b : List UInt8} {ng : Bool} (hn : (l.head? == some 45) = ng) (hr : (if ng then l.tail else l) = rest) (h46 : (46 : UInt8) ∉ rest) (hab : rest = a ++ 47 :: b) (h47 : (47 : UInt8) ∉ a) :
    read1 l = if !digs a || !digs b then (0, 0, 3) else if 18 < max a.length b.length then (0, 0, 5) else make (if ng then -(dval a : Int) else (dval a : Int)) (dval b : Int) := by
  unfold read1
  simp only [hn, hr, cut_none h46]
  rw [hab]
  simp [cut_some h47]
theorem read1_none {l rest : List UInt8} {ng : Bool} (hn : (l.head? == some 45) = ng) (hr : (if ng then l.tail else l) = rest) (h46 : (46 : UInt8) ∉ rest) (h47 : (47 : UInt8) ∉ rest) :
    read1 l = if !digs rest then (0, 0, 3) else if 18 < rest.length then (0, 0, 5) else make (if ng then -(dval rest : Int) else (dval rest : Int)) 1 := by
  unfold read1
  simp only [hn, hr, cut_none h46, cut_none h47]
  simp
theorem prefix_head (l : List UInt8) : Lib.hasPrefix l [45] = (l.head? == some 45) ∧ Lib.trimPrefix l [45] = if (l.head? == some 45) then l.tail else l := by
  unfold Lib.trimPrefix Lib.hasPrefix
  cases l with
  | nil => simp
  | cons c r =>
    by_cases h : c = 45
    · subst h; simp
    · have h2 : (45 == c) = false := by rw [beq_eq_false_iff_ne]; exact fun e => h e.symm
      have h3 : (c == 45) = false := by rw [beq_eq_false_iff_ne]; exact h
      simp [List.isPrefixOf, h2, h3]
end Go.Fl.Rt
namespace Go.Proofs.YtlmflomonbcjiaaDoor
open Go.RowKit Go.Fl Go.Fl.Nm Go.Fl.Dy Go.Fl.Rt
/-- The tables, and the error of strconv for numbers out of range. -/
structure RX (w : World) : Prop extends RB w where
  er : ∃ tp p, w.var? Tryd.prog "strconv.ErrRange" = some #[.iface tp p]
theorem gER : Tryd.prog.globalNamed "strconv.ErrRange" = some 4 := by kernel_rfl
theorem RX.below {w w' : World} (h : RX w) (hb : Below w.heap.size w w') : RX w' := by
  refine ⟨h.toRB.below hb, ?_⟩
  obtain ⟨tp, p, hv⟩ := h.er
  refine ⟨tp, p, ?_⟩
  unfold World.var? at hv ⊢
  rw [gER] at hv ⊢
  simp only [Option.bind_some] at hv ⊢
  have hlt : 4 < w.heap.size := by
    rcases Nat.lt_or_ge 4 w.heap.size with h' | h'
    · exact h'
    · rw [Array.getElem?_eq_none h'] at hv; cases hv
  rw [hb.block _ hlt]
  exact hv
theorem RX.belowW {w w' : World} (h : RX w) (hb : Below w.heap.size w w') : RX w' := h.below hb
theorem RX.alloc {w : World} (h : RX w) (o : Obj) : RX (w.alloc o) := h.below (below_a1 _ _)
theorem RX.drewN {w : World} (h : RX w) (n : Nat) : RX (w.drewN n) := h.below (below_drewN (Below.refl _ _) n)

def CutP (a b : List UInt8) (w : World) (e : Ending) (w' : World) : Prop :=
  ∃ A B : ByteArray, e = .returned (.tuple #[.string A, .string B, .bool true]) ∧ Hid (A.data.toList = a) ∧ Hid (B.data.toList = b) ∧ Hid (Below w.heap.size w w')
theorem take_pre (a b : List UInt8) (c : UInt8) (k : Nat) (h : a.length = k) : (a ++ c :: b).take k = a ∧ (a ++ c :: b).drop (k + 1) = b := by
  subst h
  constructor
  · simp
  · rw [List.drop_append]
    simp
set_option maxHeartbeats 1000000 in
theorem cutl_yes (s : ByteArray) (c : UInt8) (a b : List UInt8) (w : World) (hs : s.size ≤ 100000) (h : s.data.toList = a ++ c :: b) (hc : c ∉ a) :
    Calls Tryd.prog 32 #[.string s, .string ⟨#[c]⟩] w (CutP a b w) := by
  have hlen : s.size = a.length + 1 + b.length := by rw [← length_data, h]; simp; omega
  rcases indexByte_spec s.data.toList c with ⟨h1, h2⟩ | ⟨h1, i, h2, h3, h4, h5, h6⟩
  · exact absurd (by rw [h]; simp) h1
  · have hp := tw_stop (p := (· != c)) (a := a) (b := b) (c := c) (fun x hx => by simp; exact fun e => hc (e ▸ hx)) (by simp)
    rw [h] at h3 h4
    rw [hp.1] at h4
    have hi : a.length = i := by
      have := congrArg List.length h4
      rw [List.length_take] at this
      omega
    obtain ⟨t1, t2⟩ := take_pre a b c i hi
    have HA := Lib.hid (show (s.extract 0 i).data.toList = a by rw [Lib.extract_data, h]; simpa using t1)
    have HB := Lib.hid (show (s.extract (i + 1) s.size).data.toList = b by rw [Lib.extract_to_end, h]; exact t2)
    have KI := Lib.hid (Tryd.stringslite_Index_one s c w)
    rw [h2] at KI
    have i1 : i + 1 ≤ s.size := by omega
    have i2 : i ≤ s.size := by omega
    have s1 : IntKind.i64.wrap ((i : Int) + 1) = i + 1 := IntWalk.i64_in _ (by omega)
    have s2 : ((i : Int) + 1).toNat = i + 1 := by omega
    have d0 : decide ((0 : Int) ≤ i) = true := decide_eq_true (by omega)
    have p0 : (0 : Int) ≤ i := by omega
    have p1 : (0 : Int) ≤ (i : Int) + 1 := by omega
    have p2 : (i : Int) ≤ s.size := by omega
    have p3 : (i : Int) + 1 ≤ s.size := by omega
    clear h h1 h2 h3 h4 h5 h6 hi t1 t2 hp hlen hc
    go_enter Tryd.func32, Tryd.ntmps32
    go_wp2_with fail
    refine KI.out.mono ?_
    rintro e w' ⟨rfl, hw⟩
    obtain rfl := hw.symm
    go_wp2_with fail
    go_quiet (fail)
    go_wp2_with fail
    refine bodyPost_ret (v := .tuple #[.string (s.extract 0 i), .string (s.extract (i + 1) s.size), .bool true]) (by simp [results, Tryd.results32, go_sem]) rfl ?_
    exact ⟨_, _, rfl, HA, HB, Lib.hid (below_drewN (Below.refl _ _) _)⟩
set_option maxHeartbeats 1000000 in
theorem cutl_no (s : ByteArray) (c : UInt8) (w : World) (hs : s.size ≤ 100000) (hc : c ∉ s.data.toList) :
    Calls Tryd.prog 32 #[.string s, .string ⟨#[c]⟩] w fun e w' => e = .returned (.tuple #[.string s, .string ⟨#[]⟩, .bool false]) ∧ w = w' := by
  rcases indexByte_spec s.data.toList c with ⟨h1, h2⟩ | ⟨h1, _⟩
  · have KI := Lib.hid (Tryd.stringslite_Index_one s c w)
    rw [h2] at KI
    clear h1 h2 hc
    go_enter Tryd.func32, Tryd.ntmps32
    go_wp2_with fail
    refine KI.out.mono ?_
    rintro e w' ⟨rfl, hw⟩
    obtain rfl := hw.symm
    go_wp2_with fail
    refine bodyPost_ret (v := .tuple #[.string s, .string ⟨#[]⟩, .bool false]) (by simp [results, Tryd.results32, go_sem]) rfl ?_
    exact ⟨rfl, rfl⟩
  · exact absurd h1 hc
set_option maxHeartbeats 1000000 in
theorem cut_yes (s : ByteArray) (c : UInt8) (a b : List UInt8) (w : World) (hs : s.size ≤ 100000) (h : s.data.toList = a ++ c :: b) (hc : c ∉ a) :
    Calls Tryd.prog 21 #[.string s, .string ⟨#[c]⟩] w (CutP a b w) := by
  have K := Lib.hid (cutl_yes s c a b w hs h hc)
  clear h hc
  go_enter Tryd.func21, Tryd.ntmps21
  go_wp2_with fail
  refine K.out.mono ?_
  rintro e w1 ⟨A, B, rfl, HA, HB, HL⟩
  go_wp2_with fail
  refine bodyPost_ret (v := .tuple #[.string A, .string B, .bool true]) (by simp [results, Tryd.results21, go_sem]) rfl ?_
  exact ⟨_, _, rfl, HA, HB, HL⟩
set_option maxHeartbeats 1000000 in
theorem cut_no (s : ByteArray) (c : UInt8) (w : World) (hs : s.size ≤ 100000) (hc : c ∉ s.data.toList) :
    Calls Tryd.prog 21 #[.string s, .string ⟨#[c]⟩] w fun e w' => e = .returned (.tuple #[.string s, .string ⟨#[]⟩, .bool false]) ∧ w = w' := by
  have K := Lib.hid (cutl_no s c w hs hc)
  clear hc
  go_enter Tryd.func21, Tryd.ntmps21
  go_wp2_with fail
  refine K.out.mono ?_
  rintro e w1 ⟨rfl, rfl⟩
  go_wp2_with fail
  refine bodyPost_ret (v := .tuple #[.string s, .string ⟨#[]⟩, .bool false]) (by simp [results, Tryd.results21, go_sem]) rfl ?_
  exact ⟨rfl, rfl⟩
set_option maxHeartbeats 1000000 in
theorem rdigits_any (s : ByteArray) (w : World) (hs : s.size ≤ 100000) :
    Calls Tryd.prog 22 #[.string s] w (Ret (.bool (digs s.data.toList)) w) := by
  by_cases h0 : s.data.toList = []
  · have HR := Lib.hid (show digs s.data.toList = false by rw [h0]; rfl)
    have e1 : s.toList.isEmpty = true := by rw [bl_data, h0]; rfl
    have e2 : s.toList = [] := by rw [bl_data, h0]
    clear h0
    go_enter Tryd.func22, Tryd.ntmps22
    go_wp2_with fail
    go_ret
    exact ⟨ret_bool HR.out.symm, Lib.hid (Below.refl _ _)⟩
  · have e1 : s.toList.isEmpty = false := by rw [bl_data]; cases hh : s.data.toList with | nil => exact absurd hh h0 | cons x r => rfl
    have KT := Lib.hid (Tryd.strings_Trim_digits s w (by omega))
    obtain ⟨ts, hts⟩ : ∃ ts : ByteArray, ts = ⟨(Lib.trimS s.data.toList [48, 49, 50, 51, 52, 53, 54, 55, 56, 57]).toArray⟩ := ⟨_, rfl⟩
    rw [← hts] at KT
    have hde : ts.toList = Lib.trimS s.data.toList [48, 49, 50, 51, 52, 53, 54, 55, 56, 57] := by rw [hts, bl_data]
    cases hall : s.data.toList.all isDig with
    | true =>
      have HR := Lib.hid (show digs s.data.toList = true by unfold digs; rw [hall]; simp [h0])
      have e3 : ts.toList = [] := by rw [hde]; exact (trim_digits _).2 hall
      have e4 : ts.toList.isEmpty = true := by rw [e3]; rfl
      clear h0 hts hde hall
      go_enter Tryd.func22, Tryd.ntmps22
      go_wp2_with fail
      refine KT.out.mono ?_
      rintro e w1 ⟨rfl, hb⟩
      have HB := Lib.hid hb
      clear hb
      go_wp2_with fail
      go_ret
      exact ⟨ret_bool HR.out.symm, HB⟩
    | false =>
      have HR := Lib.hid (show digs s.data.toList = false by unfold digs; rw [hall]; simp)
      have e4 : ts.toList.isEmpty = false := by
        rw [hde]
        cases hh : Lib.trimS s.data.toList [48, 49, 50, 51, 52, 53, 54, 55, 56, 57] with
        | nil => rw [(trim_digits _).1 hh] at hall; cases hall
        | cons x r => rfl
      clear h0 hts hde hall
      go_enter Tryd.func22, Tryd.ntmps22
      go_wp2_with fail
      refine KT.out.mono ?_
      rintro e w1 ⟨rfl, hb⟩
      have HB := Lib.hid hb
      clear hb
      go_wp2_with fail
      go_ret
      exact ⟨ret_bool HR.out.symm, HB⟩
theorem bytes_below (w : World) (t : ByteArray) : Below w.heap.size w (Lib.bytesWorld w 5 t) := Lib.bytesWorld_below w _ t
set_option maxHeartbeats 1000000 in
theorem number_ok (s : ByteArray) (w : World) (h : digs s.data.toList = true) (hl : s.data.toList.length ≤ 18) :
    Calls Tryd.prog 23 #[.string s] w (Ret (.int .i64 (dval s.data.toList : Nat)) w) := by
  have hsz : s.size ≤ 18 := by rw [← length_data]; exact hl
  have K := Lib.hid (Tryd.strconv_ParseInt_10_at64_ok s (by omega) _ (parse_ok h hl) w)
  have hv := dval_lt _ (digs_all h)
  have hp : 10 ^ s.data.toList.length ≤ 10 ^ 18 := Nat.pow_le_pow_right (by omega) hl
  have e18 : (10 : Nat) ^ 18 = 1000000000000000000 := by decide
  rw [e18] at hp
  have hv2 : dval s.data.toList < 1000000000000000000 := by omega
  clear h hl hv hp e18
  go_enter Tryd.func23, Tryd.ntmps23
  go_wp2_with fail
  refine K.out.mono ?_
  rintro e w1 ⟨rfl, hw⟩
  have HB := Lib.hid (show Below w.heap.size w w1 by rcases hw with rfl | ⟨t, rfl⟩ <;> first | exact Below.refl _ _ | exact bytes_below _ _)
  clear hw
  go_wp2_with fail
  go_ret
  exact ⟨rfl, HB⟩
def NumP (w : World) (e : Ending) (w' : World) : Prop := ∃ v : Int, e = .returned (.int .i64 v) ∧ Hid (Below w.heap.size w w')
set_option maxHeartbeats 1000000 in
theorem rnumber_any (s : ByteArray) (w : World) (h : digs s.data.toList = true) (hs : s.size ≤ 100000) (hT : RX w) :
    Calls Tryd.prog 23 #[.string s] w (NumP w) := by
  rcases parse_any h with h1 | ⟨v, h1⟩
  · obtain ⟨tp, p, hv⟩ := hT.er
    have K := Lib.hid (Tryd.strconv_ParseInt_10_at64_range_var s (by omega) h1 tp p w hv)
    clear h h1 hv hT
    go_enter Tryd.func23, Tryd.ntmps23
    go_wp2_with fail
    refine K.out.mono ?_
    rintro e w1 ⟨N, rfl, _, _, hb⟩
    have HB := Lib.hid hb
    clear hb
    go_wp2_with fail
    go_ret
    exact ⟨_, rfl, HB⟩
  · have K := Lib.hid (Tryd.strconv_ParseInt_10_at64_ok s (by omega) _ h1 w)
    clear h h1 hT
    go_enter Tryd.func23, Tryd.ntmps23
    go_wp2_with fail
    refine K.out.mono ?_
    rintro e w1 ⟨rfl, hw⟩
    have HB := Lib.hid (show Below w.heap.size w w1 by rcases hw with rfl | ⟨t, rfl⟩ <;> first | exact Below.refl _ _ | exact bytes_below _ _)
    clear hw
    go_wp2_with fail
    go_ret
    exact ⟨_, rfl, HB⟩
end Go.Proofs.YtlmflomonbcjiaaDoor
