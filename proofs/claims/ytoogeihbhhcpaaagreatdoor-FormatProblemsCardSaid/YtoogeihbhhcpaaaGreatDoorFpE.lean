/-
  strings.Builder's methods, and the walk of the texts of declarations.
-/
import Derived.Test.YtoogeihbhhcpaaaGreatDoorFpA
import Derived.Test.YtoogeihbhhcpaaaGreatDoorPkE
import Derived.Shelf.Strings.BuilderK
import Derived.Test.YtoogeihbhhcpaaaGreatDoorFrP
set_option linter.unusedVariables false
namespace Go.Proofs.YtoogeihbhhcpaaaGreatDoor
open Go.RowKit Go.Fl Go.Fl.Nm Go.Fl.Dy Go.Fl.Rt Go.Fl.Fm
/-- A builder in block b that holds the bytes l; what it owns lies from B on. -/
def Bd (B b : Nat) (l : List UInt8) (w : World) : Prop := Lib.IsBuilderF 68 5 B b (Lib.byteCells l) w
/-- What a write leaves as it was. -/
structure Kept (B b : Nat) (w w' : World) : Prop where
  below : Below B w w'
  others : Lib.OthersKept 5 (some b) w w'
theorem Kept.refl (B b : Nat) (w : World) : Kept B b w w := ⟨Below.refl _ _, Lib.OthersKept.refl _ _ _⟩
theorem Kept.trans {B b : Nat} {a c d : World} (h : Kept B b a c) (k : Kept B b c d) : Kept B b a d := ⟨h.below.trans k.below, h.others.trans k.others⟩
theorem Kept.of {B b : Nat} {w w' : World} (h : Below w.heap.size w w') (hB : B ≤ w.heap.size) : Kept B b w w' :=
  ⟨h.mono hB, fun k o hk _ _ => (h.block k (Array.getElem?_eq_some_iff.1 hk).1).trans hk⟩
theorem Kept.size {B b : Nat} {w w' : World} (h : Kept B b w w') : w.heap.size ≤ w'.heap.size := h.below.size
theorem Blk.kept {B b g : Nat} {t : TypeId} {cs : Array Value} {w w' : World} (h : Blk w g t cs) (k : Kept B b w w') (hg : g ≠ b) (ht : t ≠ 5) : Blk w' g t cs :=
  k.others g _ h (fun e => hg (Option.some.inj e)) (fun c fz e => ht (by injection e))
theorem BdAt.belowW {B b : Nat} {p : Value} {bs : List Value} {w w' : World} (h : Lib.BuilderAtF 68 5 B b p bs w) (hb : Below w.heap.size w w') : Lib.BuilderAtF 68 5 B b p bs w' := by
  obtain ⟨hB, v, hk, hown, hne⟩ := h
  refine ⟨hB, v, (hb.block b (Array.getElem?_eq_some_iff.1 hk).1).trans hk, hown.kept (row := none) ⟨hb.os, hb.tape, hb.output, hb.size, fun k hk _ => hb.block k hk⟩ ?_, hne⟩
  cases v.ownBlock with
  | none => exact .inl rfl
  | some k => exact .inr (by simp)
theorem Bd.belowW {B b : Nat} {l : List UInt8} {w w' : World} (h : Bd B b l w) (hb : Below w.heap.size w w') : Bd B b l w' := by
  rcases h with h | h
  · exact .inl (BdAt.belowW h hb)
  · exact .inr (BdAt.belowW h hb)
theorem Bd.fresh (w : World) : Bd w.heap.size w.heap.size [] (w.alloc (.cells #[.pointer none, .slice none 0 0] 68)) := Lib.IsBuilderF.of (Lib.fresh_isBuilder _ _ w)
theorem Bd.wide {B C b : Nat} {l : List UInt8} {w : World} (h : Bd C b l w) (hB : B ≤ C) : Bd B b l w := by
  have go : ∀ p, Lib.BuilderAtF 68 5 C b p (Lib.byteCells l) w → Lib.BuilderAtF 68 5 B b p (Lib.byteCells l) w := by
    intro p h
    obtain ⟨h1, v, hk, hown, hne⟩ := h
    refine ⟨Nat.le_trans hB h1, v, hk, ⟨hown.1, ?_⟩, hne⟩
    rcases hown.2 with h2 | ⟨g, cap, cur, fz, e1, e2, e3⟩
    · exact .inl h2
    · exact .inr ⟨g, cap, cur, fz, e1, Nat.le_trans hB e2, e3⟩
  rcases h with h | h
  · exact .inl (go _ h)
  · exact .inr (go _ h)
theorem ws_any (B b : Nat) (l : List UInt8) (T : ByteArray) (w : World) (hb : Bd B b l w) (hl : l.length + T.size ≤ 140737488355328) (hB : B ≤ w.heap.size) :
    Calls Tryz.prog 20 #[.pointer (some ⟨b, 0, none⟩), .string T] w fun e w' => e = .returned (.tuple #[.int .i64 T.size, .nilIface]) ∧ Hid (Bd B b (l ++ T.data.toList) w') ∧ Hid (Kept B b w w') :=
  (Any.Builder_WriteString_k { Tryz.lays156 with } Tryz.Builder_Extra_156 B b (Lib.byteCells l) T w hb (by rw [Lib.byteCells_length]; exact hl) hB).mono (by
    rintro e w' ⟨rfl, h1, h2, h3⟩
    refine ⟨rfl, ?_, Lib.hid ⟨h2, h3⟩⟩
    unfold Hid Bd
    rw [Lib.byteCells_append]
    exact .inr h1)
theorem bstr_any (B b : Nat) (l : List UInt8) (w : World) (hb : Bd B b l w) (hB : B ≤ w.heap.size) :
    Calls Tryz.prog 25 #[.pointer (some ⟨b, 0, none⟩)] w fun e w' => e = .returned (.string ⟨l.toArray⟩) ∧ Hid (Kept B b w w') :=
  (Any.Builder_String_any_k { Tryz.lays156 with } Tryz.Builder_Extra_156 B b l w hb hB).mono (by
    rintro e w' ⟨rfl, h1, h2, h3⟩
    exact ⟨rfl, Lib.hid ⟨h2, h3⟩⟩)
theorem blen_any (B b : Nat) (l : List UInt8) (w : World) (hb : Bd B b l w) :
    Calls Tryz.prog 24 #[.pointer (some ⟨b, 0, none⟩)] w fun e w' => e = .returned (.int .i64 (l.length : Nat)) ∧ w' = w := by
  obtain ⟨p, hB, v, hbk, hown, hne⟩ : ∃ p, Lib.BuilderAtF 68 5 B b p (Lib.byteCells l) w := by
    rcases hb with h | h
    · exact ⟨_, h⟩
    · exact ⟨_, h⟩
  rw [Lib.byteCells_length] at hown
  obtain ⟨ao, cap, rfl⟩ : ∃ ao cap, v = .slice ao l.length cap := by
    rcases hown.2 with ⟨hv, h0⟩ | ⟨g, cap, cur, fz, hv, _⟩
    · exact ⟨none, 0, by rw [hv, h0]⟩
    · exact ⟨_, _, hv⟩
  have c1 : w.cell? ⟨b, 1, none⟩ = some (.slice ao l.length cap) := by rw [Lib.cell_of_heap hbk]; rfl
  clear hbk hown hne
  go_enter Tryz.func24, Tryz.ntmps24
  go_wp2_with fail
  go_ret
  exact ⟨rfl, rfl⟩
/-- What format.decls writes. -/
def dclT (word : List UInt8) (x : DcN) : List UInt8 := word ++ ([32] ++ x.txt)
theorem dcl_len {word : List UInt8} (hw : word.length ≤ 10) (zs : List DcN) (h : zs.all DcN.ok = true) : (zs.flatMap (dclT word)).length ≤ 127 * zs.length :=
  flat_len _ zs 127 (fun x hx => by
    have := DcN.txt_len (List.all_eq_true.1 h x hx)
    unfold dclT
    simp only [List.length_append, List.length_cons, List.length_nil]; omega)
theorem all_take {α : Type} {p : α → Bool} {l : List α} (h : l.all p = true) (j : Nat) : (l.take j).all p = true := List.all_eq_true.2 (fun x hx => List.all_eq_true.1 h x (List.mem_of_mem_take hx))
theorem take_le {α : Type} (l : List α) (j : Nat) : (l.take j).length ≤ l.length := by rw [List.length_take]; exact Nat.min_le_right _ _
theorem InL.small' {Z : Type} {m : Nat} {cells : Z → List Value} {Pw : World → Z → Prop} {w : World} {A : Option Addr} {len cap : Nat} {zs : List Z} (h : InL m cells Pw w A len cap zs) : len ≤ 9223372036854775807 := by
  have h1 := h.hc
  have h2 := h.hm
  unfold maxLen at h2
  omega

set_option maxHeartbeats 4000000 in
set_option maxRecDepth 100000 in
theorem fdecls_p (B b : Nat) (l : List UInt8) (word : ByteArray) (A : Option Addr) (len cap : Nat) (zs : List DcN) (w0 w : World) (hx : InL 5 DcN.cells InD w0 A len cap zs) (hw : Below w0.heap.size w0 w) (hB : B = w0.heap.size) (hb : Bd B b l w) (hT : RB w0)
    (hok : zs.all DcN.ok = true) (h4 : len ≤ 4) (hwd : word.size ≤ 10) (hl : l.length ≤ 10000000) :
    Calls Tryz.prog 19 #[.pointer (some ⟨b, 0, none⟩), .string word, .slice A len cap] w fun e w' => e = .returned (.tuple #[]) ∧ Hid (Bd B b (l ++ zs.flatMap (dclT word.data.toList)) w') ∧ Hid (Kept B b w w') := by
  have HX := Lib.hid hx
  have HW := Lib.hid hw
  have HT := Lib.hid hT
  have HBD := Lib.hid hb
  have HOK := Lib.hid hok
  have HLN := Lib.hid hx.hl
  have HBB := Lib.hid hB
  have hwd' : word.data.toList.length ≤ 10 := hwd
  clear hx hw hT hb hok
  go_enter Tryz.func19, Tryz.ntmps19
  go_wp2_with fail
  go_loopg [12] len (fun k iv wr => ∃ j : Nat, iv = .int .i64 j ∧ j ≤ len ∧ k = len - j ∧ Hid (Bd B b (l ++ (zs.take j).flatMap (dclT word.data.toList)) wr) ∧ Hid (Kept B b w wr))
  case atStart => exact ⟨0, rfl, by omega, by omega, by simpa using HBD, Kept.refl _ _ _⟩
  case round =>
    obtain ⟨j, rfl, hj, rfl, HBR, HL⟩ := hrel
    have HWR := Lib.hid (show Below w0.heap.size w0 wr from HW.out.trans (by rw [← HBB.out]; exact HL.out.below))
    have hls := HL.out.size
    have hBs : B ≤ wr.heap.size := by rw [HBB.out]; exact HWR.out.size
    by_cases hlt : j < len
    · obtain ⟨bb, o, x, hA, ht, hin, h7⟩ := InD.len (InD.list HX.out HWR.out) j hlt
      subst hA
      obtain ⟨hbl, x0, x1, x2, x3, x4⟩ := DcN.cells_at h7
      have HIN := Lib.hid hin
      have hok := ok_of_all HOK.out ht
      have HV := Lib.hid (DcN.ok_iff.1 hok).2
      have hs20 : x.s.size ≤ 20 := name_len (DcN.ok_iff.1 hok).1
      have hr90 := range_len (DcN.ok_iff.1 hok).2
      have HFL := Lib.hid (flat_snoc (dclT word.data.toList) zs j x ht)
      have hcur : (l ++ (zs.take j).flatMap (dclT word.data.toList)).length ≤ 20000000 := by
        have h1 := dcl_len hwd' (zs.take j) (all_take HOK.out j)
        have h2 := take_le zs j
        rw [HLN.out] at h2
        rw [List.length_append]
        omega
      obtain ⟨cur, hcu⟩ : ∃ c, c = l ++ (zs.take j).flatMap (dclT word.data.toList) := ⟨_, rfl⟩
      rw [← hcu] at hcur HBR
      have HCU := Lib.hid hcu
      have d1 : decide ((j : Int) < (len : Int)) = true := decide_eq_true (by omega)
      clear ht hin h7 hcu hok
      go_wp2_with fail
      obtain ⟨w1, hw1⟩ : ∃ z9 : World, z9 = wr.alloc (Obj.cells #[.string x.s, .int .i64 x.a, .int .i64 x.b, .int .i64 x.c, .int .i64 x.d] 82) := ⟨_, rfl⟩
      have HW1 := Lib.hid (show Below wr.heap.size wr w1 by rw [hw1]; exact below_box _ _)
      have F1 := Lib.hid (show Blk w1 wr.heap.size 82 #[.string x.s, .int .i64 x.a, .int .i64 x.b, .int .i64 x.c, .int .i64 x.d] by rw [hw1]; exact Blk.new _ _ _)
      rw [← hw1]
      clear hw1 x0 x1 x2 x3 x4 d1
      refine (range_yes x.a x.b x.c x.d w1 HIN.out.r (HT.out.belowW (HWR.out.trans (HW1.out.mono HWR.out.size))) HV.out).mono ?_
      rintro e w2 ⟨S, rfl, HS, HB2⟩
      have hS : S.size ≤ 90 := by rw [strp_size HS.out]; exact hr90
      have HW2 := Lib.hid (HW1.out.trans (HB2.out.mono HW1.out.size))
      have F2 := Lib.hid (F1.out.belowW HB2.out)
      obtain ⟨pr0, pr1, pr2, pr3, pr4⟩ := F2.out.cs5
      have s1 : ¬ 9223372036854775807 < word.size + 1 := by omega
      have s2 : ¬ 9223372036854775807 < word.size + 1 + x.s.size := by omega
      have s3 : ¬ 9223372036854775807 < word.size + 1 + x.s.size + 4 := by omega
      have s4 : ¬ 9223372036854775807 < word.size + 1 + x.s.size + 4 + S.size := by omega
      have s5 : ¬ 9223372036854775807 < word.size + 1 + x.s.size + 4 + S.size + 2 := by omega
      go_wp2_with fail
      refine (ws_any B b cur _ w2 (HBR.out.belowW HW2.out) (by
        simp only [ByteArray.size_append]
        rw [show (⟨#[32]⟩ : ByteArray).size = 1 from rfl, show (⟨#[32, 105, 110, 32]⟩ : ByteArray).size = 4 from rfl, show (⟨#[59, 10]⟩ : ByteArray).size = 2 from rfl]
        omega) (Nat.le_trans hBs HW2.out.size)).mono ?_
      rintro e w3 ⟨rfl, HB3, HK3⟩
      have HL3 := Lib.hid (HL.out.trans ((Kept.of HW2.out hBs).trans HK3.out))
      go_wp2_with fail
      go_roundg (len - (j + 1))
      case measure => omega
      case rel =>
        refine ⟨j + 1, by go_num, by omega, rfl, ?_, HL3⟩
        have h := HB3.out
        simp only [data_app, HS.out] at h
        rw [HCU.out] at h
        unfold Hid
        rw [HFL.out]
        rw [show dclT word.data.toList x = word.data.toList ++ ([32] ++ (x.s.data.toList ++ ([32, 105, 110, 32] ++ (rangeT x.a x.b x.c x.d ++ [59, 10])))) from rfl]
        simpa only [List.append_assoc] using h
    · have hjn : j = len := by omega
      have HF := Lib.hid (show Bd B b (l ++ zs.flatMap (dclT word.data.toList)) wr by have := HBR.out; rwa [hjn, ← HLN.out, List.take_length] at this)
      have d1 : decide ((j : Int) < (len : Int)) = false := decide_eq_false (by omega)
      go_wp2_with fail
      refine bodyPost_end (v := .tuple #[]) (by simp [results, Tryz.results19, go_sem]) rfl ?_
      exact ⟨rfl, HF, HL⟩
end Go.Proofs.YtoogeihbhhcpaaaGreatDoor
