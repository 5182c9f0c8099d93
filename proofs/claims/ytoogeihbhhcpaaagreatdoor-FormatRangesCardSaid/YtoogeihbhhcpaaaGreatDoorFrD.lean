/-
  Lists of intervals as they lie in memory, their texts, and the walk of format.Box.
-/
import Derived.Test.YtoogeihbhhcpaaaGreatDoorFrB
import Derived.Test.YtoogeihbhhcpaaaGreatDoorFrC
set_option linter.unusedVariables false
namespace Go.Fl
theorem take_snoc9 {α : Type} (l : List α) (j : Nat) (x : α) (h : l[j]? = some x) : l.take (j + 1) = l.take j ++ [x] := by rw [List.take_add_one, h]; rfl
theorem join_snoc9 (xs : List (List UInt8)) (x s : List UInt8) (h : xs ≠ []) : Lib.join (xs ++ [x]) s = Lib.join xs s ++ s ++ x := by
  cases xs with
  | nil => exact absurd rfl h
  | cons y r =>
    rw [List.cons_append, Lib.join_cons, Lib.join_cons]
    simp [Lib.joinTail]
theorem join_len9 (xs : List (List UInt8)) (s : List UInt8) (m : Nat) (h : ∀ x ∈ xs, x.length ≤ m) : (Lib.join xs s).length ≤ (m + s.length) * xs.length := by
  cases xs with
  | nil => simp [Lib.join_nil]
  | cons y r =>
    rw [Lib.join_cons, List.length_append]
    have h1 := h y (by simp)
    have h2 : (Lib.joinTail s r).length ≤ (m + s.length) * r.length := by
      have hr : ∀ x ∈ r, x.length ≤ m := fun x hx => h x (by simp [hx])
      clear h h1
      induction r with
      | nil => simp [Lib.joinTail]
      | cons z r ih =>
        have e : Lib.joinTail s (z :: r) = s ++ z ++ Lib.joinTail s r := by simp [Lib.joinTail]
        rw [e, List.length_append, List.length_append]
        have := hr z (by simp)
        have := ih (fun x hx => hr x (by simp [hx]))
        rw [List.length_cons, Nat.mul_succ]
        omega
    rw [List.length_cons, Nat.mul_succ]
    omega
end Go.Fl
namespace Go.Proofs.YtoogeihbhhcpaaaGreatDoor
open Go.RowKit Go.Fl Go.Fl.Nm Go.Fl.Dy Go.Fl.Rt Go.Fl.Fm
theorem txtI_len {x y : D} {q : Nat} (hq : q ≤ 50) : (txtI x y q).length ≤ 20000 := by
  unfold txtI
  split
  · rename_i h
    have h1 := text_len (scN x q false) (scQ x q false) q
    have h2 := text_len (scN y q true) (scQ y q true) q
    have h3 := dec_bits (N := 1249) (scQ_small (d := x) (q := q) (up := false) (by omega) h.1)
    have h4 := dec_bits (N := 1249) (scQ_small (d := y) (q := q) (up := true) (by omega) h.2)
    unfold textI
    simp only [List.length_append, List.length_cons, List.length_nil]
    omega
  · simp
/-- An interval as it lies. -/
structure IvN where
  na : Bool
  A : Option Addr
  n : Nat
  c : Nat
  ea : Int
  l : List Nat
  nb : Bool
  B : Option Addr
  m : Nat
  d : Nat
  eb : Int
  k : List Nat
  all : Bool
@[reducible] def IvN.val (x : IvN) : Value := .agg #[.bool x.na, .slice x.A x.n x.c, .int .i64 x.ea, .bool x.nb, .slice x.B x.m x.d, .int .i64 x.eb, .bool x.all]
def IvN.cells (x : IvN) : List Value := [.bool x.na, .slice x.A x.n x.c, .int .i64 x.ea, .bool x.nb, .slice x.B x.m x.d, .int .i64 x.eb, .bool x.all]
def IvN.ok (x : IvN) : Bool := vldIB x.na x.l x.ea x.nb x.k x.eb x.all
def IvN.txt (q : Nat) (x : IvN) : List UInt8 := if x.all then [97, 108, 108] else txtI ⟨x.na, Go.Fl.Nm.val x.l, x.ea⟩ ⟨x.nb, Go.Fl.Nm.val x.k, x.eb⟩ q
structure InI (w : World) (x : IvN) : Prop where
  a : Sl w x.A x.n x.c x.l
  b : Sl w x.B x.m x.d x.k
theorem InI.belowW {w w' : World} {x : IvN} (h : InI w x) (hb : Below w.heap.size w w') : InI w' x := ⟨h.a.belowW hb, h.b.belowW hb⟩
def ivCells (l : List IvN) : List Value := l.flatMap IvN.cells
/-- A list of intervals lies at a slice. -/
structure InB (w : World) (A : Option Addr) (len cap : Nat) (xs : List IvN) : Prop where
  hl : xs.length = len
  hc : len ≤ cap
  hm : cap ≤ maxLen
  hr : Rd w 7 A len (ivCells xs)
  hi : ∀ x ∈ xs, InI w x
theorem InB.belowW {w w' : World} {A : Option Addr} {len cap : Nat} {xs : List IvN} (h : InB w A len cap xs) (hb : Below w.heap.size w w') : InB w' A len cap xs :=
  ⟨h.hl, h.hc, h.hm, h.hr.below hb, fun x hx => (h.hi x hx).belowW hb⟩
theorem iv_at (l : List IvN) (k : Nat) (v : IvN) (h : l[k]? = some v) (j : Nat) (hj : j < 7) : (ivCells l)[k * 7 + j]? = v.cells[j]? := by
  induction l generalizing k with
  | nil => cases h
  | cons x l ih =>
    have e : ivCells (x :: l) = x.cells ++ ivCells l := rfl
    have hx : x.cells.length = 7 := rfl
    cases k with
    | zero =>
      have : x = v := by simpa using h
      subst this
      rw [e, Nat.zero_mul, Nat.zero_add, List.getElem?_append_left (by omega)]
    | succ k =>
      have h' : l[k]? = some v := by simpa using h
      rw [e, List.getElem?_append_right (by omega), hx, show (k + 1) * 7 + j - 7 = k * 7 + j by omega]
      exact ih k h'
/-- Seven cells at a place. -/
structure Iv7 (w : World) (b off : Nat) (x : IvN) : Prop where
  lt : b < w.heap.size
  c0 : w.cell? ⟨b, off, none⟩ = some (.bool x.na)
  c1 : w.cell? ⟨b, off + 1, none⟩ = some (.slice x.A x.n x.c)
  c2 : w.cell? ⟨b, off + 2, none⟩ = some (.int .i64 x.ea)
  c3 : w.cell? ⟨b, off + 3, none⟩ = some (.bool x.nb)
  c4 : w.cell? ⟨b, off + 4, none⟩ = some (.slice x.B x.m x.d)
  c5 : w.cell? ⟨b, off + 5, none⟩ = some (.int .i64 x.eb)
  c6 : w.cell? ⟨b, off + 6, none⟩ = some (.bool x.all)
theorem InB.at_ {w : World} {A : Option Addr} {len cap : Nat} {xs : List IvN} (h : InB w A len cap xs) (j : Nat) (hj : j < len) :
    ∃ b o x, A = some ⟨b, o, none⟩ ∧ xs[j]? = some x ∧ InI w x ∧ Iv7 w b (o + j * 7) x := by
  obtain ⟨b, o, hA, hb, hcell⟩ := h.hr.at_ (by omega)
  obtain ⟨x, hx⟩ : ∃ x, xs[j]? = some x := ⟨_, List.getElem?_eq_getElem (by rw [h.hl]; exact hj)⟩
  have hc : ∀ (i : Nat) u, x.cells[i]? = some u → i < 7 → w.cell? ⟨b, o + (j * 7 + i), none⟩ = some u := fun i u hu hi => hcell _ _ ((iv_at xs j x hx i hi).trans hu)
  exact ⟨b, o, x, hA, hx, h.hi x (List.mem_of_getElem? hx), hb, hc 0 _ rfl (by omega), hc 1 _ rfl (by omega), hc 2 _ rfl (by omega), hc 3 _ rfl (by omega), hc 4 _ rfl (by omega), hc 5 _ rfl (by omega), hc 6 _ rfl (by omega)⟩
theorem InI.dd {w : World} {x : IvN} (h : InI w x) (ho : x.ok = true) (ha : x.all = false) :
    Sl w x.A x.n x.c (limbs (val x.l)) ∧ Sl w x.B x.m x.d (limbs (val x.k)) ∧ vld ⟨x.na, val x.l, x.ea⟩ ∧ vld ⟨x.nb, val x.k, x.eb⟩ ∧ cmpD ⟨x.na, val x.l, x.ea⟩ ⟨x.nb, val x.k, x.eb⟩ ≤ 0 := by
  unfold IvN.ok vldIB at ho
  rw [ha] at ho
  simp only [Bool.false_eq_true, if_false, Bool.and_eq_true, decide_eq_true_eq] at ho
  obtain ⟨⟨h1, h2⟩, h3⟩ := ho
  obtain ⟨a1, a2⟩ := vldL_iff.1 h1
  obtain ⟨b1, b2⟩ := vldL_iff.1 h2
  exact ⟨by rw [← a1]; exact h.a, by rw [← b1]; exact h.b, a2, b2, h3⟩
theorem iv_len {x : IvN} {q : Nat} (hq : q ≤ 50) : (x.txt q).length ≤ 20000 := by
  unfold IvN.txt
  split
  · simp
  · exact txtI_len hq
theorem ivalid_p (x : IvN) (w : World) (h : InI w x) : Calls Tryz.prog 31 #[x.val] w (Ret (.bool x.ok) w) :=
  ivalid_any x.na x.A x.n x.c x.ea x.l x.nb x.B x.m x.d x.eb x.k x.all w h.a h.b
theorem ivalid_s (x : IvN) (w : World) (h : InI w x) : Calls Tryz.prog 34 #[x.val] w (Ret (.bool x.ok) w) :=
  ivalid05_any x.na x.A x.n x.c x.ea x.l x.nb x.B x.m x.d x.eb x.k x.all w h.a h.b
theorem itext_p (x : IvN) (q : Nat) (w : World) (h : InI w x) (ho : x.ok = true) (hq : q ≤ 50) (hT : RB w) : Calls Tryz.prog 32 #[x.val, .int .i64 q] w (Ret (.string ⟨(x.txt q).toArray⟩) w) := by
  cases ha : x.all with
  | true =>
    have e : x.txt q = [97, 108, 108] := by unfold IvN.txt; rw [if_pos ha]
    have ev : x.val = .agg #[.bool x.na, .slice x.A x.n x.c, .int .i64 x.ea, .bool x.nb, .slice x.B x.m x.d, .int .i64 x.eb, .bool true] := by unfold IvN.val; rw [ha]
    rw [e, ev]
    exact dText_all x.na x.A x.n x.c x.ea x.l x.nb x.B x.m x.d x.eb x.k q w h.a h.b (by unfold IvN.ok at ho; rw [ha] at ho; exact ho) hq
  | false =>
    obtain ⟨s1, s2, v1, v2, hc⟩ := h.dd ho ha
    have e : x.txt q = txtI ⟨x.na, val x.l, x.ea⟩ ⟨x.nb, val x.k, x.eb⟩ q := by unfold IvN.txt; rw [ha]; rfl
    have ev : x.val = .agg #[.bool x.na, .slice x.A x.n x.c, .int .i64 x.ea, .bool x.nb, .slice x.B x.m x.d, .int .i64 x.eb, .bool false] := by unfold IvN.val; rw [ha]
    rw [e, ev]
    exact dText_any ⟨x.na, val x.l, x.ea⟩ ⟨x.nb, val x.k, x.eb⟩ x.A x.n x.c x.B x.m x.d q w s1 s2 v1 v2 hc hq hT
theorem itext_s (x : IvN) (q : Nat) (w : World) (h : InI w x) (ho : x.ok = true) (hq : q ≤ 50) : Calls Tryz.prog 35 #[x.val, .int .i64 q] w (Ret (.string ⟨(x.txt q).toArray⟩) w) := by
  cases ha : x.all with
  | true =>
    have e : x.txt q = [97, 108, 108] := by unfold IvN.txt; rw [if_pos ha]
    have ev : x.val = .agg #[.bool x.na, .slice x.A x.n x.c, .int .i64 x.ea, .bool x.nb, .slice x.B x.m x.d, .int .i64 x.eb, .bool true] := by unfold IvN.val; rw [ha]
    rw [e, ev]
    exact text11_all x.na x.A x.n x.c x.ea x.l x.nb x.B x.m x.d x.eb x.k q w h.a h.b (by unfold IvN.ok at ho; rw [ha] at ho; exact ho) hq
  | false =>
    obtain ⟨s1, s2, v1, v2, hc⟩ := h.dd ho ha
    have e : x.txt q = txtI ⟨x.na, val x.l, x.ea⟩ ⟨x.nb, val x.k, x.eb⟩ q := by unfold IvN.txt; rw [ha]; rfl
    have ev : x.val = .agg #[.bool x.na, .slice x.A x.n x.c, .int .i64 x.ea, .bool x.nb, .slice x.B x.m x.d, .int .i64 x.eb, .bool false] := by unfold IvN.val; rw [ha]
    rw [e, ev]
    exact text11_at ⟨x.na, val x.l, x.ea⟩ ⟨x.nb, val x.k, x.eb⟩ x.A x.n x.c x.B x.m x.d q w s1 s2 v1 v2 hc hq
/-- The text of a box, and the error number. -/
def boxT (xs : List IvN) (q : Int) : List UInt8 × Int :=
  if xs.length < 1 ∨ 8 < xs.length then ([], 1)
  else if xs.all IvN.ok = false then ([], 1)
  else if q < 0 ∨ 50 < q then ([], 2)
  else if xs.any (fun x => (x.txt q.toNat).isEmpty) = true then ([], 9)
  else (Lib.join (xs.map (IvN.txt q.toNat)) [32, 120, 32], 0)
def VRel (w : World) (xs : List IvN) (k : Nat) (iv : Value) (wr : World) : Prop :=
  ∃ j : Nat, iv = .int .i64 j ∧ j ≤ xs.length ∧ k = xs.length - j ∧ Hid ((xs.take j).all IvN.ok = true) ∧ Hid (Below w.heap.size w wr)
def tStrs (q : Nat) (xs : List IvN) : List Value := xs.map fun x => .string ⟨(x.txt q).toArray⟩
def TRel (w : World) (q : Nat) (xs : List IvN) (k : Nat) (ov iv : Value) (wr : World) : Prop :=
  ∃ j : Nat, iv = .int .i64 j ∧ j ≤ xs.length ∧ k = xs.length - j ∧ Hid ((xs.take j).any (fun x => (x.txt q).isEmpty) = false) ∧ Hid (wr.ownsRow w.heap.size 9 1 ov j (tStrs q (xs.take j))) ∧ Hid (Below w.heap.size w wr)
theorem Tryz.infoStrF : (Tryz.prog.info? 9).map (fun i => (i.zero, i.size, i.bytes)) = some (some (.string ⟨#[]⟩), 1, 16) := by kernel_rfl
theorem isE {l : List UInt8} : (⟨l.toArray⟩ : ByteArray).toList.isEmpty = l.isEmpty := by rw [isEmpty_data]
set_option maxHeartbeats 4000000 in
set_option maxRecDepth 100000 in
theorem box_p (A : Option Addr) (len cap : Nat) (xs : List IvN) (q : Int) (w : World) (hx : InB w A len cap xs) (hT : RB w) :
    Calls Tryz.prog 12 #[.slice A len cap, .int .i64 q] w (StrE (boxT xs q).1 (boxT xs q).2 w) := by
  have HX := Lib.hid hx
  have HT := Lib.hid hT
  have HN := Lib.hid hx.hl
  clear hx hT
  by_cases h1 : len < 1
  · have d1 : decide ((len : Int) < 1) = true := decide_eq_true (by omega)
    have HE := Lib.hid (show boxT xs q = ([], 1) by unfold boxT; rw [if_pos (.inl (by rw [HN.out]; exact h1))])
    go_enter Tryz.func12, Tryz.ntmps12
    go_wp2_with fail
    refine bodyPost_ret (v := .tuple #[.string ⟨#[]⟩, .int .i64 1]) (by simp [results, Tryz.results12, go_sem]) rfl ?_
    rw [HE.out]
    exact ⟨_, rfl, Lib.hid rfl, Lib.hid (Below.refl _ _)⟩
  have d1 : decide ((len : Int) < 1) = false := decide_eq_false (by omega)
  by_cases h2 : 8 < len
  · have d2 : decide ((8 : Int) < (len : Int)) = true := decide_eq_true (by omega)
    have HE := Lib.hid (show boxT xs q = ([], 1) by unfold boxT; rw [if_pos (.inr (by rw [HN.out]; exact h2))])
    go_enter Tryz.func12, Tryz.ntmps12
    go_wp2_with fail
    refine bodyPost_ret (v := .tuple #[.string ⟨#[]⟩, .int .i64 1]) (by simp [results, Tryz.results12, go_sem]) rfl ?_
    rw [HE.out]
    exact ⟨_, rfl, Lib.hid rfl, Lib.hid (Below.refl _ _)⟩
  have d2 : decide ((8 : Int) < (len : Int)) = false := decide_eq_false (by omega)
  have HE1 := Lib.hid (show boxT xs q = if xs.all IvN.ok = false then ([], 1)
      else if q < 0 ∨ 50 < q then ([], 2)
      else if xs.any (fun x => (x.txt q.toNat).isEmpty) = true then ([], 9)
      else (Lib.join (xs.map (IvN.txt q.toNat)) [32, 120, 32], 0) by unfold boxT; rw [if_neg (by rw [HN.out]; omega)])
  go_enter Tryz.func12, Tryz.ntmps12
  go_wp2_with fail
  clear d1 d2
  go_loopg [22] len (VRel w xs)
  case atStart => exact ⟨0, rfl, by omega, by rw [HN.out]; rfl, Lib.hid (by simp), Lib.hid (Below.refl _ _)⟩
  case round =>
    obtain ⟨j, rfl, hj, rfl, HF, HL⟩ := hrel
    rw [HN.out] at hj
    by_cases hlt : j < len
    · obtain ⟨b, o, x, hA, ht, hin, h7⟩ := (HX.out.belowW HL.out).at_ j hlt
      subst hA
      obtain ⟨hbl, x0, x1, x2, x3, x4, x5, x6⟩ := h7
      have HIN := Lib.hid hin
      have HTK := Lib.hid (take_snoc9 xs j x ht)
      have HME := Lib.hid (List.mem_of_getElem? ht)
      have hls := HL.out.size
      have d3 : decide ((j : Int) < (len : Int)) = true := decide_eq_true (by omega)
      clear ht hin
      cases hp : x.ok with
      | false =>
        have HE := Lib.hid (show boxT xs q = ([], 1) by
          rw [HE1.out, if_pos (by rw [List.all_eq_false]; exact ⟨x, HME.out, by rw [hp]; simp⟩)])
        go_wp2_with fail
        refine (ivalid_p x _ (HIN.out.belowW (by exact below_a1 _ _))).mono ?_
        rw [hp]
        rintro e w2 ⟨rfl, HB⟩
        go_wp2_with fail
        refine bodyPost_ret (v := .tuple #[.string ⟨#[]⟩, .int .i64 1]) (by simp [results, Tryz.results12, go_sem]) rfl ?_
        rw [HE.out]
        exact ⟨_, rfl, Lib.hid rfl, Lib.hid (HL.out.trans (((below_a1 _ _).trans (HB.out.mono (below_a1 _ _).size)).mono hls))⟩
      | true =>
        go_wp2_with fail
        refine (ivalid_p x _ (HIN.out.belowW (by exact below_a1 _ _))).mono ?_
        rw [hp]
        rintro e w2 ⟨rfl, HB⟩
        have HL2 := Lib.hid (HL.out.trans (((below_a1 _ _).trans (HB.out.mono (below_a1 _ _).size)).mono hls))
        go_wp2_with fail
        go_roundg (xs.length - (j + 1))
        case measure => rw [HN.out]; omega
        case rel => exact ⟨j + 1, by go_num, by rw [HN.out]; omega, rfl, Lib.hid (by rw [HTK.out, List.all_append, HF.out]; simp [hp]), HL2⟩
    · have hjn : j = len := by omega
      subst hjn
      have HF' := Lib.hid (show xs.all IvN.ok = true by have := HF.out; rwa [← HN.out, List.take_length] at this)
      have HE2 := Lib.hid (show boxT xs q = if q < 0 ∨ 50 < q then ([], 2)
        else if xs.any (fun x => (x.txt q.toNat).isEmpty) = true then ([], 9)
        else (Lib.join (xs.map (IvN.txt q.toNat)) [32, 120, 32], 0) by rw [HE1.out, if_neg (by rw [HF'.out]; simp)])
      have d3 : decide ((j : Int) < (j : Int)) = false := decide_eq_false (by omega)
      have HXR := Lib.hid (HX.out.belowW HL.out)
      have HTR := Lib.hid (HT.out.belowW HL.out)
      clear HX HT HF HE1 hlt
      by_cases h3 : q < 0
      · have d4 : decide (q < 0) = true := decide_eq_true h3
        have HE := Lib.hid (show boxT xs q = ([], 2) by rw [HE2.out, if_pos (.inl h3)])
        clear h3
        go_wp2_with fail
        refine bodyPost_ret (v := .tuple #[.string ⟨#[]⟩, .int .i64 2]) (by simp [results, Tryz.results12, go_sem]) rfl ?_
        rw [HE.out]
        exact ⟨_, rfl, Lib.hid rfl, HL⟩
      have d4 : decide (q < 0) = false := decide_eq_false h3
      by_cases h4 : 50 < q
      · have d5 : decide (50 < q) = true := decide_eq_true h4
        have HE := Lib.hid (show boxT xs q = ([], 2) by rw [HE2.out, if_pos (.inr h4)])
        clear h3 h4
        go_wp2_with fail
        refine bodyPost_ret (v := .tuple #[.string ⟨#[]⟩, .int .i64 2]) (by simp [results, Tryz.results12, go_sem]) rfl ?_
        rw [HE.out]
        exact ⟨_, rfl, Lib.hid rfl, HL⟩
      have d5 : decide (50 < q) = false := decide_eq_false h4
      obtain ⟨p, rfl⟩ := Int.eq_ofNat_of_zero_le (show 0 ≤ q by omega)
      have hp50 : p ≤ 50 := by omega
      have HE3 := Lib.hid (show boxT xs (p : Int) = if xs.any (fun x => (x.txt p).isEmpty) = true then ([], 9)
        else (Lib.join (xs.map (IvN.txt p)) [32, 120, 32], 0) by rw [HE2.out, if_neg (by omega), Int.toNat_natCast])
      clear h3 h4 HE2
      go_wp2_with fail
      clear d4 d5 d3
      obtain ⟨w5, rfl⟩ : ∃ z : World, z = wr := ⟨_, rfl⟩
      go_loopg [8, 38] j (fun k ov iv wr' => TRel w5 p xs k ov iv wr')
      case atStart => exact ⟨0, rfl, by omega, by rw [HN.out]; rfl, by unfold Hid; simp, World.ownsRow_nil _ _ _ _, Below.refl _ _⟩
      case round =>
        obtain ⟨i, rfl, hi, rfl, HG, HO, HW⟩ := hrel
        rw [HN.out] at hi
        by_cases hlt : i < j
        · obtain ⟨b, o, x, hA, ht, hin, h7⟩ := (HXR.out.belowW HW.out).at_ i hlt
          subst hA
          obtain ⟨hbl, x0, x1, x2, x3, x4, x5, x6⟩ := h7
          have HIN := Lib.hid hin
          have HTK := Lib.hid (take_snoc9 xs i x ht)
          have HME := Lib.hid (List.mem_of_getElem? ht)
          have HOK := Lib.hid (List.all_eq_true.1 HF'.out x HME.out)
          have hls := HW.out.size
          have d3 : decide ((i : Int) < (j : Int)) = true := decide_eq_true (by omega)
          obtain ⟨X, hX⟩ : ∃ X : ByteArray, X = ⟨(x.txt p).toArray⟩ := ⟨_, rfl⟩
          have HXE := Lib.hid (show X.toList.isEmpty = (x.txt p).isEmpty by rw [hX]; exact isE)
          have HXV := Lib.hid hX
          clear ht hin hX
          go_wp2_with fail
          refine (itext_p x p _ (HIN.out.belowW (by exact below_a1 _ _)) HOK.out hp50 (HTR.out.belowW (HW.out.trans ((below_a1 _ _).mono hls)))).mono ?_
          rw [← HXV.out]
          rintro e w2 ⟨rfl, HB⟩
          have HL2 := Lib.hid (HW.out.trans (((below_a1 _ _).trans (HB.out.mono (below_a1 _ _).size)).mono hls))
          have HO2 := Lib.hid (own_below' (HO.out.alloc _) HB.out)
          cases he : X.toList.isEmpty with
          | true =>
            have HE := Lib.hid (show boxT xs (p : Int) = ([], 9) by
              rw [HE3.out, if_pos (List.any_eq_true.2 ⟨x, HME.out, by rw [← HXE.out]; exact he⟩)])
            go_wp2_with fail
            refine bodyPost_ret (v := .tuple #[.string ⟨#[]⟩, .int .i64 9]) (by simp [results, Tryz.results12, go_sem]) rfl ?_
            rw [HE.out]
            exact ⟨_, rfl, Lib.hid rfl, Lib.hid (HL.out.trans (HL2.out.mono HL.out.size))⟩
          | false =>
            clear x0 x1 x2 x3 x4 x5 x6
            have hls2 := HL2.out.size
            have hi8 : i ≤ 8 := by omega
            obtain ⟨i0, ti, tz0, tz1, tz2⟩ := info_parts Tryz.infoStrF
            go_wp2_with (at_builtin; refine wpList_append_lies _ rfl _ _ _ rfl w5.heap.size 9 i0 _ 1 16 Tryz.underlying86 ti tz0 tz1 tz2 rfl (by omega) u8 i (tStrs p (xs.take i)) rfl (by exact HO2.out.alloc _) ⟨w2.heap.size, 0, none⟩ 1 1 [.string X] rfl rfl (by exact World.news_of_block (cs := #[.string X]) (t := 9) (fr := (0, 0)) (by have := heap_alloc_new w2 (.cells #[.string X] 9); simpa using this)) (by simp [Value.oneCell']) (by omega) (by unfold maxLen; omega) (by omega) (by simp; omega) (w2.heap.size + 1) (by simp) ?_)
            intro g cap3 w3 hown hgrow hat hlt2
            have HO3 := Lib.hid hown
            have HL3 := Lib.hid (show Below w5.heap.size w5 w3 from (HL2.out.alloc (HL2.out.size) _).grown hgrow (by have := HL2.out.size; simp; omega) (fun k hk => (HO.out.lt k hk).1))
            clear hown hgrow hat hlt2 ti tz0 tz1 tz2
            go_wp2_with fail
            go_roundg (xs.length - (i + 1))
            case measure => rw [HN.out]; omega
            case rel =>
              refine ⟨i + 1, by go_num, by rw [HN.out]; omega, rfl, ?_, ?_, HL3⟩
              · unfold Hid
                rw [HTK.out, List.any_append, HG.out]
                simp [← HXE.out, he]
              · have := HO3.out
                unfold Hid
                rw [HTK.out]
                rw [HXV.out] at this
                simpa [tStrs] using this
        · have hij : i = j := by omega
          subst hij
          have HG' := Lib.hid (show xs.any (fun x => (x.txt p).isEmpty) = false by have := HG.out; rwa [← HN.out, List.take_length] at this)
          have HE := Lib.hid (show boxT xs (p : Int) = (Lib.join (xs.map (IvN.txt p)) [32, 120, 32], 0) by rw [HE3.out, if_neg (by rw [HG'.out]; simp)])
          obtain ⟨A2, c2, hu, hrd, hnc, _⟩ := Rd.of_own HO.out
          subst hu
          have hrd' : Rd wr 1 A2 i (tStrs p xs) := by have := hrd; rwa [← HN.out, List.take_length, HN.out] at this
          obtain ⟨bk, o, hA, hbk, hcs⟩ := hrd'.at_ (by omega)
          subst hA
          have HCS := Lib.hid hcs
          clear hrd hrd' hcs HO HG
          obtain ⟨ys, hys⟩ : ∃ ys : List ByteArray, ys = xs.map fun x => ⟨(x.txt p).toArray⟩ := ⟨_, rfl⟩
          have HYL := Lib.hid (show ys.length = i by rw [hys, List.length_map, HN.out])
          have HYT := Lib.hid (show ys.map (·.data.toList) = xs.map (IvN.txt p) by rw [hys, List.map_map]; rfl)
          have HCX := Lib.hid (show ∀ (j : Nat) x, ys[j]? = some x → wr.cell? ⟨bk, o + j, none⟩ = some (.string x) by
            intro j x hx
            refine HCS.out j _ ?_
            rw [hys] at hx
            simp [tStrs] at hx ⊢
            obtain ⟨t, ht, rfl⟩ := hx
            exact ⟨t, ht, rfl⟩)
          have HJL := Lib.hid (show (Lib.join (xs.map (IvN.txt p)) [32, 120, 32]).length ≤ 1000000 by
            have h := join_len9 (xs.map (IvN.txt p)) [32, 120, 32] 20000 (fun l hl => by obtain ⟨x, _, rfl⟩ := List.mem_map.1 hl; exact iv_len hp50)
            rw [List.length_map, HN.out] at h
            simp only [List.length_cons, List.length_nil] at h
            refine Nat.le_trans h (Nat.le_trans (Nat.mul_le_mul_left _ (show i ≤ 8 by omega)) (by omega)))
          clear hys
          have d3 : decide ((i : Int) < (i : Int)) = false := decide_eq_false (by omega)
          go_wp2_with fail
          have hcall := Tryz.strings_Join bk o c2 ys ⟨#[32, 120, 32]⟩ wr HCX.out hbk (by rw [HYL.out]; omega) (by rw [HYL.out]; omega) (by rw [HYT.out]; exact Nat.le_trans HJL.out (by omega))
          rw [HYL.out, HYT.out] at hcall
          refine hcall.mono ?_
          rintro e w2 ⟨rfl, hb2⟩
          go_wp2_with fail
          refine bodyPost_ret (v := .tuple #[.string ⟨(Lib.join (xs.map (IvN.txt p)) [32, 120, 32]).toArray⟩, .int .i64 0]) (by simp [results, Tryz.results12, go_sem]) rfl ?_
          rw [HE.out]
          exact ⟨_, rfl, Lib.hid rfl, Lib.hid (HL.out.trans ((HW.out.trans (hb2.mono HW.out.size)).mono HL.out.size))⟩
end Go.Proofs.YtoogeihbhhcpaaaGreatDoor
