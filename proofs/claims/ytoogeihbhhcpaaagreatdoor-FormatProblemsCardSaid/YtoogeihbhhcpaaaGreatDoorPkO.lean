/-
  The small expressions of the law's examples.
  The law's six examples: they are valid, and their texts.
-/
import Derived.Test.YtoogeihbhhcpaaaGreatDoorPkN
import Derived.Test.YtoogeihbhhcpaaaGreatDoorFmP
set_option linter.unusedVariables false
namespace Go.Proofs.YtoogeihbhhcpaaaGreatDoor
open Go.RowKit Go.Fl Go.Fl.Nm Go.Fl.Fm Go.Fl.Rt
/-- A number, a variable, an operation of two, of one. -/
def eN (n d : Int) : TE := .mk ⟨1, n, d, ⟨#[]⟩, 0⟩ []
def eV (s : ByteArray) : TE := .mk ⟨2, 0, 0, s, 0⟩ []
def e2 (k : Int) (a b : TE) : TE := .mk ⟨k, 0, 0, ⟨#[]⟩, 0⟩ [a, b]
def e1 (k m : Int) (a : TE) : TE := .mk ⟨k, 0, 0, ⟨#[]⟩, m⟩ [a]
def ndN (n d : Int) : Nd := ⟨⟨1, n, d, ⟨#[]⟩, 0⟩, none, 0, 0⟩
def ndV (s : ByteArray) : Nd := ⟨⟨2, 0, 0, s, 0⟩, none, 0, 0⟩
theorem hd_mk (kd n d k : Int) (s : ByteArray) (h1 : -1000 ≤ kd ∧ kd ≤ 1000) (h2 : -1000 ≤ n ∧ n ≤ 1000) (h3 : -1000 ≤ d ∧ d ≤ 1000) (h4 : -1000 ≤ k ∧ k ≤ 1000) (h5 : s.size ≤ maxLen) : HdOk ⟨kd, n, d, s, k⟩ := by
  refine ⟨?_, ?_, ?_, ?_, ?_, ?_, ?_, ?_, h5⟩ <;> simp only <;> omega
theorem d0 : (-1000 : Int) ≤ 0 ∧ (0 : Int) ≤ 1000 := by decide
theorem z0 : (⟨#[]⟩ : ByteArray).size ≤ maxLen := Nat.zero_le _
theorem in_N (w : World) (n d : Int) (hn : -1000 ≤ n ∧ n ≤ 1000) (hd : -1000 ≤ d ∧ d ≤ 1000) : InE w (eN n d) (ndN n d) :=
  .mk _ [] none 0 0 [] (hd_mk 1 n d 0 _ (by decide) hn hd d0 z0) rfl (Nat.le_refl _) (Nat.zero_le _) rfl (Rd.none_ _ _) (fun i T v h => by cases h)
theorem in_V (w : World) (s : ByteArray) (hs : s.size ≤ maxLen) : InE w (eV s) (ndV s) :=
  .mk _ [] none 0 0 [] (hd_mk 2 0 0 0 s (by decide) d0 d0 d0 hs) rfl (Nat.le_refl _) (Nat.zero_le _) rfl (Rd.none_ _ _) (fun i T v h => by cases h)
/-- A new slice of elements. -/
theorem in_new2 (w : World) (k m : Int) (a b : TE) (x y : Nd) (t : TypeId) (hk : -1000 ≤ k ∧ k ≤ 1000) (hm : -1000 ≤ m ∧ m ≤ 1000) (ha : InE w a x) (hb : InE w b y) :
    InE (w.alloc (.cells (x.cells ++ y.cells).toArray t)) (.mk ⟨k, 0, 0, ⟨#[]⟩, m⟩ [a, b]) ⟨⟨k, 0, 0, ⟨#[]⟩, m⟩, some ⟨w.heap.size, 0, none⟩, 2, 2⟩ :=
  .mk _ [a, b] _ 2 2 [x, y] (hd_mk k 0 0 m _ hk d0 d0 hm z0) rfl (Nat.le_refl _) (by decide) rfl
    (by
      refine ⟨rfl, fun _ => ⟨w.heap.size, 0, rfl, by simp, fun j u hu => ?_⟩⟩
      have h := (Blk.new w t (x.cells ++ y.cells).toArray).cell j
      rw [Nat.zero_add, h, List.getElem?_toArray]
      exact hu)
    (fun i T v h1 h2 => by
      match i with
      | 0 => injection h1 with h1; injection h2 with h2; subst h1 h2; exact ha.go (below_box w _)
      | 1 => injection h1 with h1; injection h2 with h2; subst h1 h2; exact hb.go (below_box w _)
      | i + 2 => cases h1)
theorem in_new1 (w : World) (k m : Int) (a : TE) (x : Nd) (t : TypeId) (hk : -1000 ≤ k ∧ k ≤ 1000) (hm : -1000 ≤ m ∧ m ≤ 1000) (ha : InE w a x) :
    InE (w.alloc (.cells x.cells.toArray t)) (.mk ⟨k, 0, 0, ⟨#[]⟩, m⟩ [a]) ⟨⟨k, 0, 0, ⟨#[]⟩, m⟩, some ⟨w.heap.size, 0, none⟩, 1, 1⟩ :=
  .mk _ [a] _ 1 1 [x] (hd_mk k 0 0 m _ hk d0 d0 hm z0) rfl (Nat.le_refl _) (by decide) rfl
    (by
      refine ⟨rfl, fun _ => ⟨w.heap.size, 0, rfl, by simp, fun j u hu => ?_⟩⟩
      have h := (Blk.new w t x.cells.toArray).cell j
      rw [Nat.zero_add, h, List.getElem?_toArray]
      have e : ndsCells [x] = x.cells := by show x.cells ++ [] = _; rw [List.append_nil]
      rw [e] at hu
      exact hu)
    (fun i T v h1 h2 => by
      match i with
      | 0 => injection h1 with h1; injection h2 with h2; subst h1 h2; exact ha.go (below_box w _)
      | i + 1 => cases h1)
theorem box6 (w : World) (a b c d e f : Value) : ∃ w1 : World, w1 = w.alloc (.cells #[a, b, c, d, e, f] 51) ∧ Hid (Below w.heap.size w w1) ∧ w1.cell? ⟨w.heap.size, 0, none⟩ = some a ∧ w1.cell? ⟨w.heap.size, 1, none⟩ = some b ∧ w1.cell? ⟨w.heap.size, 2, none⟩ = some c ∧ w1.cell? ⟨w.heap.size, 3, none⟩ = some d ∧ w1.cell? ⟨w.heap.size, 4, none⟩ = some e ∧ w1.cell? ⟨w.heap.size, 5, none⟩ = some f := by
  have h := Blk.new w 51 #[a, b, c, d, e, f]
  exact ⟨_, rfl, Lib.hid (below_box _ _), h.cell 0, h.cell 1, h.cell 2, h.cell 3, h.cell 4, h.cell 5⟩
set_option maxHeartbeats 1000000 in
theorem num_any (n d : Int) (w : World) : Calls Tryz.prog 16 #[.int .i64 n, .int .i64 d] w (RetB (ndN n d).val w) := by
  go_enter Tryz.func16, Tryz.ntmps16
  go_wp2_with fail
  obtain ⟨w1, hw, HB, p0, p1, p2, p3, p4, p5⟩ := box6 w (.int .i64 1) (.int .i64 n) (.int .i64 d) (.string ⟨#[]⟩) (.int .i64 0) (.slice none 0 0)
  rw [← hw]
  clear hw
  refine bodyPost_ret (v := .agg #[.int .i64 1, .int .i64 n, .int .i64 d, .string ⟨#[]⟩, .int .i64 0, .slice none 0 0]) (by simp [results, Tryz.results16, go_sem, p0, p1, p2, p3, p4, p5]) rfl ?_
  exact ⟨rfl, HB⟩
set_option maxHeartbeats 1000000 in
theorem v_any (s : ByteArray) (w : World) : Calls Tryz.prog 15 #[.string s] w (RetB (ndV s).val w) := by
  go_enter Tryz.func15, Tryz.ntmps15
  go_wp2_with fail
  obtain ⟨w1, hw, HB, p0, p1, p2, p3, p4, p5⟩ := box6 w (.int .i64 2) (.int .i64 0) (.int .i64 0) (.string s) (.int .i64 0) (.slice none 0 0)
  rw [← hw]
  clear hw
  refine bodyPost_ret (v := .agg #[.int .i64 2, .int .i64 0, .int .i64 0, .string s, .int .i64 0, .slice none 0 0]) (by simp [results, Tryz.results15, go_sem, p0, p1, p2, p3, p4, p5]) rfl ?_
  exact ⟨rfl, HB⟩
set_option maxHeartbeats 1000000 in
theorem two_any (k : Int) (a b : TE) (x y : Nd) (w : World) (hk : -1000 ≤ k ∧ k ≤ 1000) (ha : InE w a x) (hb : InE w b y) :
    Calls Tryz.prog 14 #[.int .i64 k, x.val, y.val] w (fun e w' => ∃ z : Nd, e = .returned z.val ∧ Hid (InE w' (e2 k a b) z) ∧ Hid (Below w.heap.size w w')) := by
  have HA := Lib.hid ha
  have HB := Lib.hid hb
  clear ha hb
  go_enter Tryz.func14, Tryz.ntmps14
  go_wp2_with fail
  obtain ⟨w3, hw3⟩ : ∃ z9 : World, z9 = ((w.alloc (.cells #[.int .i64 x.h.kind, .int .i64 x.h.n, .int .i64 x.h.d, .string x.h.name, .int .i64 x.h.k, .slice x.A x.len x.cap] 51)).alloc (.cells #[.int .i64 y.h.kind, .int .i64 y.h.n, .int .i64 y.h.d, .string y.h.name, .int .i64 y.h.k, .slice y.A y.len y.cap] 51)).alloc (.cells #[.int .i64 k, .int .i64 0, .int .i64 0, .string ⟨#[]⟩, .int .i64 0, .slice (some ⟨w.heap.size + 1 + 1 + 1, 0, none⟩) 2 2] 51) := ⟨_, rfl⟩
  have s1 := World.size_alloc w (.cells #[.int .i64 x.h.kind, .int .i64 x.h.n, .int .i64 x.h.d, .string x.h.name, .int .i64 x.h.k, .slice x.A x.len x.cap] 51)
  have hs3 : w3.heap.size = w.heap.size + 1 + 1 + 1 := by rw [hw3, World.size_alloc, World.size_alloc, World.size_alloc]
  have hb3 : Below w.heap.size w w3 := by
    rw [hw3]
    exact (((Below.refl _ _).alloc (Nat.le_refl _) _).alloc (by rw [World.size_alloc]; omega) _).alloc (by rw [World.size_alloc, World.size_alloc]; omega) _
  have hblk : Blk w3 (w.heap.size + 1 + 1) 51 #[.int .i64 k, .int .i64 0, .int .i64 0, .string ⟨#[]⟩, .int .i64 0, .slice (some ⟨w.heap.size + 1 + 1 + 1, 0, none⟩) 2 2] := by
    rw [hw3]
    have h := Blk.new ((w.alloc (.cells #[.int .i64 x.h.kind, .int .i64 x.h.n, .int .i64 x.h.d, .string x.h.name, .int .i64 x.h.k, .slice x.A x.len x.cap] 51)).alloc (.cells #[.int .i64 y.h.kind, .int .i64 y.h.n, .int .i64 y.h.d, .string y.h.name, .int .i64 y.h.k, .slice y.A y.len y.cap] 51)) 51 #[.int .i64 k, .int .i64 0, .int .i64 0, .string ⟨#[]⟩, .int .i64 0, .slice (some ⟨w.heap.size + 1 + 1 + 1, 0, none⟩) 2 2]
    rwa [World.size_alloc, World.size_alloc] at h
  have HI := Lib.hid (in_new2 w3 k 0 a b x y 51 hk d0 (HA.out.go hb3) (HB.out.go hb3))
  rw [hs3] at HI
  rw [← hw3]
  clear hw3 s1
  obtain ⟨w4, hw4⟩ : ∃ z9 : World, z9 = w3.alloc (.cells (x.cells ++ y.cells).toArray 51) := ⟨_, rfl⟩
  have hb4 : Below w3.heap.size w3 w4 := by rw [hw4]; exact below_box _ _
  have HB4 := Lib.hid (hb3.trans (hb4.mono hb3.size))
  have F4 := hblk.belowW hb4
  have p0 : w4.cell? ⟨w.heap.size + 1 + 1, 0, none⟩ = some (.int .i64 k) := F4.cell 0
  have p1 : w4.cell? ⟨w.heap.size + 1 + 1, 1, none⟩ = some (.int .i64 0) := F4.cell 1
  have p2 : w4.cell? ⟨w.heap.size + 1 + 1, 2, none⟩ = some (.int .i64 0) := F4.cell 2
  have p3 : w4.cell? ⟨w.heap.size + 1 + 1, 3, none⟩ = some (.string ⟨#[]⟩) := F4.cell 3
  have p4 : w4.cell? ⟨w.heap.size + 1 + 1, 4, none⟩ = some (.int .i64 0) := F4.cell 4
  have p5 : w4.cell? ⟨w.heap.size + 1 + 1, 5, none⟩ = some (.slice (some ⟨w.heap.size + 1 + 1 + 1, 0, none⟩) 2 2) := F4.cell 5
  rw [← hw4] at HI
  have hw4' : w3.alloc (.cells #[.int .i64 x.h.kind, .int .i64 x.h.n, .int .i64 x.h.d, .string x.h.name, .int .i64 x.h.k, .slice x.A x.len x.cap, .int .i64 y.h.kind, .int .i64 y.h.n, .int .i64 y.h.d, .string y.h.name, .int .i64 y.h.k, .slice y.A y.len y.cap] 51) = w4 := hw4.symm
  rw [hw4']
  clear hw4 hw4' hb4 hblk hb3 hs3 F4
  refine bodyPost_ret (v := .agg #[.int .i64 k, .int .i64 0, .int .i64 0, .string ⟨#[]⟩, .int .i64 0, .slice (some ⟨w.heap.size + 1 + 1 + 1, 0, none⟩) 2 2]) (by simp [results, Tryz.results14, go_sem, p0, p1, p2, p3, p4, p5]) rfl ?_
  exact ⟨⟨⟨k, 0, 0, ⟨#[]⟩, 0⟩, some ⟨w.heap.size + 1 + 1 + 1, 0, none⟩, 2, 2⟩, rfl, HI, HB4⟩
end Go.Proofs.YtoogeihbhhcpaaaGreatDoor
namespace Go.Proofs.YtoogeihbhhcpaaaGreatDoor
open Go.RowKit Go.Fl Go.Fl.Nm Go.Fl.Fm Go.Fl.Rt
theorem emp : (⟨#[]⟩ : ByteArray).toList.isEmpty = true := by rw [ByteArray.toList_eq]; rfl
theorem cR_V (f : Nat) (s : ByteArray) (h : nameP s.data.toList = true) : cR (f + 1) (eV s) = 1 := by
  rw [cR_succ, if_pos]
  · rfl
  · show nodeB nameP ⟨2, 0, 0, s, 0⟩ 0 = true
    simp [nodeB, h]
theorem cR_N (f : Nat) (n d : Int) (h : valid n d) : cR (f + 1) (eN n d) = 1 := by
  rw [cR_succ, if_pos]
  · rfl
  · show nodeB nameP ⟨1, n, d, ⟨#[]⟩, 0⟩ 0 = true
    simp [nodeB, h]
theorem cR_2 (f : Nat) (k : Int) (a b : TE) (hk : 3 ≤ k ∧ k ≤ 6) (h : 1 + cR f a ≤ 200) : cR (f + 1) (e2 k a b) = 1 + cR f a + cR f b := by
  rw [cR_succ, if_pos]
  · show goR (cR f) [a, b] 1 = _
    unfold goR goR goR
    rw [if_pos (by decide), if_pos h]
  · show nodeB nameP ⟨k, 0, 0, ⟨#[]⟩, 0⟩ 2 = true
    have e : opsK k = 2 := by unfold opsK; rw [if_pos hk]
    have e1 : ¬ k = 1 := by omega
    have e2 : ¬ k = 2 := by omega
    have e8 : ¬ k = 8 := by omega
    simp [nodeB, e, e1, e2, e8]
theorem cR_7 (f : Nat) (a : TE) : cR (f + 1) (e1 7 0 a) = 1 + cR f a := by
  rw [cR_succ, if_pos]
  · rfl
  · show nodeB nameP ⟨7, 0, 0, ⟨#[]⟩, 0⟩ 1 = true
    have e : opsK 7 = 1 := by decide
    simp [nodeB, e]
theorem cR_8 (f : Nat) (a : TE) : cR (f + 1) (e1 8 3 a) = 1 + cR f a := by
  rw [cR_succ, if_pos]
  · rfl
  · show nodeB nameP ⟨8, 0, 0, ⟨#[]⟩, 3⟩ 1 = true
    simp [nodeB]
def bX : ByteArray := ⟨#[120]⟩
def bY : ByteArray := ⟨#[121]⟩
def t1 : TE := e2 4 (eV bX) (e2 4 (eV bY) (eN 1 3))
def t2 : TE := e2 5 (eV bX) (eN 1 3)
def t3 : TE := e2 5 (eN 1 3) (eV bX)
def t4 : TE := e2 6 (eN 1 1) (eN 3 1)
def t5 : TE := e1 7 0 (eN 2 1)
def t6 : TE := e1 8 3 (eN (-2) 1)
theorem nX : nameP bX.data.toList = true := by decide +kernel
theorem nY : nameP bY.data.toList = true := by decide +kernel
theorem ok1 : okE t1 = true := okE_iff.2 (by
  unfold t1
  rw [cR_2 19 4 _ _ (by decide) (by rw [cR_V 18 _ nX]; decide), cR_V 18 _ nX, cR_2 18 4 _ _ (by decide) (by rw [cR_V 17 _ nY]; decide), cR_V 17 _ nY, cR_N 17 1 3 (by decide)]
  decide)
theorem ok2 : okE t2 = true := okE_iff.2 (by
  unfold t2
  rw [cR_2 19 5 _ _ (by decide) (by rw [cR_V 18 _ nX]; decide), cR_V 18 _ nX, cR_N 18 1 3 (by decide)]
  decide)
theorem ok3 : okE t3 = true := okE_iff.2 (by
  unfold t3
  rw [cR_2 19 5 _ _ (by decide) (by rw [cR_N 18 1 3 (by decide)]; decide), cR_V 18 _ nX, cR_N 18 1 3 (by decide)]
  decide)
theorem ok4 : okE t4 = true := okE_iff.2 (by
  unfold t4
  rw [cR_2 19 6 _ _ (by decide) (by rw [cR_N 18 1 1 (by decide)]; decide), cR_N 18 1 1 (by decide), cR_N 18 3 1 (by decide)]
  decide)
theorem ok5 : okE t5 = true := okE_iff.2 (by unfold t5; rw [cR_7, cR_N 18 2 1 (by decide)]; decide)
theorem ok6 : okE t6 = true := okE_iff.2 (by unfold t6; rw [cR_8, cR_N 18 (-2) 1 (by decide)]; decide)
theorem i1 : Lib.itoa 1 = [49] := by
  have := Lib.itoa_nonneg 1
  rw [Lib.decDigits_one (by decide)] at this
  exact this
theorem i2 : Lib.itoa 2 = [50] := by
  have := Lib.itoa_nonneg 2
  rw [Lib.decDigits_one (by decide)] at this
  exact this
theorem i3 : Lib.itoa 3 = [51] := by
  have := Lib.itoa_nonneg 3
  rw [Lib.decDigits_one (by decide)] at this
  exact this
theorem im2 : Lib.itoa (-2) = [45, 50] := by
  have := Lib.itoa_neg 2 (by decide)
  rw [Lib.decDigits_one (by decide)] at this
  exact this
theorem x13 : textR 1 3 = [49, 47, 51] := by unfold textR; rw [i1, i3, if_neg (by decide)]; rfl
theorem x11 : textR 1 1 = [49] := by unfold textR; rw [i1, if_pos rfl]; rfl
theorem x31 : textR 3 1 = [51] := by unfold textR; rw [i3, if_pos rfl]; rfl
theorem x21 : textR 2 1 = [50] := by unfold textR; rw [i2, if_pos rfl]; rfl
theorem xm21 : textR (-2) 1 = [45, 50] := by unfold textR; rw [im2, if_pos rfl]; rfl
theorem txN (f : Nat) (n d : Int) : txt (f + 1) (eN n d) = textR n d := rfl
theorem txV (f : Nat) (s : ByteArray) : txt (f + 1) (eV s) = s.data.toList := rfl
theorem tx_2 (f : Nat) (k : Int) (a b : TE) (h1 : ¬ k = 1) (h2 : ¬ k = 2) (h6 : k ≤ 6) : txt (f + 1) (e2 k a b) = par (need1 k a.h b.h) (txt f a) ++ (opK k ++ par (need2 k b.h) (txt f b)) := by
  show (if _ then _ else _) = _
  rw [if_neg (show ¬ (e2 k a b).h.kind = 1 from h1), if_neg (show ¬ (e2 k a b).h.kind = 2 from h2), if_pos (show (e2 k a b).h.kind ≤ 6 from h6)]
  rfl
theorem tx_7 (f : Nat) (a : TE) : txt (f + 1) (e1 7 0 a) = 45 :: par (needM a.h) (txt f a) := by
  show (if _ then _ else _) = _
  rw [if_neg (show ¬ (e1 7 0 a).h.kind = 1 by show ¬ (7 : Int) = 1; decide), if_neg (show ¬ (e1 7 0 a).h.kind = 2 by show ¬ (7 : Int) = 2; decide), if_neg (show ¬ (e1 7 0 a).h.kind ≤ 6 by show ¬ (7 : Int) ≤ 6; decide), if_pos (show (e1 7 0 a).h.kind = 7 from rfl)]
  rfl
theorem tx_8 (f : Nat) (a : TE) : txt (f + 1) (e1 8 3 a) = par (needW a.h) (txt f a) ++ 94 :: Lib.itoa 3 := by
  show (if _ then _ else _) = _
  rw [if_neg (show ¬ (e1 8 3 a).h.kind = 1 by show ¬ (8 : Int) = 1; decide), if_neg (show ¬ (e1 8 3 a).h.kind = 2 by show ¬ (8 : Int) = 2; decide), if_neg (show ¬ (e1 8 3 a).h.kind ≤ 6 by show ¬ (8 : Int) ≤ 6; decide), if_neg (show ¬ (e1 8 3 a).h.kind = 7 by show ¬ (8 : Int) = 7; decide), if_pos (show (e1 8 3 a).h.kind = 8 from rfl)]
  rfl
theorem tx1 : txt 20 t1 = [120, 32, 45, 32, 40, 121, 32, 45, 32, 49, 47, 51, 41] := by
  unfold t1
  rw [tx_2 19 4 _ _ (by decide) (by decide) (by decide), txV 18, tx_2 18 4 _ _ (by decide) (by decide) (by decide), txV 17, txN 17, x13]
  decide +kernel
theorem tx2 : txt 20 t2 = [120, 32, 42, 32, 40, 49, 47, 51, 41] := by
  unfold t2
  rw [tx_2 19 5 _ _ (by decide) (by decide) (by decide), txV 18, txN 18, x13]
  decide +kernel
theorem tx3 : txt 20 t3 = [49, 47, 51, 32, 42, 32, 120] := by
  unfold t3
  rw [tx_2 19 5 _ _ (by decide) (by decide) (by decide), txV 18, txN 18, x13]
  decide +kernel
theorem tx4 : txt 20 t4 = [40, 49, 41, 32, 47, 32, 51] := by
  unfold t4
  rw [tx_2 19 6 _ _ (by decide) (by decide) (by decide), txN 18, txN 18, x11, x31]
  decide +kernel
theorem tx5 : txt 20 t5 = [45, 40, 50, 41] := by
  unfold t5
  rw [tx_7 19, txN 18, x21]
  decide +kernel
theorem tx6 : txt 20 t6 = [40, 45, 50, 41, 94, 51] := by
  unfold t6
  rw [tx_8 19, txN 18, xm21, i3]
  decide +kernel
end Go.Proofs.YtoogeihbhhcpaaaGreatDoor
