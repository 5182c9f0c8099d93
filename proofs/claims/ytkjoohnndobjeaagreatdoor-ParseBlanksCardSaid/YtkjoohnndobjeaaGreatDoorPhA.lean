/-
  lex.Join of long lists, and what the joined text's tokens are.
-/
import Derived.Test.YtkjoohnndobjeaaGreatDoorLexV
import Derived.Test.YtkjoohnndobjeaaGreatDoorQK
import Derived.Test.YtkjoohnndobjeaaGreatDoorQC
import Derived.Test.YtkjoohnndobjeaaGreatDoorNumShelf2
set_option linter.unusedVariables false
set_option maxHeartbeats 800000
namespace Go.Proofs.YtkjoohnndobjeaaGreatDoor
open Go.RowKit Go.Fl Go.Fl.Lx
theorem own_below {w w' : World} {base size n : Nat} {e : TypeId} {v : Value} {xs : List Value} (h : w.ownsRow base e size v n xs) (hb : Below w.heap.size w w') : w'.ownsRow base e size v n xs := by
 have hg : w.grownBy w' none := ⟨hb.os, hb.tape, hb.output, hb.size, fun k hk _ => hb.block k hk⟩
 cases hv : v.ownBlock with
 | none => exact h.kept hg (.inl hv)
 | some k => exact h.kept hg (.inr (by simp [hv]))
def badP (t : TI) : Bool := !validP t.kind t.text
theorem ti_take (l : List TI) (k : Nat) (t : TI) (h : l[k]? = some t) : l.take (k + 1) = l.take k ++ [t] := by
 rw [List.take_add_one, h]; rfl
theorem cls_sym (b : UInt8) : (cls b == 6) = isSym b := by
 have := u8_all (p := fun c => (cls c == 6) == isSym c) (by decide +kernel) b
 simpa using this
theorem kind_err (l : List UInt8) : (kindOf l).2 = 0 ↔ (kindOf l).1 ≠ 0 := by
 unfold kindOf
 split
 ·
  simp
 split
 ·
  simp
 split <;> simp
theorem lvalid_any (k : Int) (s : ByteArray) (l c : Int) (w : World) (hs : s.size ≤ maxLen) :
 Calls Tryz.prog 64 #[.agg #[.int .i64 k, .string s, .int .i64 l, .int .i64 c]] w fun e w' => e = .returned (.bool (validP k s.data.toList)) ∧ Below w.heap.size w w' := by
 have y := hs
 unfold maxLen at y
 by_cases h3 : k = 3
 ·
  have m : (k == 3) = true := by simpa using h3
  by_cases h1 : s.size = 1
  ·
   obtain ⟨b, d⟩ : ∃ b, s.data.toList = [b] := by
    have : s.data.toList.length = 1 := by rw [length_data]; exact h1
    match hh : s.data.toList, this with
    | [b], _ => exact ⟨b, rfl⟩
   have a : 0 < s.size := (by omega); have z : ((s.size : Int) == 1) = true := (by rw [h1]; rfl)
   have g := hI (show validP k s.data.toList = isSym s[0] by
    have : s[0] = b := by
     have := rest_cons s a
     rw [d] at this; injection this with h _
     exact h.symm
    unfold validP
    rw [m, d, this]; rfl)
   obtain ⟨cb, i⟩ : ∃ cb : UInt8, cb = s[0] := ⟨_, rfl⟩
   rw [← i] at g; have v := hI (cls_sym cb); clear h1 d h3
   by_cases h6 : cls cb = 6
   ·
    have o : ((cls cb : Int) == 6) = true := (by rw [h6]; rfl); have p := hI (show isSym cb = true by rw [← v.out, h6]; rfl); clear h6
    go_enter Tryz.func64, Tryz.ntmps64
    go_wp2_with (go_at_call 59; rw [← i]; refine (class_any _ _).mono ?_; rintro e w' ⟨rfl, rfl⟩)
    go_ret
    exact ⟨ret_bool (by rw [g.out, p.out, ← i]; exact o), (Below.refl _ _).alloc (Nat.le_refl _) _⟩
   have o : ((cls cb : Int) == 6) = false := (by rw [beq_eq_false_iff_ne]; omega); have p := hI (show isSym cb = false by rw [← v.out, beq_eq_false_iff_ne]; exact h6); clear h6
   go_enter Tryz.func64, Tryz.ntmps64
   go_wp2_with (go_at_call 59; rw [← i]; refine (class_any _ _).mono ?_; rintro e w' ⟨rfl, rfl⟩)
   go_ret
   exact ⟨ret_bool (by rw [g.out, p.out, ← i]; exact o), (Below.refl _ _).alloc (Nat.le_refl _) _⟩
  have z : ((s.size : Int) == 1) = false := by rw [beq_eq_false_iff_ne]; omega
  have g := hI (show validP k s.data.toList = false by
   unfold validP
   rw [m, if_pos rfl]
   split
   ·
    rename_i b d
    exfalso
    have := congrArg List.length d
    rw [length_data] at this
    exact h1 (by simpa using this)
   rfl)
  clear h1 h3
  go_enter Tryz.func64, Tryz.ntmps64
  go_wp2_with fail
  go_ret
  exact ⟨ret_bool (by rw [g.out]), (Below.refl _ _).alloc (Nat.le_refl _) _⟩
 have m : (k == 3) = false := by simpa using h3
 have q := hI (show validP k s.data.toList = ((kindOf s.data.toList).1 != 0 && ((kindOf s.data.toList).1 : Int) == k) by unfold validP; rw [m]; rfl)
 have r := hI (kind_err s.data.toList)
 obtain ⟨kd, j, t⟩ : ∃ kd j, kindOf s.data.toList = (kd, j) := ⟨_, _, rfl⟩
 rw [t] at q r
 have x := hI t
 clear t h3
 by_cases a : j = 0
 ·
  have B : ((j : Int) == 0) = true := (by rw [a]; rfl); have u := hI (r.out.1 a); clear a
  go_enter Tryz.func64, Tryz.ntmps64
  go_wp2_with fail
  refine (kind_any _ _ hs).mono ?_
  rw [x.out]; rintro e w' ⟨rfl, n, rfl⟩
  go_wp2_with fail
  go_ret
  exact ⟨ret_bool (by rw [q.out]; simp [u.out]), below_drewN ((Below.refl _ _).alloc (Nat.le_refl _) _) n⟩
 have B : ((j : Int) == 0) = false := by rw [beq_eq_false_iff_ne]; omega
 have u := hI (show kd = 0 by
  rcases Nat.eq_zero_or_pos kd with h | h
  ·
   exact h
  exact absurd (r.out.2 (by omega)) a)
 clear a
 go_enter Tryz.func64, Tryz.ntmps64
 go_wp2_with fail
 refine (kind_any _ _ hs).mono ?_
 rw [x.out]
 rintro e w' ⟨rfl, n, rfl⟩
 go_wp2_with fail
 go_ret
 exact ⟨ret_bool (by rw [q.out, u.out]; simp), below_drewN ((Below.refl _ _).alloc (Nat.le_refl _) _) n⟩
theorem join_len (xs : List (List UInt8)) (h : ∀ x ∈ xs, x.length ≤ 60) : (Lib.join xs [32]).length ≤ 61 * xs.length := by
 cases xs with
 | nil => simp [Lib.join_nil]
 | cons y r =>
  rw [Lib.join_cons, List.length_append]
  have h1 := h y (by simp)
  have h2 : (Lib.joinTail [32] r).length ≤ 61 * r.length := by
   have hr : ∀ x ∈ r, x.length ≤ 60 := fun x hx => h x (by simp [hx])
   clear h h1
   induction r with
   | nil => simp [Lib.joinTail]
   | cons z r ih =>
    have e : Lib.joinTail [32] (z :: r) = [32] ++ z ++ Lib.joinTail [32] r := by simp [Lib.joinTail]
    rw [e, List.length_append, List.length_append]
    have := hr z (by simp)
    have := ih (fun x hx => hr x (by simp [hx]))
    simp; omega
  simp; omega
def texts (ts : List TI) : List (List UInt8) := ts.map TI.text
/-- The joined text of tokens; empty where one is not valid. -/
def joinP (ts : List TI) : List UInt8 := if ts.any badP then [] else Lib.join (texts ts) [32]
theorem joinP_len (ts : List TI) (h1 : ts.length ≤ 65536) (h2 : ∀ t ∈ ts, t.text.length ≤ 60) (k : Nat) : (Lib.join (texts (ts.take k)) [32]).length ≤ 3997696 := by
 have h := join_len (texts (ts.take k)) (fun x hx => by
  unfold texts at hx
  obtain ⟨t, ht, rfl⟩ := List.mem_map.1 hx
  exact h2 t (List.mem_of_mem_take ht))
 simp [texts] at h
 have : min k ts.length ≤ 65536 := by omega
 simp [texts]
 omega
theorem Tryz.infoStr : (Tryz.prog.info? 9).map (fun i => (i.zero, i.size, i.bytes)) = some (some (.string ⟨#[]⟩), 1, 16) := by kernel_rfl
def strs (ts : List TI) : List Value := ts.map fun t => .string ⟨t.text.toArray⟩
def JoinRel (w : World) (ts : List TI) (k : Nat) (ov iv : Value) (wr : World) : Prop :=
  ∃ j : Nat, iv = .int .i64 j ∧ j ≤ ts.length ∧ k = ts.length - j ∧ Hid ((ts.take j).any badP = false) ∧ Hid (wr.ownsRow w.heap.size 9 1 ov j (strs (ts.take j))) ∧ Hid (Below w.heap.size w wr)
def JoinPost (w : World) (ts : List TI) (e : Ending) (w' : World) : Prop :=
  ∃ s : ByteArray, e = .returned (.string s) ∧ Hid (s.data.toList = joinP ts) ∧ Hid (Below w.heap.size w w')
theorem join_long (A : Option Addr) (n ca : Nat) (ts : List TI) (w : World) (hn : n = ts.length) (ha : Rd w 4 A n (tiCells ts)) (hm : n ≤ 65536) (hl : ∀ t ∈ ts, t.text.length ≤ 60) :
 Calls Tryz.prog 33 #[.slice A n ca] w (JoinPost w ts) := by
 have a := hI hn
 have S := hI ha
 have D := hI hl
 clear hn ha hl
 go_enter Tryz.func33, Tryz.ntmps33
 go_wp2_with fail
 go_loopg [3, 8] n (fun k ov iv wr => JoinRel w ts k ov iv wr)
 case atStart => exact ⟨0, rfl, by omega, by rw [a.out]; rfl, by unfold Hid; simp, World.ownsRow_nil _ _ _ _, Below.refl _ _⟩
 obtain ⟨j, rfl, T, rfl, v, q, d⟩ := hrel
 rw [← a.out] at T
 by_cases hlt : j < n
 ·
  obtain ⟨b, o, y, r, l⟩ := S.out.at_ (by omega); subst y
  obtain ⟨t, i⟩ : ∃ t, ts[j]? = some t := ⟨_, List.getElem?_eq_getElem (by rw [← a.out]; exact hlt)⟩
  have x0 : wr.cell? ⟨b, o + j * 4, none⟩ = some (.int .i64 t.kind) := (d.out.cell (p := ⟨b, _, none⟩) r).trans (l (j * 4 + 0) _ (ti_at ts j t i 0 (by omega))); have x1 : wr.cell? ⟨b, o + j * 4 + 1, none⟩ = some (.string ⟨t.text.toArray⟩) := (d.out.cell (p := ⟨b, _, none⟩) r).trans (l (j * 4 + 1) _ (ti_at ts j t i 1 (by omega))); have x2 : wr.cell? ⟨b, o + j * 4 + 2, none⟩ = some (.int .i64 t.line) := (d.out.cell (p := ⟨b, _, none⟩) r).trans (l (j * 4 + 2) _ (ti_at ts j t i 2 (by omega))); have x3 : wr.cell? ⟨b, o + j * 4 + 3, none⟩ = some (.int .i64 t.col) := (d.out.cell (p := ⟨b, _, none⟩) r).trans (l (j * 4 + 3) _ (ti_at ts j t i 3 (by omega))); have E := hI (ti_take ts j t i); have F := hI (List.mem_of_getElem? i); have am := d.out.size; clear l i
  have G : (⟨t.text.toArray⟩ : ByteArray).size ≤ maxLen := by
   have := (D.out t F.out)
   unfold maxLen
   simp [ByteArray.size]; omega
  by_cases hp : badP t = true
  ·
   go_wp2_with fail
   refine (lvalid_any _ _ _ _ _ G).mono ?_
   rintro e w2 ⟨rfl, c⟩; rw [show validP t.kind (⟨t.text.toArray⟩ : ByteArray).data.toList = false by unfold badP at hp; simpa using hp]; have m := hI ((d.out.alloc (by omega) (.cells #[.int .i64 t.kind, .string ⟨t.text.toArray⟩, .int .i64 t.line, .int .i64 t.col] 58)).trans (c.mono (by simp; omega))); clear c
   go_wp2_with fail
   go_ret
   refine ⟨_, rfl, ?_, m.out⟩
   unfold Hid joinP
   rw [if_pos (List.any_eq_true.2 ⟨t, F.out, hp⟩)]
  have z : badP t = false := by simpa using hp
  go_wp2_with fail
  refine (lvalid_any _ _ _ _ _ G).mono ?_
  rintro e w2 ⟨rfl, c⟩; rw [show validP t.kind (⟨t.text.toArray⟩ : ByteArray).data.toList = true by unfold badP at z; simpa using z]; have m := hI ((d.out.alloc (by omega) (.cells #[.int .i64 t.kind, .string ⟨t.text.toArray⟩, .int .i64 t.line, .int .i64 t.col] 58)).trans (c.mono (by simp; omega))); have U := hI (own_below (q.out.alloc _) c); have V := hI ((Blk.new wr 58 #[.int .i64 t.kind, .string ⟨t.text.toArray⟩, .int .i64 t.line, .int .i64 t.col]).below c (by simp)); have W := c.size
  simp at W
  have z1 : w2.cell? ⟨wr.heap.size, 1, none⟩ = some (.string ⟨t.text.toArray⟩) := V.out.cell 1; clear c; obtain ⟨X, H, I, J, L⟩ := info_parts Tryz.infoStr
  go_wp2_with (at_builtin; refine wpList_append_lies _ rfl _ _ _ rfl w.heap.size 9 X _ 1 16 Tryz.underlying94 H I J L rfl (by omega) u3 j (strs (ts.take j)) rfl (by exact U.out.alloc _) ⟨w2.heap.size, 0, none⟩ 1 1 [.string ⟨t.text.toArray⟩] rfl rfl (by exact World.news_of_block (cs := #[.string ⟨t.text.toArray⟩]) (t := 9) (fr := (0, 0)) (by have := heap_alloc_new w2 (.cells #[.string ⟨t.text.toArray⟩] 9); simpa using this)) (by simp [Value.oneCell']) (by omega) (by unfold maxLen; omega) (by omega) (by simp; omega) (w2.heap.size + 1) (by simp) ?_)
  intro g cap w3 hown hgrow hat hlt2
  have Y := hI hown; have Z := hI (show Below w.heap.size w w3 from (m.out.alloc (by omega) _).grown hgrow (by simp; omega) (fun k hk => (q.out.lt k hk).1)); clear hown hgrow hat hlt2 H I J L
  go_wp2_with fail
  go_roundg (ts.length - (j + 1))
  case measure => rw [← a.out]; omega
  refine ⟨j + 1, by go_num, by rw [← a.out]; omega, rfl, ?_, ?_, Z.out⟩
  ·
   unfold Hid
   rw [E.out, List.any_append, v.out]
   simp [z]
  have := Y.out
  unfold Hid
  rw [E.out]
  simpa [strs] using this
 have aa : j = n := by omega
 subst aa
 have ab := hI (show ts.any badP = false by have := v.out; rwa [a.out, List.take_length] at this)
 obtain ⟨A2, c2, hu, s, ap, _⟩ := Rd.of_own q.out
 subst hu
 rw [a.out, List.take_length] at s
 clear q v
 by_cases h0 : j = 0
 ·
  subst h0
  go_wp2_with fail
  refine (Tryz.strings_Join_none _ _ _ _).mono ?_
  rintro e w2 ⟨rfl, rfl⟩
  go_wp2_with fail
  go_ret
  refine ⟨_, rfl, ?_, d.out⟩
  have : ts = [] := List.eq_nil_of_length_eq_zero a.out.symm
  subst this
  rfl
 rw [← a.out] at s
 obtain ⟨M, o, y, ae, N⟩ := s.at_ (by omega)
 subst y
 have O := hI (joinP_len ts (by rw [← a.out]; omega) D.out ts.length)
 rw [List.take_length] at O
 have af := hI N
 clear s N
 obtain ⟨xs, u⟩ : ∃ xs : List ByteArray, xs = ts.map fun t => ⟨t.text.toArray⟩ := ⟨_, rfl⟩
 have P : xs.length = j := by rw [u, a.out]; simp
 have Q : xs.map (·.data.toList) = texts ts := by rw [u]; simp [texts]
 have ag := hI (show ∀ (j : Nat) x, xs[j]? = some x → wr.cell? ⟨M, o + j, none⟩ = some (.string x) by
  intro j x hx
  refine af.out j _ ?_
  rw [u] at hx
  simp [strs] at hx ⊢
  obtain ⟨t, i, rfl⟩ := hx
  exact ⟨t, i, rfl⟩)
 have R := hI Q
 have B := hI P
 clear u Q P
 go_wp2_with fail
 have C := Tryz.strings_Join M o c2 xs ⟨#[32]⟩ wr ag.out ae (by rw [B.out]; omega) (by rw [B.out]; omega) (by rw [R.out]; have := O.out; show (Lib.join (texts ts) [32]).length ≤ _; omega)
 rw [B.out] at C
 refine C.mono ?_
 rintro e w2 ⟨rfl, c⟩
 have m := hI (d.out.trans (c.mono d.out.size))
 clear c C
 generalize hsx : (⟨(Lib.join (xs.map (·.data.toList)) (⟨#[32]⟩ : ByteArray).data.toList).toArray⟩ : ByteArray) = sx
 have ah := hI (show sx.data.toList = joinP ts by
  rw [← hsx]; unfold joinP; rw [ab.out, R.out]; rfl)
 clear hsx
 go_wp2_with fail
 go_ret
 exact ⟨_, rfl, ah.out, m.out⟩
/-- A valid token's text, scanned in front of what does not go on with it. -/
theorem valid_scan (t : TI) (h : badP t = false) (r : List UInt8) (p : Nat × Nat) (hr : ∀ c, r.head? = some c → inRun c = false) :
 t.text ≠ [] ∧ (t.kind.toNat : Int) = t.kind ∧ split (t.text ++ r) p = pre [⟨t.kind.toNat, t.text, p.1, p.2⟩] (split r (p.1, p.2 + t.text.length)) := by
 have hv : validP t.kind t.text = true := by unfold badP at h; simpa using h
 unfold validP at hv
 by_cases h3 : t.kind = 3
 ·
  rw [h3, if_pos (by decide)] at hv
  split at hv
  ·
   rename_i c hc
   rw [hc, h3]
   refine ⟨by simp, by decide, ?_⟩
   rw [List.singleton_append, split_cons_sym c r p hv]
   rfl
  cases hv
 rw [if_neg (by simpa using h3)] at hv
 simp only [Bool.and_eq_true, bne_iff_ne, beq_iff_eq] at hv
 have hk := (kind_err t.text).2 hv.1
 have hrun : t.text ≠ [] ∧ ∀ c ∈ t.text, inRun c = true := by
  rcases (kind_ok t.text).1 hk with h1 | h2
  ·
   exact word_run _ (kind1 _ h1).2.1
  have := num_run _ (kind2 _ h2).2
  exact ⟨this.1, this.2.1⟩
 refine ⟨hrun.1, by rw [← hv.2]; rfl, ?_⟩
 rw [split_app_run t.text r p hrun.1 hrun.2 hr hk]
 congr 3
 rw [← hv.2]; rfl
/-- The tokens of a joined list, from a column on. -/
def backToks : List TI → Nat → List Tok
  | [], _ => []
  | t :: r, at_ => ⟨t.kind.toNat, t.text, 1, at_⟩ :: backToks r (at_ + t.text.length + 1)
theorem split_join (ts : List TI) (h : ts.any badP = false) (c : Nat) : split (Lib.join (texts ts) [32]) (1, c) = .ok (backToks ts c) := by
 induction ts generalizing c with
 | nil => exact split_nil _
 | cons t r ih =>
  simp only [List.any_cons, Bool.or_eq_false_iff] at h
  have e : texts (t :: r) = t.text :: texts r := rfl
  rw [e, Lib.join_cons]
  cases r with
  | nil =>
   have hv := valid_scan t h.1 (Lib.joinTail [32] (texts [])) (1, c) (by simp [texts, Lib.joinTail])
   rw [hv.2.2]
   simp [texts, Lib.joinTail, split_nil, pre, backToks]
  | cons u r =>
   have e2 : Lib.joinTail [32] (texts (u :: r)) = 32 :: Lib.join (texts (u :: r)) [32] := by
    have : texts (u :: r) = u.text :: texts r := rfl
    rw [this, Lib.join_cons]
    simp [Lib.joinTail]
   have hv := valid_scan t h.1 (Lib.joinTail [32] (texts (u :: r))) (1, c) (by
    rw [e2]; intro c hc
    simp at hc; subst hc; decide)
   rw [hv.2.2, e2, split_blank _ _ _ (by decide)]
   have e3 : step1 (1, c + t.text.length) 32 = (1, c + t.text.length + 1) := rfl
   show pre _ (split _ (step1 (1, c + t.text.length) 32)) = _
   rw [e3, ih h.2]
   simp [pre, backToks]
end Go.Proofs.YtkjoohnndobjeaaGreatDoor
