/-
  The walk of the law NaturalOwn: what is kept.
-/
import Derived.Test.YtkpicaangfibcaaDoorNumDV
set_option linter.unusedVariables false
namespace Go.Proofs.YtkpicaangfibcaaDoor
open Go.RowKit Go.Fl Go.Fl.Nm

theorem Tryd.infoSl : (Tryd.prog.info? 22).map (fun i => (i.zero, i.size, i.bytes)) = some (some (.slice none 0 0), 1, 24) := by kernel_rfl
abbrev tS : TypeId := 22
abbrev tSS : TypeId := 47
def svs (xs : List SV) : List Value := xs.map sv
theorem svs_len (xs : List SV) : (svs xs).length = xs.length := by simp [svs]
theorem svs_one (p : SV) : ∀ u ∈ [sv p], u.oneCell' = true := by intro u hu; simp at hu; subst hu; rfl
/-- A result: memory of its own, from B on, that holds limbs. -/
def Own (B : Nat) (w : World) (p : SV) : Prop := p.2.1 ≤ 1000 ∧ p.2.1 ≤ p.2.2 ∧ p.2.2 ≤ maxLen ∧ (0 < p.2.1 → ∃ (g : Nat) (cs : Array Value), p.1 = some ⟨g, 0, none⟩ ∧ B ≤ g ∧ Blk w g tU cs ∧ ∀ i, i < p.2.1 → ∃ x : Nat, x < 4294967296 ∧ cs[i]? = some (.int .u32 x))
theorem Own.of_nw {B base n c : Nat} {w : World} {A : Option Addr} {l : List Nat} (h : Nw w tU base A n c l) (hB : B ≤ base) (hn : n ≤ 1000) : Own B w (A, n, c) := by
  refine ⟨hn, h.sl.cap, h.sl.capMax, fun h0 => ?_⟩
  obtain ⟨g, cs, hA, hg, hb⟩ := h.2 h0
  refine ⟨g, cs, hA, by omega, hb, fun i hi => ?_⟩
  obtain ⟨b, off, x, hA2, _, _, hxB, hc⟩ := h.sl.at_ hi
  rw [hA] at hA2
  cases hA2
  rw [Nat.zero_add, hb.cell] at hc
  exact ⟨x, hxB, hc⟩
theorem Own.below {B : Nat} {w w' : World} {p : SV} (h : Own B w p) (hb : Below w.heap.size w w') : Own B w' p :=
  ⟨h.1, h.2.1, h.2.2.1, fun h0 => by
    obtain ⟨g, cs, hA, hg, hbk, hc⟩ := h.2.2.2 h0
    exact ⟨g, cs, hA, hg, hbk.below hb hbk.lt, hc⟩⟩
/-- What lies in another kind of block does not matter. -/
theorem Own.grown {B g0 : Nat} {w w' : World} {p : SV} {t : TypeId} {cs0 : Array Value} (h : Own B w p) (hg : w.grownBy w' (some g0)) (hk : Blk w g0 t cs0) (ht : t ≠ tU) : Own B w' p :=
  ⟨h.1, h.2.1, h.2.2.1, fun h0 => by
    obtain ⟨g, cs, hA, hgB, hbk, hc⟩ := h.2.2.2 h0
    refine ⟨g, cs, hA, hgB, hbk.grown hg (fun e => ?_), hc⟩
    injection e with e
    subst e
    unfold Blk at hbk hk
    rw [hbk] at hk
    injection hk with hk
    injection hk with _ hk
    exact ht hk.symm⟩
/-- A limb is written. -/
theorem Own.set {B g i : Nat} {w : World} {p : SV} {cs0 : Array Value} {y : Nat} (h : Own B w p) (hk : Blk w g tU cs0) (hy : y < 4294967296) : Own B (w.setCell ⟨g, i, none⟩ (.int .u32 y)) p :=
  ⟨h.1, h.2.1, h.2.2.1, fun h0 => by
    obtain ⟨g', cs, hA, hgB, hbk, hc⟩ := h.2.2.2 h0
    by_cases hgg : g' = g
    · subst hgg
      refine ⟨g', cs.setIfInBounds i (.int .u32 y), hA, hgB, by rw [hbk.setCell_eq]; exact hbk.put _, fun j hj => ?_⟩
      obtain ⟨x, hx, hxc⟩ := hc j hj
      by_cases hij : i = j
      · subst hij
        have hlt : i < cs.size := by
          rcases Nat.lt_or_ge i cs.size with h | h
          · exact h
          · rw [Array.getElem?_eq_none h] at hxc; cases hxc
        exact ⟨y, hy, by rw [Array.getElem?_setIfInBounds, if_pos rfl, if_pos hlt]⟩
      · exact ⟨x, hx, by rw [Array.getElem?_setIfInBounds, if_neg hij]; exact hxc⟩
    · exact ⟨g', cs, hA, hgB, hbk.grown (grown_setCell w g i _) (fun e => hgg (by injection e)), hc⟩⟩

/-- What is kept in 'out': its cell at block g, its row from base on. -/
def Kept (w : World) (g base : Nat) (xs : List SV) : Prop := ∃ pv, Blk w g tSS #[pv] ∧ w.ownsRow base tS 1 pv xs.length (svs xs)
theorem Kept.below {w w' : World} {g base : Nat} {xs : List SV} (h : Kept w g base xs) (hb : Below w.heap.size w w') : Kept w' g base xs := by
  obtain ⟨pv, h1, h2⟩ := h
  exact ⟨pv, h1.below hb h1.lt, own_below' h2 hb⟩

set_option maxHeartbeats 800000 in
set_option maxRecDepth 100000 in
theorem keep_any (g base : Nat) (p : SV) (er : Int) (xs : List SV) (w : World) (hK : Kept w g base xs) (hg : g < base) (hb : base ≤ w.heap.size) (hx : xs.length ≤ 100) :
    Calls Tryd.prog 43 #[sv p, .int .i64 er, .pointer (some ⟨g, 0, none⟩)] w fun e w' => e = .returned (.tuple #[]) ∧ Hid (Kept w' g base (xs ++ [p])) ∧ Hid (∀ B q, B ≤ w.heap.size → Own B w q → Own B w' q) ∧ Hid (Below g w w') := by
  obtain ⟨pv, hB, hO⟩ := hK
  have HB := Lib.hid hB
  have HO := Lib.hid hO
  have hc0 : w.cell? ⟨g, 0, none⟩ = some pv := hB.cell 0
  have hf0 : w.frozen? ⟨g, 0, none⟩ = false := hB.frozen 0
  obtain ⟨i0, ti, tz0, tz1, tz2⟩ := info_parts Tryd.infoSl
  clear hB hO
  obtain ⟨A, n, c⟩ := p
  unfold sv
  go_enter Tryd.func43, Tryd.ntmps43
  go_wp2_with (at_builtin; refine wpList_append_lies _ rfl _ _ _ rfl base 22 i0 _ 1 24 Tryd.underlying47 ti tz0 tz1 tz2 rfl (by omega) pv xs.length (svs xs) rfl (by exact HO.out.alloc _) ⟨w.heap.size, 0, none⟩ 1 1 [.slice A n c] rfl rfl (by exact World.news_of_block (cs := #[.slice A n c]) (t := 22) (fr := (0, 0)) (heap_alloc_new w _)) (by simp [Value.oneCell']) (by omega) (by unfold maxLen; omega) (by omega) (by simp; omega) (w.heap.size + 1) (by simp) ?_)
  intro g1 cap w2 hown hgrow hat hlt
  have hne : ∀ k, pv.ownBlock = some k → k ≠ g := fun k hk => by have := (HO.out.lt k hk).1; omega
  have HB2 := Lib.hid ((HB.out.alloc (.cells #[.slice A n c] 22)).grown hgrow (fun e => hne g e.symm rfl))
  have HO2 := Lib.hid (show w2.ownsRow base tS 1 (.slice (some ⟨g1, 0, none⟩) (xs ++ [(A, n, c)]).length cap) (xs ++ [(A, n, c)]).length (svs (xs ++ [(A, n, c)])) by
    have := hown
    unfold svs at this ⊢
    rw [List.map_append, List.length_append]
    exact this)
  have HL2 := Lib.hid (show Below g w w2 from ((Below.refl g w).alloc (by omega) _).grown hgrow (by simp; omega) (fun k hk => by have := (HO.out.lt k hk).1; omega))
  have HOW := Lib.hid (show ∀ B q, Own B w q → Own B w2 q from fun B q hq => by
    have h1 : Own B (w.alloc (.cells #[.slice A n c] 22)) q := hq.below ((Below.refl _ _).alloc (Nat.le_refl _) _)
    rcases HO.out.2 with ⟨h2, _⟩ | ⟨k, cap0, cs, h2, _, h3, _⟩
    · rw [h2] at hgrow
      exact h1.below ⟨hgrow.os, hgrow.tape, hgrow.output, hgrow.size, fun i hi => hgrow.block i hi (by simp [Value.ownBlock])⟩
    · rw [h2] at hgrow
      exact h1.grown (g0 := k) hgrow (Blk.alloc h3 _) (by decide))
  have hc1 : w2.cell? ⟨g, 0, none⟩ = some pv := HB2.out.cell 0
  have hf1 : w2.frozen? ⟨g, 0, none⟩ = false := HB2.out.frozen 0
  clear hown hgrow hat hlt ti tz0 tz1 tz2 hne
  go_wp2_with fail
  have HB3 := Lib.hid (show Blk (w2.setCell ⟨g, 0, none⟩ (.slice (some ⟨g1, 0, none⟩) (xs.length + 1) cap)) g tSS #[.slice (some ⟨g1, 0, none⟩) (xs.length + 1) cap] by rw [HB2.out.setCell_eq]; exact HB2.out.put _)
  have HO3 := Lib.hid (show (w2.setCell ⟨g, 0, none⟩ (.slice (some ⟨g1, 0, none⟩) (xs.length + 1) cap)).ownsRow base tS 1 (.slice (some ⟨g1, 0, none⟩) (xs.length + 1) cap) (xs ++ [(A, n, c)]).length (svs (xs ++ [(A, n, c)])) by
    have h1 := HO2.out
    rw [show (xs ++ [(A, n, c)]).length = xs.length + 1 by simp] at h1 ⊢
    exact h1.kept (grown_setCell w2 g 0 _) (.inr (fun e => by
      have h2 := (h1.lt g e).1
      omega)))
  refine bodyPost_end (v := .tuple #[]) (by simp [results, Tryd.results43, go_sem]) rfl ?_
  exact ⟨rfl, Lib.hid ⟨_, HB3.out, HO3.out⟩, Lib.hid (fun B q hB hq => (HOW.out B q hq).grown (grown_setCell w2 g 0 _) HB2.out (by decide)), Lib.hid (HL2.out.setCell (Nat.le_refl _) _)⟩

/-- The law's state: below the cell of 'out' all is as it was; 'out' holds xs; each of these has memory of its own. -/
def St (wg w : World) (xs : List SV) : Prop := Below wg.heap.size wg w ∧ Kept w wg.heap.size (wg.heap.size + 1) xs ∧ (∀ p ∈ xs, Own wg.heap.size w p) ∧ wg.heap.size + 1 ≤ w.heap.size
theorem St.next {wg w w' : World} {xs : List SV} (h : St wg w xs) (hb : Below w.heap.size w w') : St wg w' xs :=
  ⟨h.1.trans (hb.mono (by have := h.2.2.2; omega)), h.2.1.below hb, fun p hp => (h.2.2.1 p hp).below hb, Nat.le_trans h.2.2.2 hb.size⟩
theorem St.sl {wg w : World} {xs : List SV} {A : Option Addr} {n c : Nat} {l : List Nat} (h : St wg w xs) (hs : Sl wg A n c l) : Sl w A n c l := hs.below h.1
theorem St.first (wg : World) : St wg (wg.alloc (.cells #[.slice none 0 0] tSS)) [] :=
  ⟨(Below.refl _ _).alloc (Nat.le_refl _) _, ⟨_, Blk.new wg tSS _, ⟨rfl, .inl ⟨rfl, rfl⟩⟩⟩, (fun p hp => by cases hp), by simp⟩
theorem keep_st (wg : World) (p : SV) (er : Int) (xs : List SV) (w : World) (hS : St wg w xs) (hp : Own wg.heap.size w p) (hx : xs.length ≤ 100) :
    Calls Tryd.prog 43 #[sv p, .int .i64 er, .pointer (some ⟨wg.heap.size, 0, none⟩)] w fun e w' => e = .returned (.tuple #[]) ∧ Hid (St wg w' (xs ++ [p])) := by
  refine (keep_any wg.heap.size (wg.heap.size + 1) p er xs w hS.2.1 (by omega) hS.2.2.2 hx).mono ?_
  rintro e w' ⟨rfl, HK, HO, HB⟩
  refine ⟨rfl, Lib.hid ⟨hS.1.trans HB.out, HK.out, fun q hq => ?_, Nat.le_trans hS.2.2.2 HB.out.size⟩⟩
  have hb : wg.heap.size ≤ w.heap.size := by have := hS.2.2.2; omega
  rcases List.mem_append.1 hq with h | h
  · exact HO.out _ q hb (hS.2.2.1 q h)
  · rw [List.mem_singleton.1 h]
    exact HO.out _ p hb hp

/-- Some result: limbs in memory of their own, and some error. -/
def AnyR (w : World) (e : Ending) (w' : World) : Prop :=
  ∃ (A : Option Addr) (n : Nat) (er : Int), e = .returned (.tuple #[.slice A n n, .int .i64 er]) ∧ Hid (∀ B, B ≤ w.heap.size → Own B w' (A, n, n)) ∧ Hid (Below w.heap.size w w')
theorem Res.any {v : Nat} {w : World} {e : Ending} {w' : World} (h : Res w.heap.size v w e w') : AnyR w e w' := by
  obtain ⟨A, n, l, er, rfl, HN, HR, HB⟩ := h
  exact ⟨A, n, er, rfl, Lib.hid (fun B hB => Own.of_nw HN.out hB (by have h1 := HN.out.sl.len; have h2 := HR.out.len; omega)), HB⟩
theorem ErrP.any {er : Int} {w : World} {e : Ending} {w' : World} (h : ErrP er w e w') : AnyR w e w' := by
  obtain ⟨rfl, HB⟩ := h
  exact ⟨none, 0, er, rfl, Lib.hid (fun B hB => Own.of_nw (Nw.none_ _ _ B) (Nat.le_refl _) (by omega)), HB⟩
theorem nSub_some (A B : Option Addr) (n c m d : Nat) (a b : List Nat) (w : World) (ha : Sl w A n c a) (hb : Sl w B m d b) (hn : n ≤ 256) (hm : m ≤ 256) :
    Calls Tryd.prog 37 #[.slice A n c, .slice B m d] w (AnyR w) := by
  rcases Nat.lt_or_ge (val a) (val b) with h | h
  · exact (nSub_less A B n c m d a b w ha hb hn hm h).mono fun _ _ h => h.any
  · exact (nSub_ok A B n c m d a b w ha hb hn hm h).mono fun _ _ h => h.any
/-- Some quotient and rest. -/
def AnyD (w : World) (e : Ending) (w' : World) : Prop :=
  ∃ (A B : Option Addr) (n m : Nat) (er : Int), e = .returned (.tuple #[.slice A n n, .slice B m m, .int .i64 er]) ∧ Hid (∀ K, K ≤ w.heap.size → Own K w' (A, n, n) ∧ Own K w' (B, m, m)) ∧ Hid (Below w.heap.size w w')
theorem nDivMod_some (A B : Option Addr) (n c m d : Nat) (a b : List Nat) (w : World) (ha : Sl w A n c a) (hb : Sl w B m d b) (hn : n ≤ 256) (hm : m ≤ 256) :
    Calls Tryd.prog 15 #[.slice A n c, .slice B m d] w (AnyD w) := by
  rcases Nat.eq_zero_or_pos (val b) with h | h
  · refine (nDivMod_zero A B n c m d a b w ha hb hn hm h).mono ?_
    rintro e w' ⟨rfl, HB⟩
    exact ⟨none, none, 0, 0, 10, rfl, Lib.hid (fun K hK => ⟨Own.of_nw (Nw.none_ _ _ K) (Nat.le_refl _) (by omega), Own.of_nw (Nw.none_ _ _ K) (Nat.le_refl _) (by omega)⟩), HB⟩
  · have hla := Nat.le_trans (limbs_le_len ha.ok) (Nat.le_of_eq ha.len)
    have hlb := Nat.le_trans (limbs_le_len hb.ok) (Nat.le_of_eq hb.len)
    refine (nDivMod_ok A B n c m d a b w ha hb hn hm h).mono ?_
    rintro e w' ⟨Q, R, nq, nr, rfl, HQ, HR, HB⟩
    refine ⟨Q, R, nq, nr, 0, rfl, Lib.hid (fun K hK => ⟨Own.of_nw HQ.out hK ?_, Own.of_nw HR.out hK ?_⟩), HB⟩
    · rw [← HQ.out.sl.len]
      have := div_len (b := val b) hla
      omega
    · rw [← HR.out.sl.len]
      have : (limbs (val a % val b)).length ≤ m := limbs_len_le (Nat.lt_trans (Nat.mod_lt _ h) (limbs_lt hlb))
      omega

/-- The state in the loops. -/
def Fin8 (wg : World) (g1 cap : Nat) (cs : Array Value) (ys : List SV) (w : World) : Prop :=
  Below wg.heap.size wg w ∧ Blk w wg.heap.size tSS #[.slice (some ⟨g1, 0, none⟩) 8 cap] ∧ Blk w g1 tS cs ∧ ∀ p ∈ ys, Own wg.heap.size w p
theorem Fin8.drewN {wg : World} {g1 cap : Nat} {cs : Array Value} {ys : List SV} {w : World} (h : Fin8 wg g1 cap cs ys w) (q : Nat) : Fin8 wg g1 cap cs ys (w.drewN q) :=
  ⟨below_drewN h.1 q, h.2.1, h.2.2.1, fun p hp => (h.2.2.2 p hp).below (below_drewN (Below.refl _ _) q)⟩
theorem blk_other {w : World} {g g' : Nat} {t t' : TypeId} {cs cs' : Array Value} (h : Blk w g t cs) (h' : Blk w g' t' cs') (ht : t ≠ t') : g ≠ g' := fun e => by
  subst e
  unfold Blk at h h'
  rw [h] at h'
  injection h' with h'
  injection h' with _ h'
  exact ht h'
theorem Fin8.set {wg : World} {g1 cap : Nat} {cs : Array Value} {ys : List SV} {w : World} (h : Fin8 wg g1 cap cs ys w) {g i y : Nat} {cs0 : Array Value} (hk : Blk w g tU cs0) (hg : wg.heap.size ≤ g) (hy : y < 4294967296) :
    Fin8 wg g1 cap cs ys (w.setCell ⟨g, i, none⟩ (.int .u32 y)) :=
  ⟨h.1.setCell hg _, h.2.1.grown (grown_setCell w g i _) (fun e => blk_other h.2.1 hk (by decide) (by injection e)), h.2.2.1.grown (grown_setCell w g i _) (fun e => blk_other h.2.2.1 hk (by decide) (by injection e)), fun p hp => (h.2.2.2 p hp).set hk hy⟩

set_option maxHeartbeats 3200000 in
set_option maxRecDepth 100000 in
theorem naturalOwn_any (A B : Option Addr) (n c m d : Nat) (a b : List Nat) (w : World) (ht : TB w) (ha : Sl w A n c a) (hb : Sl w B m d b) :
    Calls Tryd.prog 10 #[.slice A n c, .slice B m d] w (Awk w) := by
  have HT := Lib.hid ht
  have HA := Lib.hid ha
  have HB := Lib.hid hb
  have hnm := ha.max
  have hmm := hb.max
  unfold maxLen at hnm hmm
  obtain ⟨N, hN⟩ : ∃ N, N = max n m := ⟨_, rfl⟩
  have hmx : max (n : Int) m = N := by omega
  clear ht ha hb
  by_cases h6 : 60 < N
  · have hd : decide ((60 : Int) < N) = true := by simp; omega
    clear hN
    go_enter Tryd.func10, Tryd.ntmps10
    go_wp2_with fail
    refine (awake_any w HT.out).mono ?_
    rintro e w1 ⟨rfl, HL1⟩
    go_wp2_with fail
    go_ret
    exact ⟨rfl, HL1⟩
  · have hd : decide ((60 : Int) < N) = false := by simp; omega
    have hn : n ≤ 60 := by omega
    have hm : m ≤ 60 := by omega
    clear hN h6
    go_enter Tryd.func10, Tryd.ntmps10
    go_wp2_with fail
    refine (awake_any w HT.out).mono ?_
    rintro e w1 ⟨rfl, HL1⟩
    have HA1 := Lib.hid (HA.out.below HL1.out)
    have HB1 := Lib.hid (HB.out.below HL1.out)
    go_wp2_with fail
    refine (clone_any A n c a w1 HA1.out (by omega)).mono ?_
    rintro e w2 ⟨X, cx, rfl, HX, HL2⟩
    have HL2' := Lib.hid (HL1.out.trans (HL2.out.mono HL1.out.size))
    have HB2 := Lib.hid (HB1.out.below HL2.out)
    go_wp2_with fail
    refine (clone_any B m d b w2 HB2.out (by omega)).mono ?_
    rintro e wg ⟨Y, cy, rfl, HY, HL3⟩
    have HLg := Lib.hid (HL2'.out.trans (HL3.out.mono HL2'.out.size))
    have GA := Lib.hid ((HA1.out.below HL2.out).below HL3.out)
    have GB := Lib.hid (HB2.out.below HL3.out)
    have GX := Lib.hid (HX.out.sl.below HL3.out)
    have GY := Lib.hid HY.out.sl
    have S0 := Lib.hid (St.first wg)
    clear HX HY HL3 HL2 HL1 HA1 HB1 HB2 HL2'
    go_wp2_with fail
    refine ((nAdd_ok X Y n cx m cy a b _ (S0.out.sl GX.out) (S0.out.sl GY.out) (by omega) (by omega)).mono fun _ _ h => h.any).mono ?_
    rintro e v1 ⟨R1, r1, e1, rfl, HO1, HB1⟩
    have T1 := Lib.hid (S0.out.next HB1.out)
    have HO1' := Lib.hid (HO1.out wg.heap.size (by have := S0.out.2.2.2; omega))
    go_wp2_with fail
    refine (keep_st wg (R1, r1, r1) e1 _ v1 T1.out HO1'.out (by simp)).mono ?_
    rintro e u1 ⟨rfl, S1⟩
    go_wp2_with fail
    refine ((nSub_some X Y n cx m cy a b _ (S1.out.sl GX.out) (S1.out.sl GY.out) (by omega) (by omega))).mono ?_
    rintro e v2 ⟨R2, r2, e2, rfl, HO2, HB2⟩
    have T2 := Lib.hid (S1.out.next HB2.out)
    have HO2' := Lib.hid (HO2.out wg.heap.size (by have := S1.out.2.2.2; omega))
    go_wp2_with fail
    refine (keep_st wg (R2, r2, r2) e2 _ v2 T2.out HO2'.out (by simp)).mono ?_
    rintro e u2 ⟨rfl, S2⟩
    go_wp2_with fail
    refine ((nMul_ok X Y n cx m cy a b _ (S2.out.sl GX.out) (S2.out.sl GY.out) (by omega) (by omega)).mono fun _ _ h => h.any).mono ?_
    rintro e v3 ⟨R3, r3, e3, rfl, HO3, HB3⟩
    have T3 := Lib.hid (S2.out.next HB3.out)
    have HO3' := Lib.hid (HO3.out wg.heap.size (by have := S2.out.2.2.2; omega))
    go_wp2_with fail
    refine (keep_st wg (R3, r3, r3) e3 _ v3 T3.out HO3'.out (by simp)).mono ?_
    rintro e u3 ⟨rfl, S3⟩
    go_wp2_with fail
    refine ((nShl_ok X n cx 0 a _ (S3.out.sl GX.out) (by omega) (by omega) (by omega)).mono fun _ _ h => h.any).mono ?_
    rintro e v4 ⟨R4, r4, e4, rfl, HO4, HB4⟩
    have T4 := Lib.hid (S3.out.next HB4.out)
    have HO4' := Lib.hid (HO4.out wg.heap.size (by have := S3.out.2.2.2; omega))
    go_wp2_with fail
    refine (keep_st wg (R4, r4, r4) e4 _ v4 T4.out HO4'.out (by simp)).mono ?_
    rintro e u4 ⟨rfl, S4⟩
    go_wp2_with fail
    refine ((nShr_ok X n cx 0 a _ (S4.out.sl GX.out) (by omega) (by omega) (by omega)).mono fun _ _ h => h.any).mono ?_
    rintro e v5 ⟨R5, r5, e5, rfl, HO5, HB5⟩
    have T5 := Lib.hid (S4.out.next HB5.out)
    have HO5' := Lib.hid (HO5.out wg.heap.size (by have := S4.out.2.2.2; omega))
    go_wp2_with fail
    refine (keep_st wg (R5, r5, r5) e5 _ v5 T5.out HO5'.out (by simp)).mono ?_
    rintro e u5 ⟨rfl, S5⟩
    go_wp2_with fail
    refine ((nGcd_ok X Y n cx m cy a b _ (S5.out.sl GX.out) (S5.out.sl GY.out) (by omega) (by omega)).mono fun _ _ h => h.any).mono ?_
    rintro e v6 ⟨R6, r6, e6, rfl, HO6, HB6⟩
    have T6 := Lib.hid (S5.out.next HB6.out)
    have HO6' := Lib.hid (HO6.out wg.heap.size (by have := S5.out.2.2.2; omega))
    go_wp2_with fail
    refine (keep_st wg (R6, r6, r6) e6 _ v6 T6.out HO6'.out (by simp)).mono ?_
    rintro e u6 ⟨rfl, S6⟩
    go_wp2_with fail
    refine (nDivMod_some X Y n cx m cy a b _ (S6.out.sl GX.out) (S6.out.sl GY.out) (by omega) (by omega)).mono ?_
    rintro e v7 ⟨Q, R, nq, nr, e7, rfl, HO7, HB7⟩
    have T7 := Lib.hid (S6.out.next HB7.out)
    have HO7' := Lib.hid (HO7.out wg.heap.size (by have := S6.out.2.2.2; omega))
    obtain ⟨xs, HXS⟩ : ∃ xs : List SV, Hid (xs = [] ++ [(R1, r1, r1)] ++ [(R2, r2, r2)] ++ [(R3, r3, r3)] ++ [(R4, r4, r4)] ++ [(R5, r5, r5)] ++ [(R6, r6, r6)]) := ⟨_, Lib.hid rfl⟩
    rw [← HXS.out] at T7
    have HXL := Lib.hid (show xs.length = 6 by rw [HXS.out]; rfl)
    clear HXS S0 S1 S2 S3 S4 S5 S6 T1 T2 T3 T4 T5 T6 HO1 HO2 HO3 HO4 HO5 HO6 HO7 HO1' HO2' HO3' HO4' HO5' HO6' HB1 HB2 HB3 HB4 HB5 HB6 HB7
    obtain ⟨pv, hpB, hpO⟩ := T7.out.2.1
    have HPB := Lib.hid hpB
    have HPO := Lib.hid hpO
    have hc0 : v7.cell? ⟨wg.heap.size, 0, none⟩ = some pv := hpB.cell 0
    have hsz := T7.out.2.2.2
    obtain ⟨i0, ti, tz0, tz1, tz2⟩ := info_parts Tryd.infoSl
    have hxl6 := HXL.out
    clear hpB hpO
    have HQR := HO7'
    go_wp2_with (at_builtin; refine wpList_append_lies _ rfl _ _ _ rfl (wg.heap.size + 1) 22 i0 _ 1 24 Tryd.underlying47 ti tz0 tz1 tz2 rfl (by omega) pv 6 (svs xs) rfl (by have := HPO.out; rw [hxl6] at this; exact this.alloc _) ⟨v7.heap.size, 0, none⟩ 2 2 [.slice Q nq nq, .slice R nr nr] rfl rfl (by exact World.news_of_block (cs := #[.slice Q nq nq, .slice R nr nr]) (t := 22) (fr := (0, 0)) (heap_alloc_new v7 _)) (by simp [Value.oneCell']) (by omega) (by unfold maxLen; omega) (by omega) (by simp; omega) (v7.heap.size + 1) (by simp) ?_)
    intro g1 cap w2 hown hgrow hat hlt
    obtain ⟨ys, HYS⟩ : ∃ ys : List SV, Hid (ys = xs ++ [(Q, nq, nq), (R, nr, nr)]) := ⟨_, Lib.hid rfl⟩
    have HYL := Lib.hid (show ys.length = 8 by rw [HYS.out, List.length_append, hxl6]; rfl)
    have HG2 := Lib.hid (show Below wg.heap.size wg w2 from (T7.out.1.alloc (by omega) _).grown hgrow (by simp; omega) (fun k hk => by have := (HPO.out.lt k hk).1; omega))
    have HB2 := Lib.hid ((HPB.out.alloc (.cells #[.slice Q nq nq, .slice R nr nr] 22)).grown hgrow (fun e => by have := (HPO.out.lt _ e.symm).1; omega))
    have HOW := Lib.hid (show ∀ q ∈ ys, Own wg.heap.size w2 q from fun q hq => by
      have h0 : Own wg.heap.size v7 q := by
        rw [HYS.out] at hq
        rcases List.mem_append.1 hq with h | h
        · exact T7.out.2.2.1 q h
        · simp only [List.mem_cons, List.mem_nil_iff, or_false] at h
          rcases h with h | h
          · rw [h]; exact HQR.out.1
          · rw [h]; exact HQR.out.2
      have h1 : Own wg.heap.size (v7.alloc (.cells #[.slice Q nq nq, .slice R nr nr] 22)) q := h0.below ((Below.refl _ _).alloc (Nat.le_refl _) _)
      rcases HPO.out.2 with ⟨h2, _⟩ | ⟨k, cap0, cs, h2, _, h3, _⟩
      · rw [h2] at hgrow
        exact h1.below ⟨hgrow.os, hgrow.tape, hgrow.output, hgrow.size, fun i hi => hgrow.block i hi (by simp [Value.ownBlock])⟩
      · rw [h2] at hgrow
        exact h1.grown (g0 := k) hgrow (Blk.alloc h3 _) (by decide))
    obtain ⟨cs, hrow, HCS, hg1⟩ : ∃ cs : Array Value, Hid (Blk w2 g1 tS cs) ∧ Hid (∀ (j : Nat) (p : SV), ys[j]? = some p → cs[j]? = some (sv p)) ∧ wg.heap.size + 1 ≤ g1 := by
      rcases hown.2 with ⟨h2, _⟩ | ⟨k, cap0, cs, h2, hk, h3, _, _, _, h4⟩
      · cases h2
      · injection h2 with e1 e2 e3
        injection e1 with e1
        injection e1 with e1
        subst e1
        refine ⟨cs, Lib.hid h3, Lib.hid (fun j p hp => ?_), hk⟩
        have h5 : (svs xs ++ [Value.slice Q nq nq, Value.slice R nr nr])[j]? = some (sv p) := by
          have : svs xs ++ [Value.slice Q nq nq, Value.slice R nr nr] = svs ys := by rw [HYS.out]; simp [svs, sv]
          rw [this]
          simp [svs, hp]
        rw [← h4, List.getElem?_take] at h5
        split at h5
        · rw [← h5, Array.getElem?_toList]
        · cases h5
    have hc1 : w2.cell? ⟨wg.heap.size, 0, none⟩ = some pv := HB2.out.cell 0
    have hf1 : w2.frozen? ⟨wg.heap.size, 0, none⟩ = false := HB2.out.frozen 0
    clear hown hgrow hat hlt ti tz0 tz1 tz2 HPO HPB hc0 HYS
    have HF := Lib.hid (show Fin8 wg g1 cap cs ys (w2.setCell ⟨wg.heap.size, 0, none⟩ (.slice (some ⟨g1, 0, none⟩) 8 cap)) from
      ⟨HG2.out.setCell (Nat.le_refl _) _, by rw [HB2.out.setCell_eq]; exact HB2.out.put _, hrow.out.grown (grown_setCell _ wg.heap.size 0 _) (fun e => by injection e with e; omega), fun p hp => (HOW.out p hp).grown (grown_setCell w2 wg.heap.size 0 _) HB2.out (by decide)⟩)
    go_wp2_with fail
    generalize w2.setCell ⟨wg.heap.size, 0, none⟩ (.slice (some ⟨g1, 0, none⟩) 8 cap) = w3 at *
    clear HG2 HB2 HOW hrow hc1 hf1 T7 HQR HO7'
    refine (eq_same X A n cx n c a a w3 (GX.out.below HF.out.1) (GA.out.below HF.out.1) rfl).mono ?_
    rintro e w4 ⟨rfl, HQ4⟩
    have HF4 := Lib.hid (show Fin8 wg g1 cap cs ys w4 by obtain ⟨q, hq⟩ := HQ4.out; rw [hq]; exact HF.out.drewN q)
    clear HQ4 HF
    go_wp2_with fail
    refine (eq_same Y B m cy m d b b w4 (GY.out.below HF4.out.1) (GB.out.below HF4.out.1) rfl).mono ?_
    rintro e w5 ⟨rfl, HQ5⟩
    have HF5 := Lib.hid (show Fin8 wg g1 cap cs ys w5 by obtain ⟨q, hq⟩ := HQ5.out; rw [hq]; exact HF4.out.drewN q)
    clear HQ5 HF4
    have hc5 : w5.cell? ⟨wg.heap.size, 0, none⟩ = some (.slice (some ⟨g1, 0, none⟩) 8 cap) := HF5.out.2.1.cell 0
    go_wp2_with fail
    go_loopg [92] 8 (fun k iv wr => ∃ j : Nat, iv = .int .i64 j ∧ j ≤ 8 ∧ k = 8 - j ∧ Hid (Fin8 wg g1 cap cs ys wr))
    case atStart => exact ⟨0, rfl, by omega, rfl, HF5⟩
    case round =>
      obtain ⟨j, rfl, hj, rfl, HF6⟩ := hrel
      by_cases hj8 : j < 8
      · have hdj : decide ((j : Int) < 8) = true := by simp; omega
        obtain ⟨p, hp⟩ : ∃ p, ys[j]? = some p := ⟨_, List.getElem?_eq_getElem (by rw [HYL.out]; exact hj8)⟩
        have HP := Lib.hid (HF6.out.2.2.2 p (List.mem_of_getElem? hp))
        obtain ⟨PA, pn, pc⟩ := p
        have hcj : wr.cell? ⟨g1, j, none⟩ = some (.slice PA pn pc) := (HF6.out.2.2.1.cell j).trans (HCS.out j _ hp)
        have HME := Lib.hid (List.mem_of_getElem? hp)
        have hpn : pn ≤ 1000 := HP.out.1
        clear hp HP
        obtain ⟨wo, rfl⟩ : ∃ wo : World, wo = wr := ⟨_, rfl⟩
        go_wp2_with fail
        go_loopg [98] pn (fun k iv wr => ∃ i : Nat, iv = .int .i64 i ∧ i ≤ pn ∧ k = pn - i ∧ Hid (Fin8 wg g1 cap cs ys wr))
        case atStart => exact ⟨0, rfl, by omega, rfl, HF6⟩
        case round =>
          obtain ⟨i, rfl, hi, rfl, HF7⟩ := hrel
          by_cases hin : i < pn
          · obtain ⟨g, cs0, hA, hgB, hbk, hc⟩ := (HF7.out.2.2.2 _ HME.out).2.2.2 (by show 0 < pn; omega)
            obtain ⟨x, hx, hxc⟩ := hc i hin
            cases (show PA = some ⟨g, 0, none⟩ from hA)
            have hd1 : decide (i < pn) = true := by simpa using hin
            have hg1' : wr.cell? ⟨g, i, none⟩ = some (.int .u32 x) := (hbk.cell i).trans hxc
            have hg2' : wr.frozen? ⟨g, i, none⟩ = false := hbk.frozen i
            have HS := Lib.hid (HF7.out.set (i := i) (y := (x + 1) % 4294967296) hbk hgB (by omega))
            rw [show (((x + 1) % 4294967296 : Nat) : Int) = ((x : Int) + 1) % 4294967296 by simp] at HS
            clear hc hxc hbk
            go_wp2_with fail
            go_roundg (pn - (i + 1))
            case measure => omega
            case rel => exact ⟨i + 1, by go_num, by omega, rfl, HS⟩
          · have hd1 : decide (i < pn) = false := by simpa using hin
            go_wp2_with fail
            go_roundg (8 - (j + 1))
            case measure => omega
            case rel => exact ⟨j + 1, by go_num, by omega, rfl, HF7⟩
      · have hdj : decide ((j : Int) < 8) = false := by simp; omega
        go_wp2_with fail
        refine (eq_same X A n cx n c a a wr (GX.out.below HF6.out.1) (GA.out.below HF6.out.1) rfl).mono ?_
        rintro e w7 ⟨rfl, HQ7⟩
        have HG7 := Lib.hid (show Below wg.heap.size wg w7 by obtain ⟨q, hq⟩ := HQ7.out; rw [hq]; exact below_drewN HF6.out.1 q)
        clear HQ7
        go_wp2_with fail
        refine (eq_same Y B m cy m d b b w7 (GY.out.below HG7.out) (GB.out.below HG7.out) rfl).mono ?_
        rintro e w8 ⟨rfl, HQ8⟩
        have HG8 := Lib.hid (show Below wg.heap.size wg w8 by obtain ⟨q, hq⟩ := HQ8.out; rw [hq]; exact below_drewN HG7.out q)
        clear HQ8
        go_wp2_with fail
        go_ret
        exact ⟨rfl, Lib.hid (HLg.out.trans (HG8.out.mono HLg.out.size))⟩
end Go.Proofs.YtkpicaangfibcaaDoor
