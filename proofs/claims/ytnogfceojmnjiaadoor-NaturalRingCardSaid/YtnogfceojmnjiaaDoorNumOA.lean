/-
  The walk of the law NaturalOwn: what is kept.
-/
import Derived.Test.YtnogfceojmnjiaaDoorNumDV
set_option linter.unusedVariables false
namespace Go.Proofs.YtnogfceojmnjiaaDoor
open Go.RowKit Go.Fl Go.Fl.Nm

theorem Tryd.infoSl : (Tryd.prog.info? 22).map (fun i => (i.zero, i.size, i.bytes)) = some (some (.slice none 0 0), 1, 24) := by kernel_rfl
abbrev tS : TypeId := 22
abbrev tSS : TypeId := 53
def svs (xs : List SV) : List Value := xs.map sv
theorem svs_len (xs : List SV) : (svs xs).length = xs.length := by simp [svs]
theorem svs_one (p : SV) : ∀ u ∈ [sv p], u.oneCell' = true := by intro u hu; simp at hu; subst hu; rfl
/-- A result: memory of its own, from B on, that holds limbs. -/
def Own (B : Nat) (w : World) (p : SV) : Prop := p.2.1 ≤ 1000 ∧ p.2.1 ≤ p.2.2 ∧ p.2.2 ≤ maxLen ∧ (0 < p.2.1 → ∃ (g : Nat) (cs : Array Value), p.1 = some ⟨g, 0, none⟩ ∧ B ≤ g ∧ Blk w g tU cs ∧ ∀ i, i < p.2.1 → ∃ x : Nat, x < 4294967296 ∧ cs[i]? = some (.int .u32 x))
theorem Own.of_nw {B base n c : Nat} {w : World} {A : Option Addr} {l : List Nat} (h : Nw w tU base A n c l) (hB : B ≤ base) (hn : n ≤ 1000) : Own B w (A, n, c) := by
  refine ⟨hn, h.sl.cap, h.sl.capMax, fun h0 => ?_⟩
  obtain ⟨g, cs, hA, hg, hb⟩ := h.2 h0
  refine ⟨g, cs, hA, by omega, hb, fun i hi => ?_⟩
  obtain ⟨b, off, x, hA2, _, _, hxB, hc⟩ := h.sl.at_ hi
  rw [hA] at hA2
  cases hA2
  rw [Nat.zero_add, hb.cell] at hc
  exact ⟨x, hxB, hc⟩
theorem Own.below {B : Nat} {w w' : World} {p : SV} (h : Own B w p) (hb : Below w.heap.size w w') : Own B w' p :=
  ⟨h.1, h.2.1, h.2.2.1, fun h0 => by
    obtain ⟨g, cs, hA, hg, hbk, hc⟩ := h.2.2.2 h0
    exact ⟨g, cs, hA, hg, hbk.below hb hbk.lt, hc⟩⟩
/-- What lies in another kind of block does not matter. -/
theorem Own.grown {B g0 : Nat} {w w' : World} {p : SV} {t : TypeId} {cs0 : Array Value} (h : Own B w p) (hg : w.grownBy w' (some g0)) (hk : Blk w g0 t cs0) (ht : t ≠ tU) : Own B w' p :=
  ⟨h.1, h.2.1, h.2.2.1, fun h0 => by
    obtain ⟨g, cs, hA, hgB, hbk, hc⟩ := h.2.2.2 h0
    refine ⟨g, cs, hA, hgB, hbk.grown hg (fun e => ?_), hc⟩
    injection e with e
    subst e
    unfold Blk at hbk hk
    rw [hbk] at hk
    injection hk with hk
    injection hk with _ hk
    exact ht hk.symm⟩
/-- A limb is written. -/
theorem Own.set {B g i : Nat} {w : World} {p : SV} {cs0 : Array Value} {y : Nat} (h : Own B w p) (hk : Blk w g tU cs0) (hy : y < 4294967296) : Own B (w.setCell ⟨g, i, none⟩ (.int .u32 y)) p :=
  ⟨h.1, h.2.1, h.2.2.1, fun h0 => by
    obtain ⟨g', cs, hA, hgB, hbk, hc⟩ := h.2.2.2 h0
    by_cases hgg : g' = g
    · subst hgg
      refine ⟨g', cs.setIfInBounds i (.int .u32 y), hA, hgB, by rw [hbk.setCell_eq]; exact hbk.put _, fun j hj => ?_⟩
      obtain ⟨x, hx, hxc⟩ := hc j hj
      by_cases hij : i = j
      · subst hij
        have hlt : i < cs.size := by
          rcases Nat.lt_or_ge i cs.size with h | h
          · exact h
          · rw [Array.getElem?_eq_none h] at hxc; cases hxc
        exact ⟨y, hy, by rw [Array.getElem?_setIfInBounds, if_pos rfl, if_pos hlt]⟩
      · exact ⟨x, hx, by rw [Array.getElem?_setIfInBounds, if_neg hij]; exact hxc⟩
    · exact ⟨g', cs, hA, hgB, hbk.grown (grown_setCell w g i _) (fun e => hgg (by injection e)), hc⟩⟩

/-- What is kept in 'out': its cell at block g, its row from base on. -/
def Kept (w : World) (g base : Nat) (xs : List SV) : Prop := ∃ pv, Blk w g tSS #[pv] ∧ w.ownsRow base tS 1 pv xs.length (svs xs)
theorem Kept.below {w w' : World} {g base : Nat} {xs : List SV} (h : Kept w g base xs) (hb : Below w.heap.size w w') : Kept w' g base xs := by
  obtain ⟨pv, h1, h2⟩ := h
  exact ⟨pv, h1.below hb h1.lt, own_below' h2 hb⟩

/-- The law's state: below the cell of 'out' all is as it was; 'out' holds xs; each of these has memory of its own. -/
def St (wg w : World) (xs : List SV) : Prop := Below wg.heap.size wg w ∧ Kept w wg.heap.size (wg.heap.size + 1) xs ∧ (∀ p ∈ xs, Own wg.heap.size w p) ∧ wg.heap.size + 1 ≤ w.heap.size
theorem St.next {wg w w' : World} {xs : List SV} (h : St wg w xs) (hb : Below w.heap.size w w') : St wg w' xs :=
  ⟨h.1.trans (hb.mono (by have := h.2.2.2; omega)), h.2.1.below hb, fun p hp => (h.2.2.1 p hp).below hb, Nat.le_trans h.2.2.2 hb.size⟩
theorem St.sl {wg w : World} {xs : List SV} {A : Option Addr} {n c : Nat} {l : List Nat} (h : St wg w xs) (hs : Sl wg A n c l) : Sl w A n c l := hs.below h.1
theorem St.first (wg : World) : St wg (wg.alloc (.cells #[.slice none 0 0] tSS)) [] :=
  ⟨(Below.refl _ _).alloc (Nat.le_refl _) _, ⟨_, Blk.new wg tSS _, ⟨rfl, .inl ⟨rfl, rfl⟩⟩⟩, (fun p hp => by cases hp), by simp⟩
/-- Some result: limbs in memory of their own, and some error. -/
def AnyR (w : World) (e : Ending) (w' : World) : Prop :=
  ∃ (A : Option Addr) (n : Nat) (er : Int), e = .returned (.tuple #[.slice A n n, .int .i64 er]) ∧ Hid (∀ B, B ≤ w.heap.size → Own B w' (A, n, n)) ∧ Hid (Below w.heap.size w w')
theorem Res.any {v : Nat} {w : World} {e : Ending} {w' : World} (h : Res w.heap.size v w e w') : AnyR w e w' := by
  obtain ⟨A, n, l, er, rfl, HN, HR, HB⟩ := h
  exact ⟨A, n, er, rfl, Lib.hid (fun B hB => Own.of_nw HN.out hB (by have h1 := HN.out.sl.len; have h2 := HR.out.len; omega)), HB⟩
theorem ErrP.any {er : Int} {w : World} {e : Ending} {w' : World} (h : ErrP er w e w') : AnyR w e w' := by
  obtain ⟨rfl, HB⟩ := h
  exact ⟨none, 0, er, rfl, Lib.hid (fun B hB => Own.of_nw (Nw.none_ _ _ B) (Nat.le_refl _) (by omega)), HB⟩
theorem nSub_some (A B : Option Addr) (n c m d : Nat) (a b : List Nat) (w : World) (ha : Sl w A n c a) (hb : Sl w B m d b) (hn : n ≤ 256) (hm : m ≤ 256) :
    Calls Tryd.prog 12 #[.slice A n c, .slice B m d] w (AnyR w) := by
  rcases Nat.lt_or_ge (val a) (val b) with h | h
  · exact (nSub_less A B n c m d a b w ha hb hn hm h).mono fun _ _ h => h.any
  · exact (nSub_ok A B n c m d a b w ha hb hn hm h).mono fun _ _ h => h.any
/-- Some quotient and rest. -/
def AnyD (w : World) (e : Ending) (w' : World) : Prop :=
  ∃ (A B : Option Addr) (n m : Nat) (er : Int), e = .returned (.tuple #[.slice A n n, .slice B m m, .int .i64 er]) ∧ Hid (∀ K, K ≤ w.heap.size → Own K w' (A, n, n) ∧ Own K w' (B, m, m)) ∧ Hid (Below w.heap.size w w')
theorem nDivMod_some (A B : Option Addr) (n c m d : Nat) (a b : List Nat) (w : World) (ha : Sl w A n c a) (hb : Sl w B m d b) (hn : n ≤ 256) (hm : m ≤ 256) :
    Calls Tryd.prog 13 #[.slice A n c, .slice B m d] w (AnyD w) := by
  rcases Nat.eq_zero_or_pos (val b) with h | h
  · refine (nDivMod_zero A B n c m d a b w ha hb hn hm h).mono ?_
    rintro e w' ⟨rfl, HB⟩
    exact ⟨none, none, 0, 0, 10, rfl, Lib.hid (fun K hK => ⟨Own.of_nw (Nw.none_ _ _ K) (Nat.le_refl _) (by omega), Own.of_nw (Nw.none_ _ _ K) (Nat.le_refl _) (by omega)⟩), HB⟩
  · have hla := Nat.le_trans (limbs_le_len ha.ok) (Nat.le_of_eq ha.len)
    have hlb := Nat.le_trans (limbs_le_len hb.ok) (Nat.le_of_eq hb.len)
    refine (nDivMod_ok A B n c m d a b w ha hb hn hm h).mono ?_
    rintro e w' ⟨Q, R, nq, nr, rfl, HQ, HR, HB⟩
    refine ⟨Q, R, nq, nr, 0, rfl, Lib.hid (fun K hK => ⟨Own.of_nw HQ.out hK ?_, Own.of_nw HR.out hK ?_⟩), HB⟩
    · rw [← HQ.out.sl.len]
      have := div_len (b := val b) hla
      omega
    · rw [← HR.out.sl.len]
      have : (limbs (val a % val b)).length ≤ m := limbs_len_le (Nat.lt_trans (Nat.mod_lt _ h) (limbs_lt hlb))
      omega

/-- The state in the loops. -/
def Fin8 (wg : World) (g1 cap : Nat) (cs : Array Value) (ys : List SV) (w : World) : Prop :=
  Below wg.heap.size wg w ∧ Blk w wg.heap.size tSS #[.slice (some ⟨g1, 0, none⟩) 8 cap] ∧ Blk w g1 tS cs ∧ ∀ p ∈ ys, Own wg.heap.size w p
theorem Fin8.drewN {wg : World} {g1 cap : Nat} {cs : Array Value} {ys : List SV} {w : World} (h : Fin8 wg g1 cap cs ys w) (q : Nat) : Fin8 wg g1 cap cs ys (w.drewN q) :=
  ⟨below_drewN h.1 q, h.2.1, h.2.2.1, fun p hp => (h.2.2.2 p hp).below (below_drewN (Below.refl _ _) q)⟩
theorem blk_other {w : World} {g g' : Nat} {t t' : TypeId} {cs cs' : Array Value} (h : Blk w g t cs) (h' : Blk w g' t' cs') (ht : t ≠ t') : g ≠ g' := fun e => by
  subst e
  unfold Blk at h h'
  rw [h] at h'
  injection h' with h'
  injection h' with _ h'
  exact ht h'
theorem Fin8.set {wg : World} {g1 cap : Nat} {cs : Array Value} {ys : List SV} {w : World} (h : Fin8 wg g1 cap cs ys w) {g i y : Nat} {cs0 : Array Value} (hk : Blk w g tU cs0) (hg : wg.heap.size ≤ g) (hy : y < 4294967296) :
    Fin8 wg g1 cap cs ys (w.setCell ⟨g, i, none⟩ (.int .u32 y)) :=
  ⟨h.1.setCell hg _, h.2.1.grown (grown_setCell w g i _) (fun e => blk_other h.2.1 hk (by decide) (by injection e)), h.2.2.1.grown (grown_setCell w g i _) (fun e => blk_other h.2.2.1 hk (by decide) (by injection e)), fun p hp => (h.2.2.2 p hp).set hk hy⟩

end Go.Proofs.YtnogfceojmnjiaaDoor
