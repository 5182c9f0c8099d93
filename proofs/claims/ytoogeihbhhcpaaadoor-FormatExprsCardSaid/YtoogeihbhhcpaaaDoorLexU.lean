/-
  Walks: the chapter's example ('awake').
-/
import Derived.Test.YtoogeihbhhcpaaaDoorLexT
import Derived.Test.YtoogeihbhhcpaaaDoorPkA
namespace Go.Proofs.YtoogeihbhhcpaaaDoor
open Go.RowKit Go.Fl Go.Fl.Lx

theorem ints_at (l : List Int) (k : Nat) (t : Int) (h : l[k]? = some t) : (l.map (Value.int .i64))[k]? = some (.int .i64 t) := by simp [h]

theorem Rd_new (w : World) (e : TypeId) (xs : List Value) (n : Nat) (h : xs.length = n) : Rd (w.alloc (.cells xs.toArray e)) 1 (some ⟨w.heap.size, 0, none⟩) n xs := by
  refine ⟨by omega, fun _ => ⟨w.heap.size, 0, rfl, by simp, fun j u hu => ?_⟩⟩
  rw [(Blk.new w e xs.toArray).cell]
  simpa using hu

theorem example_toks : ∃ ts, lexRes [120, 39, 32, 61, 32, 45, 49, 46, 53, 32, 42, 32, 120, 59] = .ok ts ∧ ts.length = 8 ∧ ts.map (fun t => (t.col : Int)) = [1, 2, 4, 6, 7, 11, 13, 14] := by
  unfold lexRes
  rw [if_neg (by decide), split_eq_F 14 _ _ (by decide)]
  exact ⟨_, rfl, by decide +kernel, by decide +kernel⟩

theorem Tryd.infoInt : (Tryd.prog.info? 3).map (fun i => (i.zero, i.size, i.bytes)) = some (some (.int .i64 0), 1, 8) := by kernel_rfl

def ColRel (w w0 : World) (ts : List Tok) (k : Nat) (ov iv : Value) (wr : World) : Prop :=
  ∃ j : Nat, iv = .int .i64 j ∧ j ≤ ts.length ∧ k = ts.length - j ∧ Hid (wr.ownsRow w0.heap.size 3 1 ov j ((ts.take j).map (fun t => Value.int .i64 t.col))) ∧ Hid (Below w0.heap.size w0 wr) ∧ Hid (Below w.heap.size w wr)

/-- The law's own examples hold. -/
def AwakePost (w : World) (e : Ending) (w' : World) : Prop := e = .returned (.bool true) ∧ Below w.heap.size w w'

/-- The tokens, the place and the number that Split answers. -/
def quad : Res → List Tok × Nat × Nat × Nat
  | .error (ln, co, er) => ([], ln, co, er)
  | .ok ts => (ts, 0, 0, 0)

/-- A text has at most as many tokens as bytes. -/
theorem pre_ok_len (ts us : List Tok) (r : Res) (h : pre ts r = .ok us) : ∃ vs, r = .ok vs ∧ us = ts ++ vs := by
  cases r with
  | error e => cases h
  | ok vs => exact ⟨vs, rfl, by simpa [pre] using h.symm⟩
theorem split_len (n : Nat) (l : List UInt8) (p : Nat × Nat) (ts : List Tok) (hn : l.length ≤ n) (h : split l p = .ok ts) : ts.length ≤ l.length := by
  induction n generalizing l p ts with
  | zero =>
    have : l = [] := List.eq_nil_of_length_eq_zero (by omega)
    subst this
    rw [split_nil] at h
    cases h; simp
  | succ n ih =>
    cases l with
    | nil => rw [split_nil] at h; cases h; simp
    | cons c r =>
      simp only [List.length_cons] at hn ⊢
      have h1 := dropWhile_le (p := inRun) r
      have h2 := dropWhile_le (p := (· != 10)) r
      rw [split] at h
      split at h
      · have := ih r _ ts (by omega) h; omega
      split at h
      · obtain ⟨vs, hv, rfl⟩ := pre_ok_len _ _ _ h
        have := ih r _ vs (by omega) hv; simp; omega
      split at h
      · split at h
        · obtain ⟨vs, hv, rfl⟩ := pre_ok_len _ _ _ h
          have := ih _ _ vs (by omega) hv; simp; omega
        · cases h
      split at h
      · have := ih _ _ ts (by omega) h; omega
      · cases h
theorem quad_len (l : List UInt8) (ts : List Tok) (ln co er : Nat) (h : quad (lexRes l) = (ts, ln, co, er)) : ts.length ≤ l.length := by
  unfold lexRes at h
  split at h
  · simp only [quad, Prod.mk.injEq] at h
    obtain ⟨rfl, _⟩ := h; simp
  · cases hl : split l (1, 1) with
    | error p => rw [hl] at h; simp only [quad, Prod.mk.injEq] at h; obtain ⟨rfl, _⟩ := h; simp
    | ok us => rw [hl] at h; simp only [quad, Prod.mk.injEq] at h; obtain ⟨rfl, _⟩ := h; exact split_len _ _ _ _ (Nat.le_refl _) hl

end Go.Proofs.YtoogeihbhhcpaaaDoor
