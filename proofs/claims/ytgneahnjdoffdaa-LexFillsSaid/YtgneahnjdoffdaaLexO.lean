/-
  Plain laws of texts with blanks, newlines and comments between tokens.
-/
import Derived.Test.YtgneahnjdoffdaaLexM
namespace Go.Proofs.Ytgneahnjdoffdaa
open Go.RowKit Go.Fl Go.Fl.Lx

/-- Text that leaves no token. -/
def Thru (f : List UInt8) : Prop := ∀ (r : List UInt8) (p : Nat × Nat), ∃ p', split (f ++ r) p = split r p'
theorem Thru.nil : Thru [] := fun _ p => ⟨p, rfl⟩
theorem Thru.blank (c : UInt8) (h : isBlank c = true) (f : List UInt8) (hf : Thru f) : Thru (c :: f) := by
  intro r p
  obtain ⟨p', h'⟩ := hf r (step1 p c)
  exact ⟨p', by rw [List.cons_append, split_blank _ _ _ h, h']⟩
theorem drop_line (t r : List UInt8) (h : (10 : UInt8) ∉ t) : (t ++ 10 :: r).dropWhile (· != 10) = 10 :: r := by
  induction t with
  | nil => simp
  | cons c t ih =>
    have hc : c ≠ 10 := fun e => h (by simp [e])
    rw [List.cons_append, List.dropWhile_cons, if_pos (by simpa using hc)]
    exact ih (fun hh => h (by simp [hh]))
theorem drop_all (t : List UInt8) (h : (10 : UInt8) ∉ t) : t.dropWhile (· != 10) = [] := by
  induction t with
  | nil => rfl
  | cons c t ih =>
    have hc : c ≠ 10 := fun e => h (by simp [e])
    rw [List.dropWhile_cons, if_pos (by simpa using hc)]
    exact ih (fun hh => h (by simp [hh]))
theorem Thru.comment (t : List UInt8) (h : (10 : UInt8) ∉ t) (f : List UInt8) (hf : Thru f) : Thru (35 :: (t ++ 10 :: f)) := by
  intro r p
  rw [List.cons_append, List.append_assoc, List.cons_append, split_hash, drop_line _ _ h, split_blank _ _ _ (by decide)]
  exact hf r _

/-- What may stand between two tokens. -/
def Fill (f : List UInt8) : Prop := Thru f ∧ f.length ≤ 42 ∧ ∃ c g, f = c :: g ∧ inRun c = false

theorem fills_fill (cm : List UInt8) (hl : cm.length ≤ 40) (h10 : (10 : UInt8) ∉ cm) (k : Nat) (f : List UInt8)
    (h : [[32], [10], [9, 32, 13, 10], 35 :: (cm ++ [10]), [32, 35, 32, 35, 10, 10], [32, 32]][k]? = some f) : Fill f := by
  match k with
  | 0 => simp at h; subst h; exact ⟨Thru.blank _ (by decide) _ Thru.nil, by simp, _, _, rfl, by decide⟩
  | 1 => simp at h; subst h; exact ⟨Thru.blank _ (by decide) _ Thru.nil, by simp, _, _, rfl, by decide⟩
  | 2 => simp at h; subst h; exact ⟨Thru.blank _ (by decide) _ (Thru.blank _ (by decide) _ (Thru.blank _ (by decide) _ (Thru.blank _ (by decide) _ Thru.nil))), by simp, _, _, rfl, by decide⟩
  | 3 => simp at h; subst h; exact ⟨Thru.comment cm h10 [] Thru.nil, by simp; omega, _, _, rfl, by decide⟩
  | 4 => simp at h; subst h; exact ⟨Thru.blank _ (by decide) _ (Thru.comment [32, 35] (by decide) [10] (Thru.blank _ (by decide) _ Thru.nil)), by simp, _, _, rfl, by decide⟩
  | 5 => simp at h; subst h; exact ⟨Thru.blank _ (by decide) _ (Thru.blank _ (by decide) _ Thru.nil), by simp, _, _, rfl, by decide⟩
  | n + 6 => simp at h

/-- The text of tokens, each behind a fill. -/
inductive Filled : List TI → List UInt8 → Prop
  | nil : Filled [] []
  | snoc (ts : List TI) (c : List UInt8) (f : List UInt8) (t : TI) : Filled ts c → Fill f → Filled (ts ++ [t]) (c ++ (f ++ t.text))

theorem pre_app (a b : List Tok) (r : Res) : pre a (pre b r) = pre (a ++ b) r := by
  cases r <;> simp [pre]

theorem filled_split (ts : List TI) (c : List UInt8) (h : Filled ts c) (hv : ts.any badP = false) (r : List UInt8) (p : Nat × Nat) (hr : ∀ x, r.head? = some x → inRun x = false) :
    ∃ (us : List Tok) (p' : Nat × Nat), us.length = ts.length ∧ (∀ (j : Nat) (a : TI) (b : Tok), ts[j]? = some a → us[j]? = some b → same2 a (tiOf b)) ∧ split (c ++ r) p = pre us (split r p') := by
  induction h generalizing r p with
  | nil => exact ⟨[], p, rfl, fun j a b ha => by simp at ha, by rw [pre_nil]; rfl⟩
  | snoc ts c f t hf hfill ih =>
    rw [List.any_append, Bool.or_eq_false_iff] at hv
    have hbt : badP t = false := by simpa using hv.2
    obtain ⟨hthru, _, c0, g, hcg, hc0⟩ := hfill
    obtain ⟨us, p', hlen, hal, hsp⟩ := ih hv.1 (f ++ (t.text ++ r)) p (by rw [hcg]; intro x hx; simp at hx; subst hx; exact hc0)
    obtain ⟨p2, hp2⟩ := hthru (t.text ++ r) p'
    obtain ⟨_, hk, hscan⟩ := valid_scan t hbt r p2 hr
    refine ⟨us ++ [⟨t.kind.toNat, t.text, p2.1, p2.2⟩], (p2.1, p2.2 + t.text.length), by simp [hlen], ?_, ?_⟩
    · intro j a b ha hb
      by_cases hj : j < ts.length
      · rw [List.getElem?_append_left hj] at ha
        rw [List.getElem?_append_left (by omega)] at hb
        exact hal j a b ha hb
      · rw [List.getElem?_append_right (by omega)] at ha hb
        rw [hlen] at hb
        cases hjj : j - ts.length with
        | zero =>
          rw [hjj] at ha hb
          simp at ha hb
          subst ha hb
          exact ⟨hk.symm, rfl⟩
        | succ m => rw [hjj] at ha; simp at ha
    · rw [show c ++ (f ++ t.text) ++ r = c ++ (f ++ (t.text ++ r)) by simp, hsp, hp2, hscan, pre_app]

theorem filled_len (ts : List TI) (c : List UInt8) (h : Filled ts c) (h60 : ∀ t ∈ ts, t.text.length ≤ 60) : c.length ≤ 102 * ts.length := by
  induction h with
  | nil => simp
  | snoc ts c f t hf hfill ih =>
    have h1 := ih (fun u hu => h60 u (by simp [hu]))
    have h2 := h60 t (by simp)
    have h3 := hfill.2.1
    simp; omega

/-- The whole text: tokens behind fills, then a comment. -/
theorem filled_lex (ts : List TI) (c cm : List UInt8) (h : Filled ts c) (hv : ts.any badP = false) (h60 : ∀ t ∈ ts, t.text.length ≤ 60) (h80 : ts.length ≤ 80) (hl : cm.length ≤ 40) (h10 : (10 : UInt8) ∉ cm) :
    ∃ us : List Tok, us.length = ts.length ∧ (∀ (j : Nat) (a : TI) (b : Tok), ts[j]? = some a → us[j]? = some b → same2 a (tiOf b)) ∧ quad (lexRes (c ++ 35 :: cm)) = (us, 0, 0, 0) := by
  have hlen := filled_len ts c h h60
  obtain ⟨us, p', h1, h2, h3⟩ := filled_split ts c h hv (35 :: cm) (1, 1) (by intro x hx; simp at hx; subst hx; decide)
  refine ⟨us, h1, h2, ?_⟩
  rw [lexRes_small _ (by simp; omega), h3, split_hash, drop_all _ h10, split_nil]
  simp [pre, quad]
end Go.Proofs.Ytgneahnjdoffdaa
