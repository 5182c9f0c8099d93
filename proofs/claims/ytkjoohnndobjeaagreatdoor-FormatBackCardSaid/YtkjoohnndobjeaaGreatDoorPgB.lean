/-
  How long the text of a problem is that was read from a short text. In plain Lean. No program in sight.
-/
import Derived.Test.YtkjoohnndobjeaaGreatDoorQT
import Derived.Test.YtkjoohnndobjeaaGreatDoorQS
import Derived.Test.YtkjoohnndobjeaaGreatDoorQK
set_option linter.unusedVariables false
namespace Go.Fl.Pa
open Go.Lib Go.Fl.Lx Go.Fl.Fm Go.Fl.Rt
open Go.Proofs.YtkjoohnndobjeaaGreatDoor (nameP okE okE_iff name20 range_len)
/-- Nodes, down to a level. -/
def nd : Nat → TE → Nat
  | 0, _ => 0
  | g + 1, T => 1 + (T.l.map (nd g)).sum
theorem nd_leaf (g : Nat) (h : Hd) : nd g (.mk h []) ≤ 1 := by
 cases g with
 | zero => exact Nat.zero_le _
 | succ g => exact Nat.le_refl _
theorem nd_one (g : Nat) (h : Hd) (a : TE) {M : Nat} (ha : ∀ g, nd g a ≤ M) : nd g (.mk h [a]) ≤ 1 + M := by
 cases g with
 | zero => exact Nat.zero_le _
 | succ g =>
  have := ha g
  show 1 + (nd g a + 0) ≤ _
  omega
theorem nd_two (g : Nat) (h : Hd) (a b : TE) {M N : Nat} (ha : ∀ g, nd g a ≤ M) (hb : ∀ g, nd g b ≤ N) : nd g (.mk h [a, b]) ≤ 1 + M + N := by
 cases g with
 | zero => exact Nat.zero_le _
 | succ g =>
  have := ha g
  have := hb g
  show 1 + (nd g a + (nd g b + 0)) ≤ _
  omega
section
variable {nm : List UInt8 → Bool} {ts : List Tok}
/-- The nodes are at most the tokens that were read. -/
theorem nodes_le : ∀ f : Nat,
 (∀ k n e k1, sumP nm ts f k n = .ok e k1 → ∀ g, nd g e + k ≤ k1) ∧ (∀ e0 k n e k1 M, chS nm ts f e0 k n = .ok e k1 → (∀ g, nd g e0 ≤ M) → ∀ g, nd g e + k ≤ M + k1) ∧
 (∀ k n e k1, termP nm ts f k n = .ok e k1 → ∀ g, nd g e + k ≤ k1) ∧ (∀ e0 k n e k1 M, chT nm ts f e0 k n = .ok e k1 → (∀ g, nd g e0 ≤ M) → ∀ g, nd g e + k ≤ M + k1) ∧
 (∀ k n e k1, firstP nm ts f k n = .ok e k1 → ∀ g, nd g e + k ≤ k1) ∧ (∀ k n e k1, factorP nm ts f k n = .ok e k1 → ∀ g, nd g e + k ≤ k1) ∧
 (∀ k n e k1, atomP nm ts f k n = .ok e k1 → ∀ g, nd g e + k ≤ k1) ∧ (∀ k n e k1, encP nm ts f k n = .ok e k1 → ∀ g, nd g e + k ≤ k1) := by
 have i : ∀ {r : PR (Int × Int)} {k k1 : Nat} {e : TE}, r.map numE = .ok e k1 → (∀ a, r = .ok a k1 → k < k1) → ∀ g, nd g e + k ≤ k1 := fun {r k k1 e} h hr g => by
  obtain ⟨a, ha⟩ := map_ok h
  have := hr a ha
  rw [ha] at h; injection h with h _; subst h
  have := nd_leaf g ⟨1, a.1, a.2, ⟨#[]⟩, 0⟩
  show nd g (.mk ⟨1, a.1, a.2, ⟨#[]⟩, 0⟩ []) + k ≤ k1
  omega
 intro f
 induction f with
 | zero =>
  refine ⟨?_, ?_, ?_, ?_, ?_, ?_, ?_, ?_⟩
  ·
   intro k n e k1 h; unfold sumP at h; cases h
  ·
   intro e0 k n e k1 M h; unfold chS at h; cases h
  ·
   intro k n e k1 h; unfold termP at h; cases h
  ·
   intro e0 k n e k1 M h; unfold chT at h; cases h
  ·
   intro k n e k1 h; unfold firstP at h; cases h
  ·
   intro k n e k1 h; unfold factorP at h; cases h
  ·
   intro k n e k1 h; unfold atomP at h; cases h
  intro k n e k1 h; unfold encP at h; cases h
 | succ f ih =>
  obtain ⟨t, l, m, o, u, j, v, p⟩ := ih
  refine ⟨?_, ?_, ?_, ?_, ?_, ?_, ?_, ?_⟩
  ·
   intro k n e k1 h g
   unfold sumP at h
   split at h
   ·
    rename_i e1 k2 h2
    have b := m _ _ _ _ h2; have c := b 0; have d := l _ _ _ _ _ (k2 - k) h (fun g => by have := b g; omega) g
    have : nd 0 e1 = 0 := rfl
    omega
   rename_i h2
   exact (h2 _ _ h).elim
  ·
   intro e0 k n e k1 M h hM g
   unfold chS at h
   split at h
   ·
    split at h
    ·
     rename_i e1 k2 h2
     have b := m _ _ _ _ h2; have c := b 0
     have : nd 0 e1 = 0 := rfl
     have d := l _ _ _ _ _ (1 + M + (k2 - (k + 1))) h (fun g => nd_two g _ _ _ hM (fun g => by have := b g; omega)) g
     omega
    rename_i h2
    exact (h2 _ _ h).elim
   injection h with h1 h2; subst h1 h2
   have := hM g
   omega
  ·
   intro k n e k1 h g
   unfold termP at h
   split at h
   ·
    rename_i e1 k2 h2
    have b := u _ _ _ _ h2; have c := b 0; have d := o _ _ _ _ _ (k2 - k) h (fun g => by have := b g; omega) g
    have : nd 0 e1 = 0 := rfl
    omega
   rename_i h2
   exact (h2 _ _ h).elim
  ·
   intro e0 k n e k1 M h hM g
   unfold chT at h
   split at h
   ·
    split at h
    ·
     rename_i e1 k2 h2
     have b := j _ _ _ _ h2; have c := b 0
     have : nd 0 e1 = 0 := rfl
     have d := o _ _ _ _ _ (1 + M + (k2 - (k + 1))) h (fun g => nd_two g _ _ _ hM (fun g => by have := b g; omega)) g
     omega
    rename_i h2
    exact (h2 _ _ h).elim
   injection h with h1 h2; subst h1 h2
   have := hM g
   omega
  ·
   intro k n e k1 h
   unfold firstP at h
   split at h
   ·
    exact i h (fun a ha => (quotP_ok ha).1)
   exact j _ _ _ _ h
  ·
   intro k n e k1 h g
   unfold factorP at h
   split at h
   ·
    exact i h (fun a ha => (numP_ok ha).1) g
   split at h
   ·
    split at h
    ·
     exact (fail_ok h).elim
    split at h
    ·
     rename_i e1 k2 h2
     have b := j _ _ _ _ h2; injection h with d c; subst d c; have q := b 0; have s := nd_one g ⟨7, 0, 0, ⟨#[]⟩, 0⟩ e1 (M := k2 - (k + 1)) (fun g => by have := b g; omega)
     have : nd 0 e1 = 0 := rfl
     show nd g (.mk ⟨7, 0, 0, ⟨#[]⟩, 0⟩ [e1]) + k ≤ k2
     omega
    rename_i h2
    exact (h2 _ _ h).elim
   split at h
   ·
    rename_i e1 k2 h2
    have b := v _ _ _ _ h2
    split at h
    ·
     split at h
     ·
      exact (unex_ok h).elim
     split at h
     ·
      exact (fail_ok h).elim
     injection h with d c; subst d c; have q := b 0
     have : nd 0 e1 = 0 := rfl
     have s := nd_one g ⟨8, 0, 0, ⟨#[]⟩, powV (tk ts (k2 + 1)).text⟩ e1 (M := k2 - k) (fun g => by have := b g; omega)
     show nd g (.mk ⟨8, 0, 0, ⟨#[]⟩, powV (tk ts (k2 + 1)).text⟩ [e1]) + k ≤ k2 + 2
     omega
    injection h with d c; subst d c
    exact b g
   rename_i h2
   exact (h2 _ _ h).elim
  ·
   intro k n e k1 h g
   unfold atomP at h
   split at h
   ·
    exact i h (fun a ha => (numP_ok ha).1) g
   split at h
   ·
    injection h with d c; subst d c
    have := nd_leaf g ⟨2, 0, 0, ⟨(tk ts k).text.toArray⟩, 0⟩
    show nd g (.mk ⟨2, 0, 0, ⟨(tk ts k).text.toArray⟩, 0⟩ []) + k ≤ k + 1
    omega
   split at h
   ·
    split at h
    ·
     rename_i e1 k2 h2
     have b := p _ _ _ _ h2; injection h with d c; subst d c; have q := b 0
     have : nd 0 e1 = 0 := rfl
     have s := nd_one g ⟨funK (tk ts k).text, 0, 0, ⟨#[]⟩, 0⟩ e1 (M := k2 - (k + 1)) (fun g => by have := b g; omega)
     show nd g (.mk ⟨funK (tk ts k).text, 0, 0, ⟨#[]⟩, 0⟩ [e1]) + k ≤ k2
     omega
    rename_i h2
    exact (h2 _ _ h).elim
   exact p _ _ _ _ h g
  intro k n e k1 h g
  unfold encP at h
  split at h
  ·
   split at h
   ·
    exact (fail_ok h).elim
   split at h
   ·
    rename_i e1 k2 h2
    have b := t _ _ _ _ h2 g
    split at h
    ·
     injection h with d c; subst d c
     omega
    exact (unex_ok h).elim
   rename_i h2
   exact (h2 _ _ h).elim
  exact (unex_ok h).elim
end
/-! The reference's count is the number of nodes. -/
theorem goR_le (c d : TE → Nat) : ∀ (l : List TE) (n : Nat), goR c l n ≤ 200 → (∀ x ∈ l, c x ≤ 200 → c x ≤ d x) → goR c l n ≤ n + (l.map d).sum
 | [], n, _, _ => Nat.le_refl _
 | x :: l, n, h, hd => by
  unfold goR at h ⊢
  split at h
  ·
   rename_i h2
   rw [if_pos h2]
   have h3 := goR_ge c l (n + c x)
   have h4 := hd x (by simp) (by omega)
   have h5 := goR_le c d l (n + c x) h (fun y hy => hd y (by simp [hy]))
   rw [List.map_cons, List.sum_cons]
   omega
  rename_i h2
  omega
theorem cnt_nd (nm : List UInt8 → Bool) : ∀ (f : Nat) (T : TE), cntR nm f T ≤ 200 → cntR nm f T ≤ nd f T
 | 0, T, h => by unfold cntR at h; omega
 | f + 1, T, h => by
  unfold cntR at h ⊢
  split at h
  ·
   rename_i hn
   rw [if_pos hn]
   have := goR_le (cntR nm f) (nd f) T.l 1 h (fun x _ hx => cnt_nd nm f x hx)
   show _ ≤ 1 + (T.l.map (nd f)).sum
   omega
  omega
theorem ok_len {T : TE} (h : okE T = true) : (txt 20 T).length ≤ 50 * nd 20 T := by
 have h1 := okE_iff.1 h
 have h2 := txt_len nameP name20 20 T h1
 have h3 := cnt_nd nameP 20 T h1
 omega
/-! What a rule reads costs at most 50 bytes a token. -/
def Lb {α : Type} (c : α → Nat) (k : Nat) (r : PR α) : Prop := ∀ a k1, r = .ok a k1 → c a + 50 * k ≤ 50 * k1
theorem lb_bind {α β : Type} {c : α → Nat} {d : β → Nat} {k : Nat} {r : PR α} {f : α → Nat → PR β} (h1 : Lb c k r) (h2 : ∀ a k1, Lb (fun b => d b - c a) k1 (f a k1)) : Lb d k (r.bind f) := fun b k2 h => by
 cases r with
 | ok a k1 =>
  have h3 := h1 a k1 rfl
  have h4 := h2 a k1 b k2 h
  simp only at h4
  omega
 | bad l c e => cases h
 | out => cases h
theorem lb_ok {α : Type} {c : α → Nat} {a : α} {k : Nat} (h : c a = 0) : Lb c k (.ok a k) := fun b k1 e => by
 injection e with e1 e2
 subst e1 e2
 omega
section
variable {ts : List Tok}
theorem lb_want (kw : Bool) (s : List UInt8) (k : Nat) : Lb (fun _ => 50) k (wantP ts kw s k) := fun a k1 h => by
 have := want_fw _ _ _ _ _ h
 simp only
 omega
theorem lb_nm (k : Nat) : Lb (fun _ => 50) k (nmR nameP ts k) := fun a k1 h => by
 have := nmR_fw k a k1 h
 simp only
 omega
theorem lb_val (k : Nat) : Lb (fun _ => 50) k (valP ts k) := fun a k1 h => by
 have := val_fw k a k1 h
 simp only
 omega
theorem lb_span (k : Nat) : Lb (fun _ => 50) k (spanP ts k) := fun a k1 h => by
 have := span_fw k a k1 h
 simp only
 omega
theorem lb_dir (k : Nat) : Lb (fun _ => 50) k (dirP ts k) := fun a k1 h => by
 have := dir_fw k a k1 h
 simp only
 omega
theorem lb_sum (k : Nat) : Lb (fun T => 50 * nd 20 T) k (sumE nameP ts k) := fun a k1 h => by
 have := (nodes_le (nm := nameP) (ts := ts) (8 * ts.length + 8)).1 k 0 a k1 h 20
 simp only
 omega
def cDc (_ : DcP) : Nat := 200
def cEq (q : EqP) : Nat := 200 + 50 * nd 20 q.T
def cRs (q : EqP) : Nat := 100 + 50 * nd 20 q.T
def sm {Z : Type} (c : Z → Nat) (l : List Z) : Nat := (l.map c).sum
theorem sm_snoc {Z : Type} (c : Z → Nat) (l : List Z) (z : Z) : sm c (l ++ [z]) = sm c l + c z := by unfold sm; simp
def cEd (x : EdP) : Nat := 200 + 50 * nd 20 x.T + sm cRs x.rs
def cMd (m : MdP) : Nat := 100 + (sm cEq m.fl + sm cEd m.ed)
def cPb (p : PbP) : Nat := sm cDc p.st + sm cDc p.pa + sm cMd p.ms + 150
theorem lb_decl (k : Nat) : Lb cDc k (declP nameP ts k) :=
 lb_bind (lb_nm k) (fun n k1 => lb_bind (lb_want _ _ _) (fun _ k2 => lb_bind (lb_span _) (fun r k3 => lb_bind (lb_want _ _ _) (fun _ k4 => lb_ok (by unfold cDc; rfl)))))
theorem lb_eqn (k : Nat) : Lb cEq k (eqnP nameP ts k) :=
 lb_bind (lb_nm k) (fun n k1 => lb_bind (lb_want _ _ _) (fun _ k2 => lb_bind (lb_want _ _ _) (fun _ k3 => lb_bind (lb_sum _) (fun e k4 => lb_bind (lb_want _ _ _) (fun _ k5 => lb_ok (by unfold cEq; simp only; omega))))))
theorem lb_res : ∀ (f k : Nat) (acc : List EqP), Lb (fun l => sm cRs l - sm cRs acc) k (resP nameP ts f k acc)
 | 0, k, acc => fun a k1 h => by rw [resP] at h; cases h
 | f + 1, k, acc => by
  rw [resP]
  refine lb_bind (lb_nm k) (fun n k1 => lb_bind (lb_want _ _ _) (fun _ k2 => lb_bind (lb_sum _) (fun e k3 => ?_)))
  have hs : sm cRs (acc ++ [⟨n, e⟩]) = sm cRs acc + (100 + 50 * nd 20 e) := sm_snoc _ _ _
  split
  ·
   rename_i h
   intro l k4 h4
   have := lb_res f (k3 + 1) _ l k4 h4
   simp only at this ⊢
   rw [hs] at this
   omega
  exact lb_ok (by rw [hs]; omega)
theorem lb_with (k : Nat) : Lb (sm cRs) k (withP nameP ts k) := by
 unfold withP
 split
 ·
  intro l k1 h
  have := lb_res _ (k + 1) [] l k1 h
  have e : sm cRs ([] : List EqP) = 0 := rfl
  simp only [e] at this
  omega
 exact lb_ok rfl
theorem lb_edge (k : Nat) : Lb cEd k (edgeP nameP ts k) :=
 lb_bind (lb_sum k) (fun g k1 => lb_bind (lb_dir _) (fun d k2 => lb_bind (lb_want _ _ _) (fun _ k3 => lb_bind (lb_nm _) (fun n k4 => lb_bind (lb_with _) (fun rs k5 => lb_bind (lb_want _ _ _) (fun _ k6 => lb_ok (by unfold cEd; simp only; omega)))))))
theorem lb_body : ∀ (f k : Nat) (fl : List EqP) (ed : List EdP), Lb (fun b => sm cEq b.1 + sm cEd b.2 - (sm cEq fl + sm cEd ed)) k (bodyP nameP ts f k fl ed)
 | 0, k, fl, ed => fun a k1 h => by rw [bodyP] at h; cases h
 | f + 1, k, fl, ed => by
  rw [bodyP]
  split
  ·
   intro b k1 h
   injection h with h1 h2
   subst h1 h2
   simp only
   omega
  split
  ·
   intro b k1 h
   have h9 : Lb (fun b => sm cEq b.1 + sm cEd b.2 - (sm cEq fl + sm cEd ed)) (k + 1) ((edgeP nameP ts (k + 1)).bind fun x k1 => bodyP nameP ts f k1 fl (ed ++ [x])) := lb_bind (lb_edge (k + 1)) (fun x k1 b k2 hb => by
    have := lb_body f k1 fl (ed ++ [x]) b k2 hb
    rw [sm_snoc] at this
    simp only at this ⊢
    omega)
   have := h9 b k1 h
   omega
  exact lb_bind (lb_eqn k) (fun q k1 b k2 hb => by
   have := lb_body f k1 (fl ++ [q]) ed b k2 hb
   rw [sm_snoc] at this
   simp only at this ⊢
   omega)
theorem lb_mode (k : Nat) : Lb cMd k (modeP nameP ts k) :=
 lb_bind (lb_nm k) (fun n k1 => lb_bind (lb_want _ _ _) (fun _ k2 => lb_bind (lb_body _ _ [] []) (fun b k3 => lb_ok (by
  have e1 : sm cEq ([] : List EqP) = 0 := rfl
  have e2 : sm cEd ([] : List EdP) = 0 := rfl
  unfold cMd
  rw [e1, e2]
  simp only
  omega))))
theorem lb_decls : ∀ (f k : Nat) (st pa : List DcP), Lb (fun b => sm cDc b.1 + sm cDc b.2 - (sm cDc st + sm cDc pa)) k (declsP nameP ts f k st pa)
 | 0, k, st, pa => fun a k1 h => by rw [declsP] at h; cases h
 | f + 1, k, st, pa => by
  rw [declsP]
  split
  ·
   intro b k1 h
   have h9 : Lb (fun b => sm cDc b.1 + sm cDc b.2 - (sm cDc st + sm cDc pa)) (k + 1) ((declP nameP ts (k + 1)).bind fun x k1 => declsP nameP ts f k1 (st ++ [x]) pa) := lb_bind (lb_decl (k + 1)) (fun x k1 b k2 hb => by
    have := lb_decls f k1 (st ++ [x]) pa b k2 hb
    rw [sm_snoc] at this
    simp only at this ⊢
    omega)
   have := h9 b k1 h
   omega
  split
  ·
   intro b k1 h
   have h9 : Lb (fun b => sm cDc b.1 + sm cDc b.2 - (sm cDc st + sm cDc pa)) (k + 1) ((declP nameP ts (k + 1)).bind fun x k1 => declsP nameP ts f k1 st (pa ++ [x])) := lb_bind (lb_decl (k + 1)) (fun x k1 b k2 hb => by
    have := lb_decls f k1 st (pa ++ [x]) b k2 hb
    rw [sm_snoc] at this
    simp only at this ⊢
    omega)
   have := h9 b k1 h
   omega
  exact lb_ok (by simp only; omega)
theorem lb_modes : ∀ (f k : Nat) (ms : List MdP), Lb (fun l => sm cMd l - sm cMd ms) k (modesP nameP ts f k ms)
 | 0, k, ms => fun a k1 h => by rw [modesP] at h; cases h
 | f + 1, k, ms => by
  rw [modesP]
  split
  ·
   intro b k1 h
   have h9 : Lb (fun l => sm cMd l - sm cMd ms) (k + 1) ((modeP nameP ts (k + 1)).bind fun m k1 => modesP nameP ts f k1 (ms ++ [m])) := lb_bind (lb_mode (k + 1)) (fun x k1 b k2 hb => by
    have := lb_modes f k1 (ms ++ [x]) b k2 hb
    rw [sm_snoc] at this
    simp only at this ⊢
    omega)
   have := h9 b k1 h
   omega
  exact lb_ok (by omega)
theorem lb_prob (k : Nat) : Lb cPb k (probP nameP ts k) :=
 lb_bind (lb_decls _ k [] []) (fun d k1 => lb_bind (lb_modes _ _ []) (fun ms k2 => lb_bind (lb_want _ _ _) (fun _ k3 => lb_bind (lb_val _) (fun t k4 => lb_bind (lb_want _ _ _) (fun _ k5 => lb_ok (by
  have e1 : sm cDc ([] : List DcP) = 0 := rfl
  have e2 : sm cMd ([] : List MdP) = 0 := rfl
  unfold cPb
  simp only [e1, e2]
  omega))))))
end
/-! The texts are not longer. -/
theorem flat_sm {Z : Type} (g : Z → List UInt8) (c : Z → Nat) (l : List Z) (h : ∀ z ∈ l, (g z).length ≤ c z) : (l.flatMap g).length ≤ sm c l := by
 induction l with
 | nil => exact Nat.zero_le _
 | cons z l ih =>
  rw [List.flatMap_cons, List.length_append]
  have h1 := h z (by simp)
  have h2 := ih (fun y hy => h y (by simp [hy]))
  unfold sm at h2 ⊢
  rw [List.map_cons, List.sum_cons]
  omega
theorem dcW_len {w : List UInt8} (hw : w.length ≤ 5) {d : DcP} (h : d.ok = true) : (dcW w d).length ≤ cDc d := by
 unfold DcP.ok at h
 rw [Bool.and_eq_true] at h
 have h1 := name20 _ h.1
 have h2 := range_len h.2
 unfold dcW DcP.txt cDc
 simp only [List.length_append, List.length_cons, List.length_nil]
 omega
theorem ft_len9 {q : EqP} (h : q.ok = true) : q.ft.length ≤ cEq q := by
 unfold EqP.ok at h
 rw [Bool.and_eq_true] at h
 have h1 := name20 _ h.1
 have h2 := ok_len h.2
 unfold EqP.ft cEq
 simp only [List.length_append, List.length_cons, List.length_nil]
 omega
theorem rt_len9 {q : EqP} (h : q.ok = true) : q.rt.length + 10 ≤ cRs q := by
 unfold EqP.ok at h
 rw [Bool.and_eq_true] at h
 have h1 := name20 _ h.1
 have h2 := ok_len h.2
 unfold EqP.rt cRs
 simp only [List.length_append, List.length_cons, List.length_nil]
 omega
theorem rl_len9 {l : List EqP} (h : l.all EqP.ok = true) : (rlT l).length ≤ sm cRs l := by
 cases l with
 | nil => exact Nat.zero_le _
 | cons x l =>
  rw [List.all_cons, Bool.and_eq_true] at h
  have h1 := rt_len9 h.1
  have h2 := flat_sm (fun y => [44, 32] ++ y.rt) cRs l (fun z hz => by
   have := rt_len9 (List.all_eq_true.1 h.2 z hz)
   simp only [List.length_append, List.length_cons, List.length_nil]
   omega)
  unfold rlT
  unfold sm at h2 ⊢
  rw [List.map_cons, List.sum_cons]
  simp only [List.length_append, List.length_cons, List.length_nil] at h2 ⊢
  omega
theorem ed_len9 {x : EdP} (h : x.ok = true) : x.txt.length ≤ cEd x := by
 unfold EdP.ok at h
 simp only [Bool.and_eq_true] at h
 have h1 := name20 _ h.2.2.1
 have h2 := ok_len h.1
 have h3 := rl_len9 h.2.2.2.2
 have h4 : x.wd.length ≤ 12 := by unfold EdP.wd; split <;> simp
 unfold EdP.txt cEd
 simp only [List.length_append, List.length_cons, List.length_nil]
 omega
theorem md_len9 {m : MdP} (h : m.ok = true) : m.txt.length ≤ cMd m := by
 unfold MdP.ok at h
 simp only [Bool.and_eq_true] at h
 have h1 := name20 _ h.1
 have h2 := flat_sm EqP.ft cEq m.fl (fun z hz => ft_len9 (List.all_eq_true.1 h.2.2.2.1 z hz))
 have h3 := flat_sm EdP.txt cEd m.ed (fun z hz => ed_len9 (List.all_eq_true.1 h.2.2.2.2 z hz))
 unfold MdP.txt MdP.hd cMd
 simp only [List.length_append, List.length_cons, List.length_nil]
 omega
theorem pb_len9 {p : PbP} (h : p.ok = true) : p.txt.length ≤ cPb p := by
 unfold PbP.ok at h
 simp only [Bool.and_eq_true] at h
 have h1 := flat_sm (dcW kState) cDc p.st (fun z hz => dcW_len (by decide) (List.all_eq_true.1 h.2.1 z hz))
 have h2 := flat_sm (dcW kParam) cDc p.pa (fun z hz => dcW_len (by decide) (List.all_eq_true.1 h.2.2.1 z hz))
 have h3 := flat_sm MdP.txt cMd p.ms (fun z hz => md_len9 (List.all_eq_true.1 h.2.2.2.1 z hz))
 have h4 := textR_len (vB_iff.1 h.2.2.2.2)
 unfold PbP.txt cPb
 simp only [List.length_append, List.length_cons, List.length_nil]
 omega
/-- A problem's text is at most 50 times as long as the text that it was read from. -/
theorem back_len {l : List UInt8} {ts : List Tok} {p : PbP} (h1 : lexRes l = .ok ts) (h2 : probP nameP ts 0 = .ok p ts.length) (h3 : p.ok = true) : p.txt.length ≤ 50 * l.length := by
 have h4 := lb_prob (ts := ts) 0 p ts.length h2
 have h5 := pb_len9 h3
 have h6 : ts.length ≤ l.length := by
  unfold lexRes at h1
  split at h1
  ·
   cases h1
  exact (split_bd l.length l (1, 1) ts (Nat.le_refl _) h1).1
 omega
end Go.Fl.Pa
