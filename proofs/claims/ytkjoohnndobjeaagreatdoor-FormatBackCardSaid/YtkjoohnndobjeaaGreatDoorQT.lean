/-
  The text of a problem, its tokens, and what is read from them. In plain Lean. No program in sight.
  A problem's tokens are read as the problem. In plain Lean. No program in sight.
-/
import Derived.Test.YtkjoohnndobjeaaGreatDoorQM
import Derived.Test.YtkjoohnndobjeaaGreatDoorQS
import Derived.Test.YtkjoohnndobjeaaGreatDoorQV
set_option linter.unusedVariables false
namespace Go.Fl.Pa
open Go.Lib Go.Fl.Lx Go.Fl.Fm Go.Fl.Rt
open Go.Proofs.YtkjoohnndobjeaaGreatDoor (nameP okE kwP range_len)
/-! Which problems that were read are right. -/
def DcP.ok (d : DcP) : Bool := nameP d.s && (vB d.r.lo.1 d.r.lo.2 && vB d.r.hi.1 d.r.hi.2)
def EqP.ok (q : EqP) : Bool := nameP q.s && okE q.T
def EdP.ok (x : EdP) : Bool := okE x.T && (((x.dir == 1) || (x.dir == 2)) && (nameP x.tn && (decide (x.rs.length ≤ 4) && x.rs.all EqP.ok)))
def MdP.ok (m : MdP) : Bool := nameP m.s && (decide (m.fl.length ≤ 4) && (decide (m.ed.length ≤ 4) && (m.fl.all EqP.ok && m.ed.all EdP.ok)))
def PbP.ok (p : PbP) : Bool := (decide (1 ≤ p.st.length) && decide (p.st.length ≤ 4) && decide (p.pa.length ≤ 4) && decide (1 ≤ p.ms.length) && decide (p.ms.length ≤ 8)) && (p.st.all DcP.ok && (p.pa.all DcP.ok && (p.ms.all MdP.ok && vB p.tm.1 p.tm.2)))
theorem nmP_fn (c : Int) : nameP (fnK c) = false := by
 unfold fnK
 split
 ·
  decide
 split
 ·
  decide
 split
 ·
  decide
 split <;> decide
/-- A name that is no reserved word. -/
theorem namek {l : List UInt8} (h : nameP l = true) : wordP l = true ∧ l.length ≤ 20 ∧ kwP l = false := by
 unfold nameP at h
 simp only [Bool.and_eq_true, decide_eq_true_eq, Bool.not_eq_true'] at h
 exact ⟨h.1.1, h.1.2, h.2⟩
def rgTk (a b c d : Int) : List (Nat × List UInt8) := if a = c ∧ b = d then numT a b else (3, [91]) :: (numT a b ++ ((3, [44]) :: (numT c d ++ [(3, [93])])))
def dcTk (w : List UInt8) (d : DcP) : List (Nat × List UInt8) := (1, w) :: (1, d.s) :: (1, kIn) :: (rgTk d.r.lo.1 d.r.lo.2 d.r.hi.1 d.r.hi.2 ++ [(3, [59])])
def eqTk (q : EqP) : List (Nat × List UInt8) := (1, q.s) :: (3, [39]) :: (3, [61]) :: (tkn 20 q.T ++ [(3, [59])])
def rsTk (q : EqP) : List (Nat × List UInt8) := (1, q.s) :: (3, [61]) :: tkn 20 q.T
def rlTk : List EqP → List (Nat × List UInt8)
  | [] => []
  | x :: l => (1, kWith) :: (rsTk x ++ l.flatMap (fun y => (3, [44]) :: rsTk y))
def dirW (d : Int) : List UInt8 := if d = 2 then kFalls else kRises
def edTk (x : EdP) : List (Nat × List UInt8) := (1, kWhen) :: (tkn 20 x.T ++ ((1, dirW x.dir) :: (1, kGoto) :: (1, x.tn) :: (rlTk x.rs ++ [(3, [59])])))
def mdTk (m : MdP) : List (Nat × List UInt8) := (1, kMode) :: (1, m.s) :: (3, [123]) :: (m.fl.flatMap eqTk ++ (m.ed.flatMap edTk ++ [(3, [125])]))
def pbTk (p : PbP) : List (Nat × List UInt8) := p.st.flatMap (dcTk kState) ++ (p.pa.flatMap (dcTk kParam) ++ (p.ms.flatMap mdTk ++ ((1, kTime) :: (numT p.tm.1 p.tm.2 ++ [(3, [59])]))))
/-! The texts. -/
def DcP.txt (d : DcP) : List UInt8 := d.s ++ ([32, 105, 110, 32] ++ (rangeT d.r.lo.1 d.r.lo.2 d.r.hi.1 d.r.hi.2 ++ [59, 10]))
def EqP.rt (x : EqP) : List UInt8 := x.s ++ ([32, 61, 32] ++ txt 20 x.T)
def EqP.ft (x : EqP) : List UInt8 := [9] ++ (x.s ++ ([39, 32, 61, 32] ++ (txt 20 x.T ++ [59, 10])))
def rlT : List EqP → List UInt8
  | [] => []
  | x :: l => [32, 119, 105, 116, 104, 32] ++ x.rt ++ l.flatMap (fun y => [44, 32] ++ y.rt)
def EdP.wd (x : EdP) : List UInt8 := if x.dir = 2 then [32, 102, 97, 108, 108, 115, 32, 103, 111, 116, 111, 32] else [32, 114, 105, 115, 101, 115, 32, 103, 111, 116, 111, 32]
def EdP.txt (x : EdP) : List UInt8 := [9, 119, 104, 101, 110, 32] ++ (Go.Fl.Fm.txt 20 x.T ++ (x.wd ++ (x.tn ++ (rlT x.rs ++ [59, 10]))))
def MdP.hd (x : MdP) : List UInt8 := [109, 111, 100, 101, 32] ++ (x.s ++ [32, 123, 10])
def MdP.txt (x : MdP) : List UInt8 := x.hd ++ (x.fl.flatMap EqP.ft ++ (x.ed.flatMap EdP.txt ++ [125, 10]))
def dcW (w : List UInt8) (d : DcP) : List UInt8 := w ++ ([32] ++ d.txt)
def PbP.txt (x : PbP) : List UInt8 := x.st.flatMap (dcW kState) ++ (x.pa.flatMap (dcW kParam) ++ (x.ms.flatMap MdP.txt ++ ([116, 105, 109, 101, 32] ++ (textR x.tm.1 x.tm.2 ++ [59, 10]))))
/-! Their tokens. -/
theorem ls_nl {l : List UInt8} (h : ∀ c ∈ l, isBlank c = true) : LexS l [] := by
 induction l with
 | nil => exact fun r p => ⟨[], p, by rw [List.nil_append, pre_nil], rfl⟩
 | cons c l ih => exact (ls_blank (h c (by simp))).s (ih (fun d hd => h d (by simp [hd])))
theorem ls_word {t : List UInt8} (h : wordP t = true) (hl : t.length ≤ 20) : LexS (t ++ [32]) [(1, t)] := by
 have := (lk_word h hl).s (norun_cons (c := 32) (l := []) (by decide)) (by simp) (ls_blank (c := 32) (by decide))
 simpa using this
theorem ls_flat {Z : Type} (f : Z → List UInt8) (g : Z → List (Nat × List UInt8)) (l : List Z) (h : ∀ z ∈ l, LexS (f z) (g z)) : LexS (l.flatMap f) (l.flatMap g) := by
 induction l with
 | nil => exact ls_nl (fun c hc => by cases hc)
 | cons z l ih =>
  rw [List.flatMap_cons, List.flatMap_cons]
  exact (h z (by simp)).s (ih (fun y hy => h y (by simp [hy])))
theorem ls_semi : LexS [59, 10] [(3, [59])] := (ls_sym (c := 59) (by decide)).s (ls_blank (c := 10) (by decide))
/-- A text that ends anyhow, with a semicolon behind it. -/
theorem lk_semi {a : List UInt8} {ka : List (Nat × List UInt8)} (h : LexK a ka) : LexS (a ++ [59, 10]) (ka ++ [(3, [59])]) := h.s (norun_cons (by decide)) (by simp) ls_semi
theorem vB_valid {a b : Int} (h : vB a b = true) : valid a b := vB_iff.1 h
theorem lk_range {a b c d : Int} (h : (vB a b && vB c d) = true) : LexK (rangeT a b c d) (rgTk a b c d) := by
 rw [Bool.and_eq_true] at h
 have h1 := lk_num (vB_valid h.1)
 have h2 := lk_num (vB_valid h.2)
 unfold rangeT rgTk
 by_cases e : a = c ∧ b = d
 ·
  rw [if_pos e, if_pos e]
  exact h1
 rw [if_neg e, if_neg e]
 have hb : LexS ([44, 32] : List UInt8) [(3, [44])] := (ls_sym (c := 44) (by decide)).s (ls_blank (c := 32) (by decide))
 have h3 := (ls_sym (c := 91) (by decide)).sk (h1.k (norun_cons (by decide)) (hb.sk (h2.k (norun_cons (c := 93) (l := []) (by decide)) (ls_sym (c := 93) (by decide)).k)))
 simpa [List.append_assoc] using h3
theorem ls_decl {w : List UInt8} (hw : wordP w = true ∧ w.length ≤ 20) {d : DcP} (h : d.ok = true) : LexS (dcW w d) (dcTk w d) := by
 unfold DcP.ok at h
 rw [Bool.and_eq_true] at h
 obtain ⟨n1, n2, n3⟩ := namek h.1
 have hr := lk_semi (lk_range h.2)
 have h1 := (ls_word hw.1 hw.2).s ((ls_word n1 n2).s ((ls_word (t := kIn) (by decide) (by decide)).s hr))
 unfold dcW dcTk DcP.txt
 simpa [List.append_assoc, kIn] using h1
theorem okT {T : TE} (h : okE T = true) : LexK (txt 20 T) (tkn 20 T) := lk_tree (fun l h => ⟨(namek h).1, (namek h).2.1⟩) (Go.Proofs.YtkjoohnndobjeaaGreatDoor.txt20 h).1
theorem ls_eqn {q : EqP} (h : q.ok = true) : LexS q.ft (eqTk q) := by
 unfold EqP.ok at h
 rw [Bool.and_eq_true] at h
 obtain ⟨n1, n2, n3⟩ := namek h.1
 have ht := lk_semi (okT h.2)
 have hs : LexS ([39, 32, 61, 32] : List UInt8) [(3, [39]), (3, [61])] := (ls_sym (c := 39) (by decide)).s ((ls_blank (c := 32) (by decide)).s ((ls_sym (c := 61) (by decide)).s (ls_blank (c := 32) (by decide))))
 have h1 := (ls_blank (c := 9) (by decide)).s (((lk_word n1 n2).s (norun_cons (by decide)) (by simp) hs).s ht)
 unfold EqP.ft eqTk
 simpa [List.append_assoc] using h1
theorem lk_res {q : EqP} (h : q.ok = true) : LexK q.rt (rsTk q) := by
 unfold EqP.ok at h
 rw [Bool.and_eq_true] at h
 obtain ⟨n1, n2, n3⟩ := namek h.1
 have hs : LexS ([61, 32] : List UInt8) [(3, [61])] := (ls_sym (c := 61) (by decide)).s (ls_blank (c := 32) (by decide))
 have h1 := (ls_word n1 n2).sk (hs.sk (okT h.2))
 unfold EqP.rt rsTk
 simpa [List.append_assoc] using h1
theorem lk_more : ∀ (l : List EqP), l.all EqP.ok = true → LexK (l.flatMap (fun y => [44, 32] ++ y.rt)) (l.flatMap (fun y => (3, [44]) :: rsTk y)) ∧ NoRun (l.flatMap (fun y => [44, 32] ++ y.rt)) := by
 intro l
 induction l with
 | nil => exact fun _ => ⟨(ls_nl (fun c hc => by cases hc)).k, norun_nil⟩
 | cons x l ih =>
  intro h
  rw [List.all_cons, Bool.and_eq_true] at h
  obtain ⟨i1, i2⟩ := ih h.2
  have hs : LexS ([44, 32] : List UInt8) [(3, [44])] := (ls_sym (c := 44) (by decide)).s (ls_blank (c := 32) (by decide))
  have h1 := (hs.sk (lk_res h.1)).k i2 i1
  rw [List.flatMap_cons, List.flatMap_cons]
  exact ⟨h1, by rw [List.append_assoc]; exact norun_cons (by decide)⟩
theorem lk_rl {l : List EqP} (h : l.all EqP.ok = true) : LexK (rlT l) (rlTk l) ∧ NoRun (rlT l) := by
 cases l with
 | nil => exact ⟨(ls_nl (fun c hc => by cases hc)).k, norun_nil⟩
 | cons x l =>
  rw [List.all_cons, Bool.and_eq_true] at h
  obtain ⟨i1, i2⟩ := lk_more l h.2
  have h1 := ((ls_blank (c := 32) (by decide)).s (ls_word (t := kWith) (by decide) (by decide))).sk ((lk_res h.1).k i2 i1)
  constructor
  ·
   unfold rlT rlTk
   simpa [List.append_assoc, kWith] using h1
  exact norun_cons (by decide)
theorem ls_dir (d : Int) : LexS ((if d = 2 then [32, 102, 97, 108, 108, 115, 32, 103, 111, 116, 111, 32] else [32, 114, 105, 115, 101, 115, 32, 103, 111, 116, 111, 32] : List UInt8)) [(1, dirW d), (1, kGoto)] := by
 have hb := ls_blank (c := 32) (by decide)
 have hg := ls_word (t := kGoto) (by decide) (by decide)
 unfold dirW
 by_cases e : d = 2
 ·
  rw [if_pos e, if_pos e]
  exact hb.s ((ls_word (t := kFalls) (by decide) (by decide)).s hg)
 rw [if_neg e, if_neg e]
 exact hb.s ((ls_word (t := kRises) (by decide) (by decide)).s hg)
theorem ls_edge {x : EdP} (h : x.ok = true) : LexS x.txt (edTk x) := by
 unfold EdP.ok at h
 simp only [Bool.and_eq_true] at h
 obtain ⟨n1, n2, n3⟩ := namek h.2.2.1
 obtain ⟨r1, r2⟩ := lk_rl h.2.2.2.2
 have hn := ((lk_word n1 n2).k r2 r1)
 have hd : NoRun x.wd ∧ x.wd ≠ [] := by
  unfold EdP.wd
  split
  ·
   exact ⟨norun_cons (by decide), by simp⟩
  exact ⟨norun_cons (by decide), by simp⟩
 have h1 := ((ls_blank (c := 9) (by decide)).s (ls_word (t := kWhen) (by decide) (by decide))).s (((okT h.1).s hd.1 hd.2 (ls_dir x.dir)).s (lk_semi hn))
 unfold EdP.txt edTk
 simpa [List.append_assoc, kWhen] using h1
theorem ls_mode {m : MdP} (h : m.ok = true) : LexS m.txt (mdTk m) := by
 unfold MdP.ok at h
 simp only [Bool.and_eq_true] at h
 obtain ⟨n1, n2, n3⟩ := namek h.1
 have hf := ls_flat EqP.ft eqTk m.fl (fun q hq => ls_eqn (List.all_eq_true.1 h.2.2.2.1 q hq))
 have he := ls_flat EdP.txt edTk m.ed (fun x hx => ls_edge (List.all_eq_true.1 h.2.2.2.2 x hx))
 have hb : LexS ([32, 123, 10] : List UInt8) [(3, [123])] := (ls_blank (c := 32) (by decide)).s ((ls_sym (c := 123) (by decide)).s (ls_blank (c := 10) (by decide)))
 have hc : LexS ([125, 10] : List UInt8) [(3, [125])] := (ls_sym (c := 125) (by decide)).s (ls_blank (c := 10) (by decide))
 have h1 := ((ls_word (t := kMode) (by decide) (by decide)).s ((lk_word n1 n2).s (norun_cons (by decide)) (by simp) hb)).s (hf.s (he.s hc))
 unfold MdP.txt MdP.hd mdTk
 simpa [List.append_assoc, kMode] using h1
theorem ls_prob {p : PbP} (h : p.ok = true) : LexS p.txt (pbTk p) := by
 unfold PbP.ok at h
 simp only [Bool.and_eq_true] at h
 have h1 := ls_flat (dcW kState) (dcTk kState) p.st (fun q hq => ls_decl (by decide) (List.all_eq_true.1 h.2.1 q hq))
 have h2 := ls_flat (dcW kParam) (dcTk kParam) p.pa (fun q hq => ls_decl (by decide) (List.all_eq_true.1 h.2.2.1 q hq))
 have h3 := ls_flat MdP.txt mdTk p.ms (fun q hq => ls_mode (List.all_eq_true.1 h.2.2.2.1 q hq))
 have h4 := lk_semi (lk_num (vB_valid h.2.2.2.2))
 have h5 := h1.s (h2.s (h3.s ((ls_word (t := kTime) (by decide) (by decide)).s h4)))
 unfold PbP.txt pbTk
 simpa [List.append_assoc, kTime] using h5
end Go.Fl.Pa
namespace Go.Fl.Pa
open Go.Lib Go.Fl.Lx Go.Fl.Fm Go.Fl.Rt
open Go.Proofs.YtkjoohnndobjeaaGreatDoor (nameP okE kwP range_len)
section
variable {ts : List Tok}
theorem lapp {α : Type} (a b : List α) : (a ++ b).length = a.length + b.length := List.length_append
theorem isS_kw {k : Nat} {s t : List UInt8} (h : (tk ts k).kind = 1 ∧ (tk ts k).text = t) : isS true ts k s = (t == s) := by
 unfold isS
 rw [h.1, h.2]
 simp
theorem isS_kwsym {k : Nat} {s t : List UInt8} (h : (tk ts k).kind = 3 ∧ (tk ts k).text = t) : isS true ts k s = (t == s) := by
 unfold isS
 rw [h.1, h.2]
 simp
theorem want_sym {k : Nat} {s : List UInt8} (h : (tk ts k).kind = 3 ∧ (tk ts k).text = s) : wantP ts false s k = .ok () (k + 1) := by
 unfold wantP
 rw [isS_sym h, if_pos (by simp)]
theorem want_kw {k : Nat} {s : List UInt8} (h : (tk ts k).kind = 1 ∧ (tk ts k).text = s) : wantP ts true s k = .ok () (k + 1) := by
 unfold wantP
 rw [isS_kw h, if_pos (by simp)]
theorem nmR_ok {k : Nat} {s : List UInt8} (h : (tk ts k).kind = 1 ∧ (tk ts k).text = s) (hn : nameP s = true) : nmR nameP ts k = .ok s (k + 1) := by
 unfold nmR
 rw [if_pos ⟨h.1, by rw [h.2]; exact hn⟩, h.2]
/-- A number that no number follows is read as a value. -/
theorem val_read {n d : Int} {k : Nat} (h : Mt ts k (numT n d)) (hv : valid n d) (hx : isS false ts (k + (numT n d).length) [47] = false) : valP ts k = .ok (n, d) (k + (numT n d).length) := by
 unfold valP
 by_cases hd : d = 1
 ·
  subst hd
  obtain ⟨h1, h2, h3, h4⟩ := num_first h
  have hlen := num_len n 1
  rw [if_pos rfl] at hlen
  have hf : fracP ts k = false := by
   unfold fracP
   rw [show k + signP ts k + 1 = k + (numT n 1).length by rw [hlen, h1]; omega, hx]
   simp
  rw [hf, if_neg (by decide), num_head h ⟨hv.2.2.1, hv.2.2.2.1⟩]
  exact ok_eq rfl (by rw [hlen, h1]; omega)
 obtain ⟨q1, q2⟩ := quot_read h hv hd
 rw [q1, if_pos rfl, q2]
theorem sym_no {k : Nat} {s t : List UInt8} (h : (tk ts k).kind = 3 ∧ (tk ts k).text = t) (hne : (t == s) = false) : isS false ts k s = false := by rw [isS_sym h, hne]
theorem range_read {a b c d : Int} {k : Nat} (h : Mt ts k (rgTk a b c d)) (hv : (vB a b && vB c d) = true) (hx : isS false ts (k + (rgTk a b c d).length) [47] = false) :
 spanP ts k = .ok ⟨(a, b), (c, d)⟩ (k + (rgTk a b c d).length) := by
 rw [Bool.and_eq_true] at hv
 unfold rgTk at h hx ⊢
 unfold spanP
 by_cases e : a = c ∧ b = d
 ·
  rw [if_pos e] at h hx ⊢
  obtain ⟨rfl, rfl⟩ := e
  have h91 : isS false ts k [91] = false := by
   obtain ⟨h1, h2, h3, h4⟩ := num_first h
   by_cases hn : a < 0
   ·
    unfold numT at h
    rw [if_pos hn] at h
    exact sym_no h.1 (by decide)
   rw [if_neg hn] at h1
   rw [h1] at h3
   exact isS_no3 (by rw [Nat.add_zero] at h3; omega)
  rw [h91, if_neg (by decide), val_read h (vB_valid hv.1) hx]
  rfl
 rw [if_neg e] at h hx ⊢
 obtain ⟨t1, t2⟩ := h
 obtain ⟨t2, t3⟩ := mt_app.1 t2
 obtain ⟨t3, t4⟩ := t3
 obtain ⟨t4, t5⟩ := mt_app.1 t4
 have t5 := t5.1
 rw [isS_sym t1, if_pos (by decide), val_read t2 (vB_valid hv.1) (sym_no t3 (by decide))]
 simp only [PR.bind]
 rw [want_sym t3]
 simp only
 rw [val_read t4 (vB_valid hv.2) (sym_no t5 (by decide))]
 simp only
 rw [want_sym t5]
 simp only
 refine ok_eq rfl ?_
 simp only [List.length_cons, List.length_append, List.length_nil]
 omega
theorem decl_read {w : List UInt8} {d : DcP} {k : Nat} (h : Mt ts k (dcTk w d)) (hd : d.ok = true) : declP nameP ts (k + 1) = .ok d (k + (dcTk w d).length) := by
 unfold DcP.ok at hd
 rw [Bool.and_eq_true] at hd
 unfold dcTk at h ⊢
 obtain ⟨t1, t2, t3, t4⟩ := h
 obtain ⟨t4, t5⟩ := mt_app.1 t4
 have t5 := t5.1
 unfold declP
 rw [nmR_ok t2 hd.1]
 simp only [PR.bind]
 rw [want_kw t3]
 simp only
 rw [range_read t4 hd.2 (sym_no t5 (by decide))]
 simp only
 rw [want_sym t5]
 refine ok_eq rfl ?_
 simp only [List.length_cons, List.length_append, List.length_nil]
 omega
/-- What ends a sum: no operator. -/
def Stop (ts : List Tok) (k : Nat) : Prop := isS false ts k [94] = false ∧ isS false ts k [42] = false ∧ isS false ts k [47] = false ∧ isS false ts k [43] = false ∧ isS false ts k [45] = false
theorem stop_sym {k : Nat} {t : List UInt8} (h : (tk ts k).kind = 3 ∧ (tk ts k).text = t) (h1 : (t == [94] || t == [42] || t == [47] || t == [43] || t == [45]) = false) : Stop ts k := by
 simp only [Bool.or_eq_false_iff] at h1
 exact ⟨sym_no h h1.1.1.1.1, sym_no h h1.1.1.1.2, sym_no h h1.1.1.2, sym_no h h1.1.2, sym_no h h1.2⟩
theorem stop_word {k : Nat} (h : (tk ts k).kind ≠ 3) : Stop ts k := ⟨isS_no3 h, isS_no3 h, isS_no3 h, isS_no3 h, isS_no3 h⟩
theorem expr_read {T : TE} {k : Nat} (h : Mt ts k (tkn 20 T)) (ho : okE T = true) (hs : Stop ts (k + (tkn 20 T).length)) : sumE nameP ts k = .ok T (k + (tkn 20 T).length) := by
 obtain ⟨s1, s2, s3, s4, s5⟩ := hs
 exact ev_sum ((rds_all nmP_fn 20).Su T k 0 _ (Go.Proofs.YtkjoohnndobjeaaGreatDoor.txt20 ho).1 (by omega) h s1 s2 s3 (chS_end s4 s5)) (by omega)
theorem eqn_read {q : EqP} {k : Nat} (h : Mt ts k (eqTk q)) (hq : q.ok = true) : eqnP nameP ts k = .ok q (k + (eqTk q).length) := by
 unfold EqP.ok at hq
 rw [Bool.and_eq_true] at hq
 unfold eqTk at h ⊢
 obtain ⟨t1, t2, t3, t4⟩ := h
 obtain ⟨t4, t5⟩ := mt_app.1 t4
 have t5 := t5.1
 unfold eqnP
 rw [nmR_ok t1 hq.1]
 simp only [PR.bind]
 rw [want_sym t2]
 simp only
 rw [want_sym t3]
 simp only
 rw [expr_read t4 hq.2 (stop_sym t5 (by decide))]
 simp only
 rw [want_sym t5]
 refine ok_eq rfl ?_
 simp only [List.length_cons, List.length_append, List.length_nil]
 omega
theorem res_read : ∀ (l : List EqP) (x : EqP) (f k : Nat) (acc : List EqP), Mt ts k (rsTk x ++ l.flatMap (fun y => (3, [44]) :: rsTk y)) → (x :: l).all EqP.ok = true → l.length < f →
 (∀ j, j = k + (rsTk x ++ l.flatMap (fun y => (3, [44]) :: rsTk y)).length → isS false ts j [44] = false ∧ Stop ts j) →
 resP nameP ts f k acc = .ok (acc ++ x :: l) (k + (rsTk x ++ l.flatMap (fun y => (3, [44]) :: rsTk y)).length) := by
 intro l
 induction l with
 | nil =>
  intro x f k acc h ho hf hend
  cases f with
  | zero => exact absurd hf (by simp)
  | succ f =>
   rw [List.flatMap_nil, List.append_nil] at h hend ⊢; rw [List.all_cons, Bool.and_eq_true] at ho; have a := ho.1
   unfold EqP.ok at a
   rw [Bool.and_eq_true] at a
   unfold rsTk at h hend ⊢
   obtain ⟨d, g, i⟩ := h; have b := hend _ rfl; simp only [List.length_cons] at b; have c : k + ((tkn 20 x.T).length + 1 + 1) = k + 1 + 1 + (tkn 20 x.T).length := (by omega); rw [c] at b; rw [resP, nmR_ok d a.1]; simp only [PR.bind]; rw [want_sym g]
   simp only
   rw [expr_read i a.2 b.2]
   simp only
   rw [b.1, if_neg (by decide)]
   refine ok_eq rfl ?_
   simp only [List.length_cons]
   omega
 | cons y l ih =>
  intro x f k acc h ho hf hend
  cases f with
  | zero => exact absurd hf (by simp)
  | succ f =>
   rw [List.all_cons, Bool.and_eq_true] at ho; have a := ho.1
   unfold EqP.ok at a
   rw [Bool.and_eq_true] at a; rw [List.flatMap_cons] at h hend ⊢; obtain ⟨n, m⟩ := mt_app.1 h; have t := m; rw [List.cons_append] at m; obtain ⟨o, q⟩ := m; have r : (rsTk x).length = (tkn 20 x.T).length + 1 + 1 := rfl
   unfold rsTk at n
   obtain ⟨d, g, i⟩ := n; have c : k + 1 + 1 + (tkn 20 x.T).length = k + (rsTk x).length := (by rw [r]; omega); rw [resP, nmR_ok d a.1]; simp only [PR.bind]; rw [want_sym g]
   simp only
   rw [expr_read i a.2 (by rw [c]; exact stop_sym o (by decide))]
   simp only
   rw [c, isS_sym o, if_pos (by decide)]
   have p : (rsTk x ++ ((3, [44]) :: rsTk y ++ l.flatMap (fun y => (3, [44]) :: rsTk y))).length = (rsTk x).length + 1 + (rsTk y ++ l.flatMap (fun y => (3, [44]) :: rsTk y)).length := by
    simp only [List.length_cons, List.length_append]; omega
   have := ih y f (k + (rsTk x).length + 1) (acc ++ [⟨x.s, x.T⟩]) q ho.2 (by simp at hf; omega) (fun j hj => hend j (by rw [hj, p]; omega))
   rw [this]
   refine ok_eq ?_ (by rw [p]; omega)
   simp
theorem with_read {l : List EqP} {k : Nat} (h : Mt ts k (rlTk l ++ [(3, [59])])) (ho : l.all EqP.ok = true) (hk : l.length ≤ ts.length) : withP nameP ts k = .ok l (k + (rlTk l).length) := by
 unfold withP
 obtain ⟨h1, h2⟩ := mt_app.1 h
 have h2 := h2.1
 cases l with
 | nil =>
  have h9 : (tk ts k).kind = 3 ∧ (tk ts k).text = [59] := h2
  rw [isS_kwsym h9, if_neg (by decide)]
  rfl
 | cons x l =>
  unfold rlTk at h1 h2 ⊢
  obtain ⟨t1, t2⟩ := h1
  rw [isS_kw t1, if_pos (by decide)]
  have hl : k + ((1, kWith) :: (rsTk x ++ l.flatMap (fun y => (3, [44]) :: rsTk y))).length = k + 1 + (rsTk x ++ l.flatMap (fun y => (3, [44]) :: rsTk y)).length := by rw [List.length_cons]; omega
  rw [hl] at h2 ⊢
  have := res_read l x (ts.length + 1) (k + 1) [] t2 ho (by simp at hk; omega) (fun j hj => by rw [hj]; exact ⟨sym_no h2 (by decide), stop_sym h2 (by decide)⟩)
  rw [this]
  rfl
theorem edge_read {x : EdP} {k : Nat} (h : Mt ts k (edTk x)) (ho : x.ok = true) (hk : x.rs.length ≤ ts.length) : edgeP nameP ts (k + 1) = .ok x (k + (edTk x).length) := by
 unfold EdP.ok at ho
 simp only [Bool.and_eq_true, Bool.or_eq_true, beq_iff_eq] at ho
 obtain ⟨o1, o2, o3, o4, o5⟩ := ho
 unfold edTk at h ⊢
 obtain ⟨t1, t2⟩ := h
 obtain ⟨t2, t3⟩ := mt_app.1 t2
 obtain ⟨t3, t4, t5, t6⟩ := t3
 have t7 := (mt_app.1 t6).2.1
 unfold edgeP
 have t3k : (tk ts (k + 1 + (tkn 20 x.T).length)).kind = 1 := t3.1
 rw [expr_read t2 o1 (stop_word (by omega))]
 simp only [PR.bind]
 have hd : dirP ts (k + 1 + (tkn 20 x.T).length) = .ok x.dir (k + 1 + (tkn 20 x.T).length + 1) := by
  unfold dirP
  unfold dirW at t3
  rcases o2 with e | e
  ·
   rw [e, if_neg (by decide)] at t3
   rw [isS_kw t3, if_pos (by decide), e]
  rw [e, if_pos rfl] at t3
  rw [isS_kw t3, if_neg (by decide), isS_kw t3, if_pos (by decide), e]
 rw [hd]
 simp only
 rw [want_kw t4]
 simp only
 rw [nmR_ok t5 o3]
 simp only
 rw [with_read t6 o5 hk]
 simp only
 rw [want_sym t7]
 refine ok_eq rfl ?_
 simp only [List.length_cons, List.length_append, List.length_nil]
 omega
theorem body_read : ∀ (l : List EqP) (m : List EdP) (f k : Nat) (fl : List EqP) (ed : List EdP), Mt ts k (l.flatMap eqTk ++ (m.flatMap edTk ++ [(3, [125])])) → l.all EqP.ok = true → m.all EdP.ok = true → (∀ x ∈ m, x.rs.length ≤ ts.length) → l.length + m.length < f →
 bodyP nameP ts f k fl ed = .ok (fl ++ l, ed ++ m) (k + (l.flatMap eqTk ++ (m.flatMap edTk ++ [(3, [125])])).length) := by
 intro l
 induction l with
 | nil =>
  intro m
  induction m with
  | nil =>
   intro f k fl ed h h1 h2 h3 hf
   cases f with
   | zero => exact absurd hf (by simp)
   | succ f =>
    rw [List.flatMap_nil, List.flatMap_nil, List.nil_append, List.nil_append] at h ⊢; rw [bodyP, isS_sym h.1, if_pos (by decide)]
    exact ok_eq (by simp) (by simp)
  | cons x m ih =>
   intro f k fl ed h h1 h2 h3 hf
   cases f with
   | zero => exact absurd hf (by simp)
   | succ f =>
    rw [List.flatMap_nil, List.nil_append, List.flatMap_cons, List.append_assoc] at h ⊢; obtain ⟨a, b⟩ := mt_app.1 h; rw [List.all_cons, Bool.and_eq_true] at h2; have c : (tk ts k).kind = 1 ∧ (tk ts k).text = kWhen := (by unfold edTk at a; exact a.1); rw [bodyP, isS_no3 (by omega), if_neg (by decide), isS_kw c, if_pos (by decide), edge_read a h2.1 (h3 x (by simp))]; simp only [PR.bind]
    have := ih f (k + (edTk x).length) fl (ed ++ [x]) (by rw [List.flatMap_nil, List.nil_append]; exact b) h1 h2.2 (fun y hy => h3 y (by simp [hy])) (by simp at hf ⊢; omega)
    rw [List.flatMap_nil, List.nil_append] at this; rw [this]
    refine ok_eq (by simp) ?_
    rw [lapp (edTk x) _]
    omega
 | cons q l ih =>
  intro m f k fl ed h h1 h2 h3 hf
  cases f with
  | zero => exact absurd hf (by simp)
  | succ f =>
   rw [List.flatMap_cons, List.append_assoc] at h ⊢; obtain ⟨a, b⟩ := mt_app.1 h; rw [List.all_cons, Bool.and_eq_true] at h1; have c : (tk ts k).kind = 1 ∧ (tk ts k).text = q.s := (by unfold eqTk at a; exact a.1); have d := h1.1
   unfold EqP.ok at d
   rw [Bool.and_eq_true] at d
   have g : (q.s == kWhen) = false := by
    rw [beq_eq_false_iff_ne]
    intro e
    have := d.1
    rw [e] at this
    exact absurd this (by decide)
   rw [bodyP, isS_no3 (by omega), if_neg (by decide), isS_kw c, g, if_neg (by decide), eqn_read a h1.1]; simp only [PR.bind]
   have := ih m f (k + (eqTk q).length) (fl ++ [q]) ed b h1.2 h2 h3 (by simp at hf; omega)
   rw [this]
   refine ok_eq (by simp) ?_
   rw [lapp (eqTk q) _]
   omega
theorem mode_read {m : MdP} {k : Nat} (h : Mt ts k (mdTk m)) (ho : m.ok = true) (hk : 4 ≤ ts.length) (h9 : 9 ≤ ts.length) : modeP nameP ts (k + 1) = .ok m (k + (mdTk m).length) := by
 unfold MdP.ok at ho
 simp only [Bool.and_eq_true, decide_eq_true_eq] at ho
 obtain ⟨o1, o2, o3, o4, o5⟩ := ho
 unfold mdTk at h ⊢
 obtain ⟨t1, t2, t3, t4⟩ := h
 unfold modeP
 rw [nmR_ok t2 o1]
 simp only [PR.bind]
 rw [want_sym t3]
 simp only
 rw [body_read m.fl m.ed (ts.length + 1) (k + 1 + 1 + 1) [] [] t4 o4 o5 (fun x hx => by
  have := List.all_eq_true.1 o5 x hx
  unfold EdP.ok at this
  simp only [Bool.and_eq_true, decide_eq_true_eq] at this
  omega) (by omega)]
 simp only
 refine ok_eq rfl ?_
 simp only [List.length_cons]
 omega
theorem decls_read : ∀ (l m : List DcP) (f k : Nat) (st pa : List DcP), Mt ts k (l.flatMap (dcTk kState) ++ m.flatMap (dcTk kParam)) → l.all DcP.ok = true → m.all DcP.ok = true → l.length + m.length < f →
 (∀ j, j = k + (l.flatMap (dcTk kState) ++ m.flatMap (dcTk kParam)).length → (tk ts j).kind = 1 ∧ (tk ts j).text = kMode) →
 declsP nameP ts f k st pa = .ok (st ++ l, pa ++ m) (k + (l.flatMap (dcTk kState) ++ m.flatMap (dcTk kParam)).length) := by
 intro l
 induction l with
 | nil =>
  intro m
  induction m with
  | nil =>
   intro f k st pa h h1 h2 hf he
   cases f with
   | zero => exact absurd hf (by simp)
   | succ f =>
    have d := he k (by simp); rw [declsP, isS_kw d, if_neg (by decide), isS_kw d, if_neg (by decide)]
    exact ok_eq (by simp) (by simp)
  | cons x m ih =>
   intro f k st pa h h1 h2 hf he
   cases f with
   | zero => exact absurd hf (by simp)
   | succ f =>
    rw [List.flatMap_nil, List.nil_append, List.flatMap_cons] at h he ⊢; obtain ⟨a, c⟩ := mt_app.1 h; rw [List.all_cons, Bool.and_eq_true] at h2; have b : (tk ts k).kind = 1 ∧ (tk ts k).text = kParam := (by unfold dcTk at a; exact a.1); rw [declsP, isS_kw b, if_neg (by decide), isS_kw b, if_pos (by decide), decl_read a h2.1]; simp only [PR.bind]
    have := ih f (k + (dcTk kParam x).length) st (pa ++ [x]) (by rw [List.flatMap_nil, List.nil_append]; exact c) h1 h2.2 (by simp at hf ⊢; omega) (fun j hj => he j (by rw [hj, List.flatMap_nil, List.nil_append, List.length_append]; omega))
    rw [List.flatMap_nil, List.nil_append] at this; rw [this]
    exact ok_eq (by simp) (by rw [List.length_append]; omega)
 | cons x l ih =>
  intro m f k st pa h h1 h2 hf he
  cases f with
  | zero => exact absurd hf (by simp)
  | succ f =>
   rw [List.flatMap_cons, List.append_assoc] at h he ⊢; obtain ⟨a, c⟩ := mt_app.1 h; rw [List.all_cons, Bool.and_eq_true] at h1; have b : (tk ts k).kind = 1 ∧ (tk ts k).text = kState := (by unfold dcTk at a; exact a.1); rw [declsP, isS_kw b, if_pos (by decide), decl_read a h1.1]; simp only [PR.bind]
   have := ih m f (k + (dcTk kState x).length) (st ++ [x]) pa c h1.2 h2 (by simp at hf; omega) (fun j hj => he j (by rw [hj, lapp (dcTk kState x) _]; omega))
   rw [this]
   exact ok_eq (by simp) (by rw [lapp (dcTk kState x) _]; omega)
theorem modes_read : ∀ (l : List MdP) (f k : Nat) (ms : List MdP), Mt ts k (l.flatMap mdTk) → l.all MdP.ok = true → l.length < f → 9 ≤ ts.length → (∀ j, j = k + (l.flatMap mdTk).length → (tk ts j).kind = 1 ∧ (tk ts j).text = kTime) →
 modesP nameP ts f k ms = .ok (ms ++ l) (k + (l.flatMap mdTk).length) := by
 intro l
 induction l with
 | nil =>
  intro f k ms h h1 hf h9 he
  cases f with
  | zero => exact absurd hf (by simp)
  | succ f =>
   have hm := he k (by simp)
   rw [modesP, isS_kw hm, if_neg (by decide)]
   exact ok_eq (by simp) (by simp)
 | cons x l ih =>
  intro f k ms h h1 hf h9 he
  cases f with
  | zero => exact absurd hf (by simp)
  | succ f =>
   rw [List.flatMap_cons] at h he ⊢
   obtain ⟨u1, u2⟩ := mt_app.1 h
   rw [List.all_cons, Bool.and_eq_true] at h1
   have hw : (tk ts k).kind = 1 ∧ (tk ts k).text = kMode := by unfold mdTk at u1; exact u1.1
   rw [modesP, isS_kw hw, if_pos (by decide), mode_read u1 h1.1 (by omega) h9]
   simp only [PR.bind]
   have := ih f (k + (mdTk x).length) (ms ++ [x]) u2 h1.2 (by simp at hf; omega) h9 (fun j hj => he j (by rw [hj, List.length_append]; omega))
   rw [this]
   exact ok_eq (by simp) (by rw [List.length_append]; omega)
theorem fm_len {Z : Type} (f : Z → List (Nat × List UInt8)) (n : Nat) (h : ∀ z, n ≤ (f z).length) (l : List Z) : n * l.length ≤ (l.flatMap f).length := by
 induction l with
 | nil => simp
 | cons z l ih =>
  rw [List.flatMap_cons, List.length_append, List.length_cons, Nat.mul_succ]
  have := h z
  omega
/-- A problem's tokens are read as the problem. -/
theorem prob_read {p : PbP} (h : Mt ts 0 (pbTk p)) (hl : ts.length = (pbTk p).length) (ho : p.ok = true) : probP nameP ts 0 = .ok p ts.length := by
 unfold PbP.ok at ho
 simp only [Bool.and_eq_true, decide_eq_true_eq] at ho
 obtain ⟨⟨⟨⟨⟨v, x⟩, y⟩, i⟩, z⟩, k, n, o, q⟩ := ho
 unfold pbTk at h hl
 have r : (p.st.flatMap (dcTk kState) ++ (p.pa.flatMap (dcTk kParam) ++ (p.ms.flatMap mdTk ++ ((1, kTime) :: (numT p.tm.1 p.tm.2 ++ [(3, [59])]))))).length = (p.st.flatMap (dcTk kState) ++ p.pa.flatMap (dcTk kParam)).length + (p.ms.flatMap mdTk).length + 1 + (numT p.tm.1 p.tm.2).length + 1 := by
  simp only [List.length_append, List.length_cons, List.length_nil]; omega
 rw [r] at hl
 rw [← List.append_assoc] at h
 obtain ⟨s, a⟩ := mt_app.1 h
 obtain ⟨a, b⟩ := mt_app.1 a
 obtain ⟨b, f⟩ := b
 obtain ⟨f, c⟩ := mt_app.1 f
 have c := c.1
 have A : 4 * p.st.length ≤ (p.st.flatMap (dcTk kState)).length := fm_len _ 4 (fun d => by unfold dcTk; simp only [List.length_cons, List.length_append, List.length_nil]; omega) _
 have B : 4 * p.pa.length ≤ (p.pa.flatMap (dcTk kParam)).length := fm_len _ 4 (fun d => by unfold dcTk; simp only [List.length_cons, List.length_append, List.length_nil]; omega) _
 have C : 4 * p.ms.length ≤ (p.ms.flatMap mdTk).length := fm_len _ 4 (fun d => by unfold mdTk; simp only [List.length_cons, List.length_append, List.length_nil]; omega) _
 have t := hl
 rw [List.length_append] at t
 have u : ∃ m l, p.ms = m :: l := by
  cases g : p.ms with
  | nil => rw [g] at i; simp at i
  | cons m l => exact ⟨m, l, rfl⟩
 unfold probP
 rw [decls_read p.st p.pa (ts.length + 1) 0 [] [] s k n (by omega) (fun j hj => by
  obtain ⟨m, l, g⟩ := u; rw [g, List.flatMap_cons] at a
  have := (mt_app.1 a).1
  unfold mdTk at this
  rw [hj]
  exact this.1)]
 simp only [PR.bind]
 rw [modes_read p.ms (ts.length + 1) _ [] a o (by omega) (by omega) (fun j hj => by rw [hj]; exact b)]
 simp only
 rw [want_kw b]
 simp only
 rw [val_read f (vB_valid q) (sym_no c (by decide))]
 simp only
 rw [want_sym c]
 refine ok_eq rfl ?_
 rw [hl]
 omega
theorem prob_text {p : PbP} (ho : p.ok = true) (hl : p.txt.length ≤ 65536) : ∃ ts, lexRes p.txt = .ok ts ∧ probP nameP ts 0 = .ok p ts.length := by
 obtain ⟨ts, h1, h2, h3⟩ := (ls_prob ho).k.res hl
 exact ⟨ts, h1, prob_read h2 h3 ho⟩
end
end Go.Fl.Pa
