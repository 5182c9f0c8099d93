/-
  The walk of lex.Split.
  A slice that reads as a list of cells. Of no program.
  Walks: comparing and converting lists of tokens.
  The plain model of the lexer: computing it.
  Walks: the chapter's example ('awake').
  Walks: reserved words and names; LexWords. (Printed by genkw.py.)
  append onto a row of the call's own, from a slice that reads as a list. Of no program.
  Expressions as they lie in memory.
-/
import Derived.Test.YtkjoohnndobjeaaGreatDoorQB
import Derived.Deep.RegionHeld3
import Derived.Deep.AppendLies
import Derived.Deep.LoopGhost
import Derived.Deep.DrawnRows
import Derived.Test.YtkjoohnndobjeaaGreatDoorQA
import Derived.Maps.AppendAt
set_option linter.unusedVariables false
namespace Go.Proofs.YtkjoohnndobjeaaGreatDoor
open Go.RowKit Go.Fl Go.Fl.Lx

def tokCells (t : Tok) : List Value := [.int .i64 t.kind, .string ⟨t.text.toArray⟩, .int .i64 t.line, .int .i64 t.col]
def toksCells (l : List Tok) : List Value := l.flatMap tokCells

/-- What holds at the head of every round of Split's loop; k bounds the rounds to come. -/
def SplitRel (w : World) (s : ByteArray) (k : Nat) (ov : Value) (wr : World) : Prop :=
  ∃ (rest : ByteArray) (ln co : Nat) (toks : List Tok), k = rest.size ∧ toks.length + rest.size ≤ s.size ∧ ln + rest.size ≤ 70000 ∧ co + rest.size ≤ 70000 ∧
    Hid (split s.data.toList (1, 1) = pre toks (split rest.data.toList (ln, co))) ∧
    wr.ownsRow (w.heap.size + 2) 58 4 ov toks.length (toksCells toks) ∧
    Hid (Blk wr w.heap.size 40 #[.int .i64 0, .int .i64 0]) ∧ Hid (Blk wr (w.heap.size + 1) 114 (scan rest ln co)) ∧ Below w.heap.size w wr ∧ w.heap.size + 2 ≤ wr.heap.size

theorem Tryz.infoTok : (Tryz.prog.info? 58).map (fun i => (i.zero, i.size, i.bytes)) = some (some (.agg #[.int .i64 0, .string ⟨#[]⟩, .int .i64 0, .int .i64 0]), 4, 40) := by kernel_rfl

/-- What Split leaves. -/
def SplitPost (l : List UInt8) (w : World) (e : Ending) (w' : World) : Prop :=
  Below w.heap.size w w' ∧
  match lexRes l with
  | .error (ln, co, er) => e = .returned (.tuple #[.slice none 0 0, .agg #[.int .i64 ln, .int .i64 co], .int .i64 er])
  | .ok toks => ∃ v, e = .returned (.tuple #[v, .agg #[.int .i64 0, .int .i64 0], .int .i64 0]) ∧ w'.ownsRow w.heap.size 58 4 v toks.length (toksCells toks)

theorem rest_cons (t : ByteArray) (h : 0 < t.size) : t.data.toList = t[0] :: t.data.toList.drop 1 := by
  have := drop_cons t 0 h
  simpa using this
theorem mk_of_data (t : ByteArray) (l : List UInt8) (h : t.data.toList = l) : t = ⟨l.toArray⟩ := by
  subst h; rfl

section
variable {w wr : World} {s rest t' : ByteArray} {ln co n : Nat} {toks : List Tok} {ov : Value}
theorem rel_skip (hlen : toks.length + rest.size ≤ s.size) (hln : ln + rest.size ≤ 70000) (hco : co + rest.size ≤ 70000)
    (HM : split s.data.toList (1, 1) = pre toks (split rest.data.toList (ln, co))) (HO : wr.ownsRow (w.heap.size + 2) 58 4 ov toks.length (toksCells toks))
    (HBp : Blk wr w.heap.size 40 #[.int .i64 0, .int .i64 0]) (HBs : Blk wr (w.heap.size + 1) 114 (scan rest ln co)) (HL : Below w.heap.size w wr) (hsz : w.heap.size + 2 ≤ wr.heap.size)
    (hn : 0 < n) (hnr : n ≤ rest.size) (ht : t'.data.toList = rest.data.toList.drop n)
    (hsp : split rest.data.toList (ln, co) = split (rest.data.toList.drop n) (adv (rest.data.toList.take n) (ln, co))) (o : Obj) :
    SplitRel w s t'.size ov (putB (wr.alloc o) (w.heap.size + 1) 114 (scan t' (adv (rest.data.toList.take n) (ln, co)).1 (adv (rest.data.toList.take n) (ln, co)).2)) ∧ t'.size < rest.size := by
  have hts : t'.size = rest.size - n := by rw [← length_data, ht]; simp
  have hg := adv_grow (rest.data.toList.take n) (ln, co)
  have htl : (rest.data.toList.take n).length = n := by simp; omega
  rw [htl] at hg
  refine ⟨⟨t', _, _, toks, rfl, by omega, by omega, by omega, ?_, own_putB (HO.alloc _) (by omega) _ _, (HBp.alloc _).far (by omega) _, (HBs.alloc _).put _, ?_, ?_⟩, by omega⟩
  · unfold Hid
    rw [HM, hsp, ht]
  · exact (HL.alloc (by omega) _).trans (putB_below _ _ _ _ (by omega))
  · rw [putB_size]; simp; omega
end

section
variable {w wr w1 w2 : World} {s rest t' : ByteArray} {ln co n : Nat} {toks : List Tok} {ov ov' : Value}
theorem rel_tok (hlen : toks.length + rest.size ≤ s.size) (hln : ln + rest.size ≤ 70000) (hco : co + rest.size ≤ 70000)
    (HM : split s.data.toList (1, 1) = pre toks (split rest.data.toList (ln, co))) (HO : wr.ownsRow (w.heap.size + 2) 58 4 ov toks.length (toksCells toks))
    (HBp : Blk wr w.heap.size 40 #[.int .i64 0, .int .i64 0]) (HBs : Blk wr (w.heap.size + 1) 114 (scan rest ln co)) (HL : Below w.heap.size w wr) (hsz : w.heap.size + 2 ≤ wr.heap.size)
    (hn : 0 < n) (hnr : n ≤ rest.size) (ht : t'.data.toList = rest.data.toList.drop n) (tk : Tok)
    (hsp : split rest.data.toList (ln, co) = pre [tk] (split (rest.data.toList.drop n) (adv (rest.data.toList.take n) (ln, co)))) (wa : World)
    (h1 : w1 = putB wa (w.heap.size + 1) 114 (scan t' (adv (rest.data.toList.take n) (ln, co)).1 (adv (rest.data.toList.take n) (ln, co)).2)) (wb : World)
    (hg : wb.grownBy w2 ov.ownBlock) (ho : w2.ownsRow (w.heap.size + 2) 58 4 ov' (toks.length + 1) (toksCells (toks ++ [tk]))) (hwa : wr.grownBy wa none) (hwb : w1.grownBy wb none) :
    SplitRel w s t'.size ov' w2 ∧ t'.size < rest.size := by
  have hts : t'.size = rest.size - n := by rw [← length_data, ht]; simp
  have hg' := adv_grow (rest.data.toList.take n) (ln, co)
  have htl : (rest.data.toList.take n).length = n := by simp; omega
  rw [htl] at hg'
  have hob : ∀ k, ov.ownBlock = some k → w.heap.size + 2 ≤ k := fun k hk => (HO.lt k hk).1
  have hs1 : w1.heap.size = wa.heap.size := by rw [h1, putB_size]
  have hs2 := hwa.size
  have hbp1 : Blk w1 w.heap.size 40 #[.int .i64 0, .int .i64 0] := by rw [h1]; exact (HBp.grown hwa (by simp)).far (by omega) _
  have hbs1 : Blk w1 (w.heap.size + 1) 114 (scan t' (adv (rest.data.toList.take n) (ln, co)).1 (adv (rest.data.toList.take n) (ln, co)).2) := by rw [h1]; exact (HBs.grown hwa (by simp)).put _
  have hl1 : Below w.heap.size w w1 := by rw [h1]; exact (HL.grown hwa (by omega) (by simp)).trans (putB_below _ _ _ _ (by omega))
  refine ⟨⟨t', _, _, toks ++ [tk], rfl, by simp; omega, by omega, by omega, ?_, by simpa using ho, (hbp1.grown hwb (by simp)).grown hg ?_, (hbs1.grown hwb (by simp)).grown hg ?_, ?_, ?_⟩, by omega⟩
  · unfold Hid
    rw [HM, hsp, ht, pre_pre]
  · intro h; have := hob _ h.symm; omega
  · intro h; have := hob _ h.symm; omega
  · have := hwb.size
    exact (hl1.grown hwb (by omega) (by simp)).grown hg (by omega) (fun k hk => by have := hob k hk; omega)
  · have := hg.size; have := hwb.size; omega
end

theorem post_ok (s : ByteArray) (w wr : World) (toks : List Tok) (ov : Value) (hr : lexRes s.data.toList = .ok toks) (hb : Below w.heap.size w wr)
    (ho : wr.ownsRow (w.heap.size + 2) 58 4 ov toks.length (toksCells toks)) : SplitPost s.data.toList w (.returned (.tuple #[ov, .agg #[.int .i64 0, .int .i64 0], .int .i64 0])) wr := by
  refine ⟨hb, ?_⟩
  rw [hr]
  refine ⟨ov, rfl, ho.1, ?_⟩
  rcases ho.2 with h | ⟨g, cap, cur, h1, h2, h3⟩
  · exact .inl h
  · exact .inr ⟨g, cap, cur, h1, by omega, h3⟩
theorem post_err (s : ByteArray) (w wr : World) (ln co er : Nat) (hr : lexRes s.data.toList = .error (ln, co, er)) (hb : Below w.heap.size w wr) :
    SplitPost s.data.toList w (.returned (.tuple #[.slice none 0 0, .agg #[.int .i64 ln, .int .i64 co], .int .i64 er])) wr := by
  refine ⟨hb, ?_⟩
  rw [hr]

set_option maxHeartbeats 1600000 in
set_option maxRecDepth 100000 in
theorem split_small (s : ByteArray) (w : World) (hs : s.size ≤ 65536) :
    Calls Tryz.prog 30 #[.string s] w (SplitPost s.data.toList w) := by
  have HR := Lib.hid (show lexRes s.data.toList = split s.data.toList (1, 1) by unfold lexRes; rw [if_neg (by rw [length_data]; omega)])
  have hd : decide ((65536 : Int) < s.size) = false := by simp; omega
  go_enter Tryz.func30, Tryz.ntmps30
  go_wp2_with fail
  go_step3
  go_wp2_with fail
  go_step3
  go_wp2_with fail
  clear hd
  go_loopg [6] s.size (fun k ov wr => SplitRel w s k ov wr)
  case atStart =>
    refine ⟨s, 1, 1, [], rfl, by simp, by omega, by omega, (pre_nil _).symm, World.ownsRow_nil _ _ _ _, ?_, ?_, ?_, by simp⟩
    · exact (Blk.new w _ _).alloc _
    · have := Blk.new (w.alloc (.cells #[.int .i64 0, .int .i64 0] 40)) 114 (scan s 1 1)
      have e : (w.alloc (.cells #[.int .i64 0, .int .i64 0] 40)).heap.size = w.heap.size + 1 := by simp
      rw [e] at this
      exact this
    · exact ((Below.refl _ _).alloc (Nat.le_refl _) _).alloc (by simp) _
  case round =>
    obtain ⟨rest, ln, co, toks, rfl, hlen, hln, hco, HM, hown, HBp, HBs, hbel, hsz⟩ := hrel
    have HO := Lib.hid hown
    have HL := Lib.hid hbel
    clear hown hbel
    have d0 : wr.cell? ⟨w.heap.size + 1, 0, none⟩ = some (.string rest) := HBs.out.cell 0
    have d1 : wr.cell? ⟨w.heap.size + 1, 1, none⟩ = some (.int .i64 ln) := HBs.out.cell 1
    have d2 : wr.cell? ⟨w.heap.size + 1, 2, none⟩ = some (.int .i64 co) := HBs.out.cell 2
    have p0 : wr.cell? ⟨w.heap.size, 0, none⟩ = some (.int .i64 0) := HBp.out.cell 0
    have p1 : wr.cell? ⟨w.heap.size, 1, none⟩ = some (.int .i64 0) := HBp.out.cell 1
    have fp0 : wr.frozen? ⟨w.heap.size, 0, none⟩ = false := HBp.out.frozen 0
    have fp1 : wr.frozen? ⟨w.heap.size, 1, none⟩ = false := HBp.out.frozen 1
    have d0a : ∀ o, (wr.alloc o).cell? ⟨w.heap.size + 1, 0, none⟩ = some (.string rest) := fun o => (HBs.out.alloc o).cell 0
    have d1a : ∀ o, (wr.alloc o).cell? ⟨w.heap.size + 1, 1, none⟩ = some (.int .i64 ln) := fun o => (HBs.out.alloc o).cell 1
    have d2a : ∀ o, (wr.alloc o).cell? ⟨w.heap.size + 1, 2, none⟩ = some (.int .i64 co) := fun o => (HBs.out.alloc o).cell 2
    by_cases hz : rest.size = 0
    · have HZ := Lib.hid (show rest.data.toList = [] from List.eq_nil_of_length_eq_zero (by simpa using hz))
      have hz1 : rest.toList.isEmpty = true := by rw [isEmpty_data, HZ.out]; rfl
      have hz2 : rest.toList = [] := by simpa using hz1
      clear hz
      go_wp2_with fail
      have HF := Lib.hid (show lexRes s.data.toList = .ok toks by rw [HR.out, HM.out, HZ.out, split_nil]; simp [pre])
      rw [Exit.noGoto_ret]
      refine bodyPost_ret (v := .tuple #[u6, .agg #[.int .i64 0, .int .i64 0], .int .i64 0]) (by simp [results, Tryz.results30, go_sem, p0, p1]) rfl ?_
      rw [HBp.out.setCell_eq, (HBp.out.put _).setCell_eq, putB_putB]
      exact post_ok s w _ toks u6 HF.out (HL.out.trans (putB_below _ _ _ _ (Nat.le_refl _))) (own_putB HO.out (by omega) _ _)
    have h0 : 0 < rest.size := by omega
    have hz1 : rest.toList.isEmpty = false := by
      rw [isEmpty_data]
      cases hh : rest.data.toList with
      | nil => exact absurd (by have := congrArg List.length hh; simpa using this) hz
      | cons _ _ => rfl
    clear hz
    have HRC := Lib.hid (rest_cons rest h0)
    by_cases hbk : isBlank rest[0] = true
    · have hc1 : (((cls rest[0] : Nat) : Int) == 1) = true := by
        have := cls_blank rest[0]
        rw [hbk] at this
        simp at this
        rw [this]; rfl
      have HN := Lib.hid (show split rest.data.toList (ln, co) = split (rest.data.toList.drop 1) (step1 (ln, co) rest[0]) by rw [HRC.out, split_blank _ _ _ hbk]; simp)
      clear hbk
      go_wp2_with (go_at_call 59; refine (class_any _ _).mono ?_; rintro e w' ⟨rfl, rfl⟩)
      refine (skip_at (w.heap.size + 1) rest ln co 1 1 rfl _ (HBs.out.alloc _) (by omega) (by omega) (by omega) (by omega)).mono ?_
      rintro e w1 ⟨out, t', rfl, hout, ht', hw1⟩
      have HW1 := Lib.hid hw1
      have HT := Lib.hid ht'
      clear hw1 ht' hout
      go_wp2_with fail
      have HF := rel_skip hlen hln hco HM.out HO.out HBp.out HBs.out HL.out hsz (n := 1) (by omega) (by omega) HT.out (by rw [HN.out, HRC.out]; rfl) (.cells #[.int .i64 ln, .int .i64 co] 40)
      rw [← HW1.out] at HF
      go_roundg t'.size
      case measure => exact HF.2
      case rel => exact HF.1
    have hc1 : (((cls rest[0] : Nat) : Int) == 1) = false := by
      have := cls_blank rest[0]
      rw [show isBlank rest[0] = false by simpa using hbk] at this
      simp at this
      rw [beq_eq_false_iff_ne]; omega
    by_cases hsy : isSym rest[0] = true
    · have hc6 : (((cls rest[0] : Nat) : Int) == 6) = true := by
        have := cls_sym rest[0]
        rw [hsy] at this
        simp at this
        rw [this]; rfl
      have HN := Lib.hid (show split rest.data.toList (ln, co) = pre [⟨3, [rest[0]], ln, co⟩] (split (rest.data.toList.drop 1) (step1 (ln, co) rest[0])) by rw [HRC.out, split_sym _ _ _ hsy]; simp)
      clear hsy hbk
      go_wp2_with (go_at_call 59; refine (class_any _ _).mono ?_; rintro e w' ⟨rfl, rfl⟩)
      have q0 : (wr.alloc (.cells #[.int .i64 ln, .int .i64 co] 40)).cell? ⟨wr.heap.size, 0, none⟩ = some (.int .i64 ln) := (Blk.new wr _ _).cell 0
      have q1 : (wr.alloc (.cells #[.int .i64 ln, .int .i64 co] 40)).cell? ⟨wr.heap.size, 1, none⟩ = some (.int .i64 co) := (Blk.new wr _ _).cell 1
      obtain ⟨i0, ti, tz0, tz1, tz2⟩ := info_parts Tryz.infoTok
      have HNE := Lib.hid (show u6.ownBlock ≠ some wr.heap.size from fun h => by have := (HO.out.lt _ h).2; omega)
      go_region_held3 (fun w' => w'.cell? ⟨wr.heap.size, 0, none⟩ = some (.int .i64 ln) ∧ w'.cell? ⟨wr.heap.size, 1, none⟩ = some (.int .i64 co))
        (first
          | exact ⟨q0, q1⟩
          | exact ⟨QA.out.cell 0, QA.out.cell 1⟩
          | exact ⟨(QA.out.alloc _).cell 0, (QA.out.alloc _).cell 1⟩
          | exact ⟨QB.out.cell 0, QB.out.cell 1⟩)
        (first
          | (go_at_call 60
             refine (skip_at (w.heap.size + 1) rest ln co 1 1 rfl _ (by exact HBs.out.alloc _) (by omega) (by omega) (by omega) (by omega)).mono ?_
             rintro e w1 ⟨out, t', rfl, hout, ht', hw1⟩
             have HW1 := Lib.hid hw1
             have HT := Lib.hid ht'
             have HU := Lib.hid (mk_of_data _ _ hout)
             have HO1 := Lib.hid (show w1.ownsRow (w.heap.size + 2) 58 4 u6 toks.length (toksCells toks) by rw [hw1]; exact own_putB (HO.out.alloc _) (by omega) _ _)
             have QA := Lib.hid (show Blk w1 wr.heap.size 40 #[.int .i64 ln, .int .i64 co] by rw [hw1]; exact (Blk.new wr _ _).far (by omega) _)
             have hs1 : wr.heap.size + 1 ≤ w1.heap.size := by rw [hw1, putB_size]; simp
             clear hw1 ht' hout)
          | (refine step_append_lies _ (by rfl) _ _ _ (by rfl) (w.heap.size + 2) 58 i0 _ 4 40 Tryz.underlying53 ti tz0 tz1 tz2 rfl (by omega) u6 toks.length (toksCells toks) (by rfl) (HO1.out.alloc _)
               ⟨w1.heap.size, 0, none⟩ 1 1 [.int .i64 3, .string out, .int .i64 ln, .int .i64 co] (by rfl) (by rfl)
               (World.news_of_block (cs := #[.int .i64 3, .string out, .int .i64 ln, .int .i64 co]) (t := 58) (fr := (0, 0)) (heap_alloc_new w1 _)) (by simp [Value.oneCell'])
               (by omega) (by unfold maxLen; omega) (by omega) (by simp; omega) (w1.heap.size + 1) (by simp) ?_
             intro gg cap w2 hown2 hgrow hat hlt
             have HO2 := Lib.hid hown2
             have HG2 := Lib.hid hgrow
             have QB := Lib.hid (show Blk w2 wr.heap.size 40 #[.int .i64 ln, .int .i64 co] from (QA.out.alloc _).grown hgrow (Ne.symm HNE.out))
             clear hown2 hgrow hat hlt))
      clear ti tz0 tz1 tz2
      go_wp2_with fail
      have HF := rel_tok hlen hln hco HM.out HO.out HBp.out HBs.out HL.out hsz (n := 1) (by omega) (by omega) HT.out ⟨3, [rest[0]], ln, co⟩ (by rw [HN.out, HRC.out]; rfl) _ HW1.out _ HG2.out
        (by have h := HO2.out; rw [HU.out, HRC.out] at h; simpa [toksCells, tokCells] using h) (only_drew (World.grownBy_alloc _ _ _)) (World.grownBy_alloc _ _ _)
      go_roundg t'.size
      case measure => exact HF.2
      case rel => exact HF.1
    have hc6 : (((cls rest[0] : Nat) : Int) == 6) = false := by
      have := cls_sym rest[0]
      rw [show isSym rest[0] = false by simpa using hsy] at this
      simp at this
      rw [beq_eq_false_iff_ne]; omega
    have hbk' : isBlank rest[0] = false := by simpa using hbk
    have hsy' : isSym rest[0] = false := by simpa using hsy
    clear hbk hsy
    by_cases hru : inRun rest[0] = true
    · have hc0 : (((cls rest[0] : Nat) : Int) == 0) = false := by
        have := cls_other rest[0]
        rw [hru] at this
        simp at this
        rw [beq_eq_false_iff_ne]; omega
      obtain ⟨n, hn⟩ : ∃ n, n = (rest.data.toList.takeWhile inRun).length := ⟨_, rfl⟩
      have htk := take_takeWhile inRun rest.data.toList
      rw [← hn] at htk
      have hn0 : 0 < n := by rw [hn, HRC.out, List.takeWhile_cons, hru]; simp
      have hnr : n ≤ rest.size := by rw [hn, ← length_data]; exact takeWhile_le _ _
      have HTK := Lib.hid htk
      have HNE := Lib.hid hn
      have HCC := Lib.hid (show rest.data.toList.take n = rest[0] :: (rest.data.toList.drop 1).takeWhile inRun by
        rw [HTK.out.1, HRC.out, List.takeWhile_cons, hru]; rfl)
      have HDD := Lib.hid (show rest.data.toList.drop n = (rest.data.toList.drop 1).dropWhile inRun by
        rw [HTK.out.2, HRC.out, List.dropWhile_cons, hru]; rfl)
      have HS1 := Lib.hid (show (kindOf (rest.data.toList.take n)).2 = 0 → split rest.data.toList (ln, co) = pre [⟨(kindOf (rest.data.toList.take n)).1, rest.data.toList.take n, ln, co⟩] (split (rest.data.toList.drop n) (adv (rest.data.toList.take n) (ln, co))) by
        intro hk; rw [HCC.out] at hk ⊢; rw [HDD.out]; conv => lhs; rw [HRC.out, split_run _ _ _ hru hk])
      have HS2 := Lib.hid (show (kindOf (rest.data.toList.take n)).2 ≠ 0 → split rest.data.toList (ln, co) = .error (ln, co, (kindOf (rest.data.toList.take n)).2) by
        intro hk; rw [HCC.out] at hk ⊢; conv => lhs; rw [HRC.out, split_run_err _ _ _ hru hk])
      clear hn htk hru hbk' hsy'
      go_wp2_with (go_at_call 59; refine (class_any _ _).mono ?_; rintro e w' ⟨rfl, rfl⟩)
      refine (run_any (w.heap.size + 1) rest ln co _ (HBs.out.alloc _) (by unfold maxLen; omega)).mono ?_
      rw [← HNE.out]
      rintro e w' ⟨rfl, rfl⟩
      go_wp2_with fail
      refine (skip_at (w.heap.size + 1) rest ln co n _ rfl _ (HBs.out.alloc _) (by omega) (by omega) (by omega) (by omega)).mono ?_
      rintro e w1 ⟨out, t', rfl, hout, ht', hw1⟩
      have hos : out.size ≤ maxLen := by rw [← length_data, hout]; unfold maxLen; simp; omega
      have HW1 := Lib.hid hw1
      have HT := Lib.hid ht'
      have HU := Lib.hid hout
      have HO1 := Lib.hid (show w1.ownsRow (w.heap.size + 2) 58 4 u6 toks.length (toksCells toks) by rw [hw1]; exact own_putB (HO.out.alloc _) (by omega) _ _)
      have QA := Lib.hid (show Blk w1 wr.heap.size 40 #[.int .i64 ln, .int .i64 co] by rw [hw1]; exact (Blk.new wr _ _).far (by omega) _)
      have QP := Lib.hid (show Blk w1 w.heap.size 40 #[.int .i64 0, .int .i64 0] by rw [hw1]; exact (HBp.out.alloc _).far (by omega) _)
      have hs1 : wr.heap.size + 1 ≤ w1.heap.size := by rw [hw1, putB_size]; simp
      have HL1 := Lib.hid (show Below w.heap.size w w1 by rw [hw1]; exact (HL.out.alloc (by omega) _).trans (putB_below _ _ _ _ (by omega)))
      clear hw1 ht' hout
      go_wp2_with fail
      refine (kind_any out _ hos).mono ?_
      obtain ⟨kd, er, hke⟩ : ∃ kd er, kindOf out.data.toList = (kd, er) := ⟨_, _, rfl⟩
      have HK := Lib.hid hke
      rw [hke]
      rintro e w' ⟨rfl, nd, rfl⟩
      clear hke
      have q0 : w1.cell? ⟨wr.heap.size, 0, none⟩ = some (.int .i64 ln) := QA.out.cell 0
      have q1 : w1.cell? ⟨wr.heap.size, 1, none⟩ = some (.int .i64 co) := QA.out.cell 1
      have pp0 : w1.cell? ⟨w.heap.size, 0, none⟩ = some (.int .i64 0) := QP.out.cell 0
      have pp1 : w1.cell? ⟨w.heap.size, 1, none⟩ = some (.int .i64 0) := QP.out.cell 1
      have pf0 : w1.frozen? ⟨w.heap.size, 0, none⟩ = false := QP.out.frozen 0
      have pf1 : w1.frozen? ⟨w.heap.size, 1, none⟩ = false := QP.out.frozen 1
      by_cases her : er = 0
      · have her' : ((er : Int) != 0) = false := by rw [her]; rfl
        have HE := Lib.hid her
        clear her
        obtain ⟨i0, ti, tz0, tz1, tz2⟩ := info_parts Tryz.infoTok
        go_wp2_with (at_builtin; refine wpList_append_lies _ rfl _ _ _ rfl (w.heap.size + 2) 58 i0 _ 4 40 Tryz.underlying53 ti tz0 tz1 tz2 rfl (by omega) u6 toks.length (toksCells toks) rfl (by exact HO1.out.alloc _) ⟨w1.heap.size, 0, none⟩ 1 1 [.int .i64 kd, .string out, .int .i64 ln, .int .i64 co] rfl rfl (World.news_of_block (cs := #[.int .i64 kd, .string out, .int .i64 ln, .int .i64 co]) (t := 58) (fr := (0, 0)) (heap_alloc_new w1 _)) (by simp [Value.oneCell']) (by omega) (by unfold maxLen; omega) (by omega) (by simp; omega) (w1.heap.size + 1) (by simp) ?_)
        intro gg cap w2 hown2 hgrow hat hlt
        have HO2 := Lib.hid hown2
        have HG2 := Lib.hid hgrow
        clear hown2 hgrow hat hlt ti tz0 tz1 tz2
        go_wp2_with fail
        have HKE := Lib.hid (show kindOf (rest.data.toList.take n) = (kd, er) by rw [← HU.out]; exact HK.out)
        have HF := rel_tok hlen hln hco HM.out HO.out HBp.out HBs.out HL.out hsz (n := n) hn0 hnr HT.out ⟨kd, rest.data.toList.take n, ln, co⟩ (by have h := HS1.out; rw [HKE.out] at h; exact h HE.out) _ HW1.out _ HG2.out
          (by have h := HO2.out; rw [mk_of_data _ _ HU.out] at h; simpa [toksCells, tokCells] using h) (World.grownBy_alloc _ _ _) (only_drewN_alloc w1 nd _ _)
        go_roundg t'.size
        case measure => exact HF.2
        case rel => exact HF.1
      · have her' : ((er : Int) != 0) = true := by rw [bne_iff_ne]; omega
        have HKE := Lib.hid (show kindOf (rest.data.toList.take n) = (kd, er) by rw [← HU.out]; exact HK.out)
        have HF2 := Lib.hid (show lexRes s.data.toList = .error (ln, co, er) by
          have h := HS2.out
          rw [HKE.out] at h
          rw [HR.out, HM.out, h her]; rfl)
        clear her
        go_wp2_with fail
        go_region
        go_wp2_with fail
        rw [Exit.noGoto_ret]
        refine bodyPost_ret (v := .tuple #[.slice none 0 0, .agg #[.int .i64 ln, .int .i64 co], .int .i64 er]) (by simp [results, Tryz.results30, go_sem, pp0, pp1]) rfl ?_
        exact post_err s w _ ln co er HF2.out (((below_drewN HL1.out _).setCell (Nat.le_refl _) _).setCell (Nat.le_refl _) _)
    have hru' : inRun rest[0] = false := by simpa using hru
    have hc0 : (((cls rest[0] : Nat) : Int) == 0) = true := by
      have := cls_other rest[0]
      rw [hru', hbk', hsy'] at this
      simp at this
      rw [this]; rfl
    by_cases h35 : rest[0] = 35
    · have h35' : ((rest[0].toNat : Int) != 35) = false := by rw [h35]; rfl
      have HN := Lib.hid (show split rest.data.toList (ln, co) = split (rest.data.toList.dropWhile (· != 10)) (adv (rest.data.toList.takeWhile (· != 10)) (ln, co)) by
        rw [HRC.out, h35, split_hash]; rfl)
      clear hbk' hsy' hru hru' h35
      rcases indexByte_spec rest.data.toList 10 with ⟨h1, h2⟩ | ⟨h1, i, h2, h3, h4, h5, h6⟩
      · have HN2 := Lib.hid (show split rest.data.toList (ln, co) = split (rest.data.toList.drop rest.size) (adv (rest.data.toList.take rest.size) (ln, co)) by
          rw [HN.out, (takeWhile_not_mem _ _ h1).1, (takeWhile_not_mem _ _ h1).2, ← length_data rest, List.drop_length, List.take_length])
        have h2' : Lib.indexByte rest.data.toList 10 < 0 := by omega
        clear h1 h2
        go_wp2_with (first | (go_at_call 59; refine (class_any _ _).mono ?_; rintro e w' ⟨rfl, rfl⟩) | (go_at_call 61; refine (sIndexByte _ _ _).mono ?_; rintro e w' ⟨rfl, rfl⟩))
        refine (skip_at (w.heap.size + 1) rest ln co rest.size _ rfl _ (HBs.out.alloc _) (by omega) (by omega) (by omega) (by omega)).mono ?_
        rintro e w1 ⟨out, t', rfl, hout, ht', hw1⟩
        have HW1 := Lib.hid hw1
        have HT := Lib.hid ht'
        clear hw1 ht' hout
        go_wp2_with fail
        have HF := rel_skip hlen hln hco HM.out HO.out HBp.out HBs.out HL.out hsz (n := rest.size) (by omega) (by omega) HT.out HN2.out (.cells #[.int .i64 ln, .int .i64 co] 40)
        rw [← HW1.out] at HF
        go_roundg t'.size
        case measure => exact HF.2
        case rel => exact HF.1
      · have HN2 := Lib.hid (show split rest.data.toList (ln, co) = split (rest.data.toList.drop i) (adv (rest.data.toList.take i) (ln, co)) by rw [HN.out, h4, h5])
        have hil : i < rest.size := by simpa using h3
        have hi0 : 0 < i := by
          rcases Nat.eq_zero_or_pos i with h | h
          · subst h
            rw [List.drop_zero, HRC.out] at h6
            have : rest[0] = 10 := by injection h6
            rw [this] at h35'
            exact absurd h35' (by decide)
          · exact h
        clear h1 h3 h4 h5 h6
        go_wp2_with (first | (go_at_call 59; refine (class_any _ _).mono ?_; rintro e w' ⟨rfl, rfl⟩) | (go_at_call 61; refine (sIndexByte _ _ _).mono ?_; rintro e w' ⟨rfl, rfl⟩))
        refine (skip_at (w.heap.size + 1) rest ln co i _ rfl _ (HBs.out.alloc _) (by omega) (by omega) (by omega) (by omega)).mono ?_
        rintro e w1 ⟨out, t', rfl, hout, ht', hw1⟩
        have HW1 := Lib.hid hw1
        have HT := Lib.hid ht'
        clear hw1 ht' hout h2
        go_wp2_with fail
        have HF := rel_skip hlen hln hco HM.out HO.out HBp.out HBs.out HL.out hsz (n := i) (by omega) (by omega) HT.out HN2.out (.cells #[.int .i64 ln, .int .i64 co] 40)
        rw [← HW1.out] at HF
        go_roundg t'.size
        case measure => exact HF.2
        case rel => exact HF.1
    have h35' : ((rest[0].toNat : Int) != 35) = true := by
      rw [bne_iff_ne]
      intro h
      exact h35 (UInt8.toNat_inj.1 (show rest[0].toNat = 35 by omega))
    have HN := Lib.hid (show split rest.data.toList (ln, co) = .error (ln, co, 3) by rw [HRC.out, split_bad _ _ _ hbk' hsy' hru' h35])
    have HF := Lib.hid (show lexRes s.data.toList = .error (ln, co, 3) by rw [HR.out, HM.out, HN.out]; rfl)
    clear hbk' hsy' hru hru' h35
    have q0 : (wr.alloc (.cells #[.int .i64 ln, .int .i64 co] 40)).cell? ⟨wr.heap.size, 0, none⟩ = some (.int .i64 ln) := (Blk.new wr _ _).cell 0
    have q1 : (wr.alloc (.cells #[.int .i64 ln, .int .i64 co] 40)).cell? ⟨wr.heap.size, 1, none⟩ = some (.int .i64 co) := (Blk.new wr _ _).cell 1
    have pp0 : ∀ o, (wr.alloc o).cell? ⟨w.heap.size, 0, none⟩ = some (.int .i64 0) := fun o => (HBp.out.alloc o).cell 0
    have pp1 : ∀ o, (wr.alloc o).cell? ⟨w.heap.size, 1, none⟩ = some (.int .i64 0) := fun o => (HBp.out.alloc o).cell 1
    have pf0 : ∀ o, (wr.alloc o).frozen? ⟨w.heap.size, 0, none⟩ = false := fun o => (HBp.out.alloc o).frozen 0
    have pf1 : ∀ o, (wr.alloc o).frozen? ⟨w.heap.size, 1, none⟩ = false := fun o => (HBp.out.alloc o).frozen 1
    go_wp2_with (go_at_call 59; refine (class_any _ _).mono ?_; rintro e w' ⟨rfl, rfl⟩)
    go_region
    go_wp2_with fail
    rw [Exit.noGoto_ret]
    refine bodyPost_ret (v := .tuple #[.slice none 0 0, .agg #[.int .i64 ln, .int .i64 co], .int .i64 3]) (by simp [results, Tryz.results30, go_sem, pp0, pp1]) rfl ?_
    exact post_err s w _ ln co 3 HF.out ((((HL.out.alloc (by omega) _).setCell (Nat.le_refl _) _).setCell (Nat.le_refl _) _).drew)

/-- lex.Split at every text. -/
theorem split_any (s : ByteArray) (w : World) (hs : s.size ≤ maxLen) : Calls Tryz.prog 30 #[.string s] w (SplitPost s.data.toList w) := by
  by_cases h : s.size ≤ 65536
  · exact split_small s w h
  · unfold maxLen at hs
    have HF := Lib.hid (show lexRes s.data.toList = .error (0, 0, 5) by unfold lexRes; rw [if_pos (by rw [length_data]; omega)])
    have hd : decide ((65536 : Int) < s.size) = true := by simp; omega
    go_enter Tryz.func30, Tryz.ntmps30
    go_wp2_with fail
    go_step3
    go_wp2_with fail
    rw [Exit.noGoto_ret]
    refine bodyPost_ret (v := .tuple #[.slice none 0 0, .agg #[.int .i64 0, .int .i64 0], .int .i64 5]) (by simp [results, Tryz.results30, go_sem]) rfl ?_
    exact post_err s w _ 0 0 5 HF.out ((Below.refl _ _).alloc (Nat.le_refl _) _)
end Go.Proofs.YtkjoohnndobjeaaGreatDoor
namespace Go.Fl
open Go.RowKit

/-- The slice value with the address A and n elements of 'size' cells each holds the cells xs. -/
def Rd (w : World) (size : Nat) (A : Option Addr) (n : Nat) (xs : List Value) : Prop :=
  xs.length = n * size ∧ (0 < n → ∃ b off, A = some ⟨b, off, none⟩ ∧ b < w.heap.size ∧ ∀ j u, xs[j]? = some u → w.cell? ⟨b, off + j, none⟩ = some u)

section
variable {w w' : World} {size n : Nat} {A : Option Addr} {xs : List Value}
theorem Rd.at_ (h : Rd w size A n xs) (hn : 0 < n) : ∃ b off, A = some ⟨b, off, none⟩ ∧ b < w.heap.size ∧ ∀ j u, xs[j]? = some u → w.cell? ⟨b, off + j, none⟩ = some u := h.2 hn
theorem Rd.keep (h : Rd w size A n xs) (hs : w.heap.size ≤ w'.heap.size) (hk : ∀ b off, b < w.heap.size → w'.cell? ⟨b, off, none⟩ = w.cell? ⟨b, off, none⟩) : Rd w' size A n xs :=
  ⟨h.1, fun hn => by
    obtain ⟨b, off, e, hb, hc⟩ := h.2 hn
    exact ⟨b, off, e, by omega, fun j u hu => (hk _ _ hb).trans (hc j u hu)⟩⟩
theorem Rd.below (h : Rd w size A n xs) (hb : Below w.heap.size w w') : Rd w' size A n xs := h.keep hb.size fun _ _ hp => hb.cell (p := ⟨_, _, none⟩) hp
theorem Rd.drewN (h : Rd w size A n xs) (k : Nat) : Rd (w.drewN k) size A n xs := h
theorem Rd.alloc (h : Rd w size A n xs) (o : Obj) : Rd (w.alloc o) size A n xs := h.keep (by simp) fun b off hp => World.cell?_alloc_lt w o ⟨b, off, none⟩ hp
theorem Rd.none_ (w : World) (size : Nat) : Rd w size none 0 [] := ⟨by simp, fun h => absurd h (by omega)⟩
theorem Rd.of_own {base : Nat} {e : TypeId} {v : Value} (h : w.ownsRow base e size v n xs) : ∃ A c, v = .slice A n c ∧ Rd w size A n xs ∧ n ≤ c ∧ c ≤ maxLen := by
  rcases h.2 with ⟨rfl, rfl⟩ | ⟨g, cap, cur, rfl, hb, hg, hnc, hcm, _, _⟩
  · have := h.1
    simp at this
    subst this
    exact ⟨none, 0, rfl, Rd.none_ w size, by omega, by unfold maxLen; omega⟩
  · refine ⟨_, cap, rfl, ⟨h.1, fun _ => ⟨g, 0, rfl, (Array.getElem?_eq_some_iff.1 hg).1, fun j u hu => ?_⟩⟩, hnc, hcm⟩
    have := h.cells (g := g) rfl j u hu
    rw [Addr.add_lit] at this
    exact this
end
end Go.Fl
namespace Go.Proofs.YtkjoohnndobjeaaGreatDoor
open Go.RowKit Go.Fl Go.Fl.Lx

theorem rtoks_at (l : List Tok) (k : Nat) (t : Tok) (h : l[k]? = some t) (j : Nat) (hj : j < 4) : (rtoksCells l)[k * 4 + j]? = (rtokCells t)[j]? := by
  induction l generalizing k with
  | nil => simp at h
  | cons t' l ih =>
    have e : rtoksCells (t' :: l) = rtokCells t' ++ rtoksCells l := rfl
    have hl : (rtokCells t').length = 4 := rfl
    rw [e]
    cases k with
    | zero =>
      simp at h
      subst h
      rw [Nat.zero_mul, Nat.zero_add, List.getElem?_append_left (by omega)]
    | succ k =>
      simp at h
      rw [List.getElem?_append_right (by omega), ← ih k h, hl]
      congr 1; omega

theorem toks_at (l : List Tok) (k : Nat) (t : Tok) (h : l[k]? = some t) (j : Nat) (hj : j < 4) : (toksCells l)[k * 4 + j]? = (tokCells t)[j]? := rtoks_at l k t h j hj
end Go.Proofs.YtkjoohnndobjeaaGreatDoor
namespace Go.Fl.Lx

end Go.Fl.Lx
namespace Go.Proofs.YtkjoohnndobjeaaGreatDoor
open Go.RowKit Go.Fl Go.Fl.Lx

end Go.Proofs.YtkjoohnndobjeaaGreatDoor
namespace Go.Proofs.YtkjoohnndobjeaaGreatDoor
open Go.RowKit Go.Fl Go.Fl.Lx

def kws : List (List UInt8) := [[115, 116, 97, 116, 101], [112, 97, 114, 97, 109], [105, 110], [109, 111, 100, 101], [119, 104, 101, 110], [114, 105, 115, 101, 115], [102, 97, 108, 108, 115], [103, 111, 116, 111], [119, 105, 116, 104], [116, 105, 109, 101], [101, 120, 112], [108, 111, 103], [115, 105, 110], [99, 111, 115], [115, 113, 114, 116]]
def kwP (l : List UInt8) : Bool := kws.contains l

theorem beq_list_t (s : ByteArray) (l : List UInt8) (h : s.data.toList = l) : (s.toList == l) = true := by rw [ByteArray.toList_eq, h]; simp
theorem beq_list_f (s : ByteArray) (l : List UInt8) (h : s.data.toList ≠ l) : (s.toList == l) = false := by rw [ByteArray.toList_eq, beq_eq_false_iff_ne]; exact h
set_option maxHeartbeats 1600000 in
theorem keyword_any (s : ByteArray) (w : World) :
    Calls Tryz.prog 58 #[.string s] w fun e w' => e = .returned (.bool (kwP s.data.toList)) ∧ w = w' := by
  by_cases h0 : s.data.toList = [115, 116, 97, 116, 101]
  · have HF := Lib.hid (show kwP s.data.toList = true by rw [h0]; decide)
    have e0 := beq_list_t s _ h0
    clear h0
    go_enter Tryz.func58, Tryz.ntmps58
    go_wp2_with fail
    go_ret
    exact ⟨ret_bool (by rw [HF.out]), rfl⟩
  have H0 := Lib.hid h0
  have e0 := beq_list_f s _ h0
  clear h0
  by_cases h1 : s.data.toList = [112, 97, 114, 97, 109]
  · have HF := Lib.hid (show kwP s.data.toList = true by rw [h1]; decide)
    have e1 := beq_list_t s _ h1
    clear h1
    go_enter Tryz.func58, Tryz.ntmps58
    go_wp2_with fail
    go_ret
    exact ⟨ret_bool (by rw [HF.out]), rfl⟩
  have H1 := Lib.hid h1
  have e1 := beq_list_f s _ h1
  clear h1
  by_cases h2 : s.data.toList = [105, 110]
  · have HF := Lib.hid (show kwP s.data.toList = true by rw [h2]; decide)
    have e2 := beq_list_t s _ h2
    clear h2
    go_enter Tryz.func58, Tryz.ntmps58
    go_wp2_with fail
    go_ret
    exact ⟨ret_bool (by rw [HF.out]), rfl⟩
  have H2 := Lib.hid h2
  have e2 := beq_list_f s _ h2
  clear h2
  by_cases h3 : s.data.toList = [109, 111, 100, 101]
  · have HF := Lib.hid (show kwP s.data.toList = true by rw [h3]; decide)
    have e3 := beq_list_t s _ h3
    clear h3
    go_enter Tryz.func58, Tryz.ntmps58
    go_wp2_with fail
    go_ret
    exact ⟨ret_bool (by rw [HF.out]), rfl⟩
  have H3 := Lib.hid h3
  have e3 := beq_list_f s _ h3
  clear h3
  by_cases h4 : s.data.toList = [119, 104, 101, 110]
  · have HF := Lib.hid (show kwP s.data.toList = true by rw [h4]; decide)
    have e4 := beq_list_t s _ h4
    clear h4
    go_enter Tryz.func58, Tryz.ntmps58
    go_wp2_with fail
    go_ret
    exact ⟨ret_bool (by rw [HF.out]), rfl⟩
  have H4 := Lib.hid h4
  have e4 := beq_list_f s _ h4
  clear h4
  by_cases h5 : s.data.toList = [114, 105, 115, 101, 115]
  · have HF := Lib.hid (show kwP s.data.toList = true by rw [h5]; decide)
    have e5 := beq_list_t s _ h5
    clear h5
    go_enter Tryz.func58, Tryz.ntmps58
    go_wp2_with fail
    go_ret
    exact ⟨ret_bool (by rw [HF.out]), rfl⟩
  have H5 := Lib.hid h5
  have e5 := beq_list_f s _ h5
  clear h5
  by_cases h6 : s.data.toList = [102, 97, 108, 108, 115]
  · have HF := Lib.hid (show kwP s.data.toList = true by rw [h6]; decide)
    have e6 := beq_list_t s _ h6
    clear h6
    go_enter Tryz.func58, Tryz.ntmps58
    go_wp2_with fail
    go_ret
    exact ⟨ret_bool (by rw [HF.out]), rfl⟩
  have H6 := Lib.hid h6
  have e6 := beq_list_f s _ h6
  clear h6
  by_cases h7 : s.data.toList = [103, 111, 116, 111]
  · have HF := Lib.hid (show kwP s.data.toList = true by rw [h7]; decide)
    have e7 := beq_list_t s _ h7
    clear h7
    go_enter Tryz.func58, Tryz.ntmps58
    go_wp2_with fail
    go_ret
    exact ⟨ret_bool (by rw [HF.out]), rfl⟩
  have H7 := Lib.hid h7
  have e7 := beq_list_f s _ h7
  clear h7
  by_cases h8 : s.data.toList = [119, 105, 116, 104]
  · have HF := Lib.hid (show kwP s.data.toList = true by rw [h8]; decide)
    have e8 := beq_list_t s _ h8
    clear h8
    go_enter Tryz.func58, Tryz.ntmps58
    go_wp2_with fail
    go_ret
    exact ⟨ret_bool (by rw [HF.out]), rfl⟩
  have H8 := Lib.hid h8
  have e8 := beq_list_f s _ h8
  clear h8
  by_cases h9 : s.data.toList = [116, 105, 109, 101]
  · have HF := Lib.hid (show kwP s.data.toList = true by rw [h9]; decide)
    have e9 := beq_list_t s _ h9
    clear h9
    go_enter Tryz.func58, Tryz.ntmps58
    go_wp2_with fail
    go_ret
    exact ⟨ret_bool (by rw [HF.out]), rfl⟩
  have H9 := Lib.hid h9
  have e9 := beq_list_f s _ h9
  clear h9
  by_cases h10 : s.data.toList = [101, 120, 112]
  · have HF := Lib.hid (show kwP s.data.toList = true by rw [h10]; decide)
    have e10 := beq_list_t s _ h10
    clear h10
    go_enter Tryz.func58, Tryz.ntmps58
    go_wp2_with fail
    go_ret
    exact ⟨ret_bool (by rw [HF.out]), rfl⟩
  have H10 := Lib.hid h10
  have e10 := beq_list_f s _ h10
  clear h10
  by_cases h11 : s.data.toList = [108, 111, 103]
  · have HF := Lib.hid (show kwP s.data.toList = true by rw [h11]; decide)
    have e11 := beq_list_t s _ h11
    clear h11
    go_enter Tryz.func58, Tryz.ntmps58
    go_wp2_with fail
    go_ret
    exact ⟨ret_bool (by rw [HF.out]), rfl⟩
  have H11 := Lib.hid h11
  have e11 := beq_list_f s _ h11
  clear h11
  by_cases h12 : s.data.toList = [115, 105, 110]
  · have HF := Lib.hid (show kwP s.data.toList = true by rw [h12]; decide)
    have e12 := beq_list_t s _ h12
    clear h12
    go_enter Tryz.func58, Tryz.ntmps58
    go_wp2_with fail
    go_ret
    exact ⟨ret_bool (by rw [HF.out]), rfl⟩
  have H12 := Lib.hid h12
  have e12 := beq_list_f s _ h12
  clear h12
  by_cases h13 : s.data.toList = [99, 111, 115]
  · have HF := Lib.hid (show kwP s.data.toList = true by rw [h13]; decide)
    have e13 := beq_list_t s _ h13
    clear h13
    go_enter Tryz.func58, Tryz.ntmps58
    go_wp2_with fail
    go_ret
    exact ⟨ret_bool (by rw [HF.out]), rfl⟩
  have H13 := Lib.hid h13
  have e13 := beq_list_f s _ h13
  clear h13
  by_cases h14 : s.data.toList = [115, 113, 114, 116]
  · have HF := Lib.hid (show kwP s.data.toList = true by rw [h14]; decide)
    have e14 := beq_list_t s _ h14
    clear h14
    go_enter Tryz.func58, Tryz.ntmps58
    go_wp2_with fail
    go_ret
    exact ⟨ret_bool (by rw [HF.out]), rfl⟩
  have H14 := Lib.hid h14
  have e14 := beq_list_f s _ h14
  clear h14
  have HF := Lib.hid (show kwP s.data.toList = false by simp [kwP, kws, H0.out, H1.out, H2.out, H3.out, H4.out, H5.out, H6.out, H7.out, H8.out, H9.out, H10.out, H11.out, H12.out, H13.out, H14.out])
  go_enter Tryz.func58, Tryz.ntmps58
  go_wp2_with fail
  go_ret
  exact ⟨ret_bool (by rw [HF.out]), rfl⟩

def nameP (l : List UInt8) : Bool := wordP l && decide (l.length ≤ 20) && !kwP l

set_option maxHeartbeats 400000 in
theorem name_any (s : ByteArray) (w : World) (hs : s.size ≤ maxLen) :
    Calls Tryz.prog 29 #[.string s] w fun e w' => e = .returned (.bool (nameP s.data.toList)) ∧ w = w' := by
  have HE := Lib.hid (show nameP s.data.toList = (wordP s.data.toList && decide (s.size ≤ 20) && !kwP s.data.toList) by unfold nameP; rw [length_data])
  have hs' := hs
  unfold maxLen at hs'
  by_cases hw : wordP s.data.toList = true
  · by_cases hl : s.size ≤ 20
    · go_enter Tryz.func29, Tryz.ntmps29
      go_wp2_with (first | (go_at_call 57; refine (word_any _ _ hs).mono ?_; rintro e w' ⟨rfl, rfl⟩) | (go_at_call 58; refine (keyword_any _ _).mono ?_; rintro e w' ⟨rfl, rfl⟩))
      go_ret
      exact ⟨ret_bool (by rw [HE.out]; simp [hw, hl]), rfl⟩
    · have hld : decide ((s.size : Int) ≤ 20) = false := by simp; omega
      go_enter Tryz.func29, Tryz.ntmps29
      go_wp2_with (first | (go_at_call 57; refine (word_any _ _ hs).mono ?_; rintro e w' ⟨rfl, rfl⟩) | (go_at_call 58; refine (keyword_any _ _).mono ?_; rintro e w' ⟨rfl, rfl⟩))
      go_ret
      exact ⟨ret_bool (by rw [HE.out]; simp [hl]), rfl⟩
  · have hw : wordP s.data.toList = false := by simpa using hw
    go_enter Tryz.func29, Tryz.ntmps29
    go_wp2_with (first | (go_at_call 57; refine (word_any _ _ hs).mono ?_; rintro e w' ⟨rfl, rfl⟩) | (go_at_call 58; refine (keyword_any _ _).mono ?_; rintro e w' ⟨rfl, rfl⟩))
    go_ret
    exact ⟨ret_bool (by rw [HE.out]; simp [hw]), rfl⟩

end Go.Proofs.YtkjoohnndobjeaaGreatDoor
namespace Go.Fl
open Go.RowKit

section
variable {P : Program} (w : World)
theorem run_append_rd (base : Nat) (t ty e : TypeId) (i : TypeInfo) (z : Value) (size bytes : Nat) (ht : P.underlying t = some (.slice e)) (hi : P.info? e = some i) (hz : i.zero = some z)
    (hsize : i.size = size) (hby : i.bytes = bytes) (hzs : z.cells.size = size) (hsz : 0 < size)
    (v : Value) (n : Nat) (xs : List Value) (hown : w.ownsRow base e size v n xs) (A : Option Addr) (m c : Nat) (hc : A = none → c = 0) (news : List Value) (hr : Rd w size A m news)
    (h1 : ∀ u ∈ news, u.oneCell' = true) (h63 : n + m ≤ maxLen) (hbytes : (n + m) * bytes ≤ 140737488355328) (hbase : base ≤ w.heap.size) :
    ∃ v' w', (Builtin.append_ #[t, t] ty #[v, .slice A m c]).run P w = .ok v' w' ∧ w'.ownsRow base e size v' (n + m) (xs ++ news) ∧ w.grownBy w' v.ownBlock := by
  cases A with
  | none =>
    have hm : m = 0 := by
      rcases Nat.eq_zero_or_pos m with h | h
      · exact h
      · obtain ⟨b, off, h2, _⟩ := hr.2 h; cases h2
    subst hm
    have hn : news = [] := List.eq_nil_of_length_eq_zero (by simpa using hr.1)
    subst hn
    have := hc rfl
    subst this
    exact ⟨v, w, run_append_owned_none (P := P) w base t ty e i size ht hi v n xs hown, by simpa using hown, World.grownBy.refl w _⟩
  | some ad =>
    have hcells : ∀ j u, news[j]? = some u → w.cell? (ad.add j) = some u := by
      intro j u hu
      rcases Nat.eq_zero_or_pos m with h0 | h0
      · subst h0
        have hn : news = [] := List.eq_nil_of_length_eq_zero (by simpa using hr.1)
        subst hn
        simp at hu
      · obtain ⟨b, off, h, _, hcc⟩ := hr.2 h0
        injection h with h
        subst h
        rw [Addr.add_lit]
        exact hcc j u hu
    obtain ⟨v', w', hrun, h2, h3, _⟩ := run_append_own_at (P := P) w base t ty e i z size bytes ht hi hz hsize hby hzs hsz v n xs hown ad m c news hr.1 hcells h1 h63 hbytes hbase
    exact ⟨v', w', hrun, h2, h3⟩

theorem wpList_append_rd {ops : Array Oper} {rest : List Oper} {o : Oper} {a : Act} {Q : Exit → Act → World → Prop} (hw : Region.wanted o (yielded ops a.tmps) = true) (s x : Operand) (t : TypeId)
    (ho : o.op = .call { callee := .builtin .append, args := #[s, x], argTypes := #[t, t] })
    (base : Nat) (e : TypeId) (i : TypeInfo) (z : Value) (size bytes : Nat) (ht : P.underlying t = some (.slice e)) (hi : P.info? e = some i) (hz : i.zero = some z)
    (hsize : i.size = size) (hby : i.bytes = bytes) (hzs : z.cells.size = size) (hsz : 0 < size)
    (v : Value) (n : Nat) (xs : List Value) (hs : a.eval s = v) (hown : w.ownsRow base e size v n xs)
    (A : Option Addr) (m c : Nat) (hc : A = none → c = 0) (news : List Value) (hx : a.eval x = .slice A m c) (hr : Rd w size A m news) (h1 : ∀ u ∈ news, u.oneCell' = true)
    (h63 : n + m ≤ maxLen) (hbytes : (n + m) * bytes ≤ 140737488355328) (hbase : base ≤ w.heap.size)
    (h : ∀ v' w', w'.ownsRow base e size v' (n + m) (xs ++ news) → w.grownBy w' v.ownBlock → wpList P ops Q rest (a.put o.dst v') w') : wpList P ops Q (o :: rest) a w := by
  refine BigFrame.wpList_want hw fun K hK => ?_
  obtain ⟨v', w', hrun, h2, h3⟩ := run_append_rd (P := P) w base t o.type e i z size bytes ht hi hz hsize hby hzs hsz v n xs hown A m c hc news hr h1 h63 hbytes hbase
  unfold Oper.wp execOp
  simp only [ho, resolve, invoke, builtin, Sem.run_bind, Sem.run_pure, Result.andThen_ok, List.map_toArray, List.map_cons, List.map_nil, hs, hx, hrun]
  exact hK _ _ (h v' w' h2 h3)
end
end Go.Fl
namespace Go.Proofs.YtkjoohnndobjeaaGreatDoor
open Go.RowKit Go.Fl Go.Fl.Fm

/-- A node as it lies. -/
structure Nd where
  h : Hd
  A : Option Addr
  len : Nat
  cap : Nat
@[reducible] def Nd.val (x : Nd) : Value := .agg #[.int .i64 x.h.kind, .int .i64 x.h.n, .int .i64 x.h.d, .string x.h.name, .int .i64 x.h.k, .slice x.A x.len x.cap]
def Nd.cells (x : Nd) : List Value := [.int .i64 x.h.kind, .int .i64 x.h.n, .int .i64 x.h.d, .string x.h.name, .int .i64 x.h.k, .slice x.A x.len x.cap]
def ndsCells (l : List Nd) : List Value := l.flatMap Nd.cells
structure HdOk (h : Hd) : Prop where
  k1 : -9223372036854775808 ≤ h.kind
  k2 : h.kind ≤ 9223372036854775807
  n1 : -9223372036854775808 ≤ h.n
  n2 : h.n ≤ 9223372036854775807
  d1 : -9223372036854775808 ≤ h.d
  d2 : h.d ≤ 9223372036854775807
  e1 : -9223372036854775808 ≤ h.k
  e2 : h.k ≤ 9223372036854775807
  s : h.name.size ≤ maxLen
/-- An expression lies at a node. -/
inductive InE (w : World) : TE → Nd → Prop where
  | mk (h : Hd) (l : List TE) (A : Option Addr) (len cap : Nat) (vs : List Nd) (ok : HdOk h) (hl : l.length = len) (hc : len ≤ cap) (hm : cap ≤ maxLen) (hv : vs.length = len) (hr : Rd w 6 A len (ndsCells vs))
      (hi : ∀ (i : Nat) T v, l[i]? = some T → vs[i]? = some v → InE w T v) : InE w (.mk h l) ⟨h, A, len, cap⟩
theorem InE.go {w w' : World} {T : TE} {v : Nd} (h : InE w T v) (hb : Below w.heap.size w w') : InE w' T v := by
  induction h with
  | mk h l A len cap vs ok hl hc hm hv hr hi ih => exact .mk h l A len cap vs ok hl hc hm hv (hr.below hb) ih
theorem InE.belowW {w w' : World} {T : TE} {v : Nd} (h : InE w T v) (hb : Below w.heap.size w w') : InE w' T v := h.go hb
theorem InE.ok {w : World} {T : TE} {v : Nd} (h : InE w T v) : HdOk v.h := by
  cases h with
  | mk h l A len cap vs ok => exact ok
theorem InE.hd {w : World} {T : TE} {v : Nd} (h : InE w T v) : T.h = v.h := by
  cases h with
  | mk h l A len cap vs ok => rfl
theorem InE.length {w : World} {T : TE} {v : Nd} (h : InE w T v) : T.l.length = v.len := by
  cases h with
  | mk h l A len cap vs ok hl => exact hl
theorem InE.caps {w : World} {T : TE} {v : Nd} (h : InE w T v) : v.len ≤ v.cap ∧ v.cap ≤ maxLen := by
  cases h with
  | mk h l A len cap vs ok hl hc hm => exact ⟨hc, hm⟩
theorem nds_at (l : List Nd) (k : Nat) (v : Nd) (h : l[k]? = some v) (j : Nat) (hj : j < 6) : (ndsCells l)[k * 6 + j]? = v.cells[j]? := by
  induction l generalizing k with
  | nil => cases h
  | cons x l ih =>
    have e : ndsCells (x :: l) = x.cells ++ ndsCells l := rfl
    have hx : x.cells.length = 6 := rfl
    cases k with
    | zero =>
      have : x = v := by simpa using h
      subst this
      rw [e, Nat.zero_mul, Nat.zero_add, List.getElem?_append_left (by omega)]
    | succ k =>
      have h' : l[k]? = some v := by simpa using h
      rw [e, List.getElem?_append_right (by omega), hx, show (k + 1) * 6 + j - 6 = k * 6 + j by omega]
      exact ih k h'
/-- The elements of an expression. -/
theorem InE.at_ {w : World} {T : TE} {v : Nd} (h : InE w T v) (i : Nat) (hi : i < v.len) :
    ∃ b o x, v.A = some ⟨b, o, none⟩ ∧ b < w.heap.size ∧ InE w (T.l.getD i default) x ∧ ∀ j u, x.cells[j]? = some u → j < 6 → w.cell? ⟨b, o + (i * 6 + j), none⟩ = some u := by
  cases h with
  | mk h l A len cap vs ok hl hc hm hv hr hin =>
    have hi' : i < len := hi
    obtain ⟨b, o, hA, hb, hcell⟩ := hr.at_ (by omega)
    obtain ⟨T, hT⟩ : ∃ T, l[i]? = some T := ⟨_, List.getElem?_eq_getElem (by omega)⟩
    obtain ⟨x, hx⟩ : ∃ x, vs[i]? = some x := ⟨_, List.getElem?_eq_getElem (by omega)⟩
    refine ⟨b, o, x, hA, hb, ?_, fun j u hu hj => ?_⟩
    · have : (TE.mk h l).l.getD i default = T := by
        show l.getD i default = T
        rw [List.getD_eq_getElem?_getD, hT]
        rfl
      rw [this]
      exact hin i T x hT hx
    · exact hcell _ _ ((nds_at vs i x hx j hj).trans hu)
end Go.Proofs.YtkjoohnndobjeaaGreatDoor
