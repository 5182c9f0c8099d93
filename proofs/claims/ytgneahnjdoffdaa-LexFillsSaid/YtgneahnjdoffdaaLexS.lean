/-
  The walk of the reference's Split.
-/
import Derived.Test.YtgneahnjdoffdaaLexR
import Derived.Test.YtgneahnjdoffdaaLexPlain2
import Derived.Test.YtgneahnjdoffdaaBlk
import Derived.Deep.RegionHeld3
import Derived.Deep.AppendLies
import Derived.Deep.LoopGhost
import Derived.Deep.DrawnRows
import Derived.StillTailTactics
namespace Go.Proofs.Ytgneahnjdoffdaa
open Go.RowKit Go.Fl Go.Fl.Lx

def rtokCells (t : Tok) : List Value := [.int .i64 t.kind, .string ⟨t.text.toArray⟩, .int .i64 t.line, .int .i64 t.col]
def rtoksCells (l : List Tok) : List Value := l.flatMap rtokCells
theorem Try.infoRTok : (Try.prog.info? 34).map (fun i => (i.zero, i.size, i.bytes)) = some (some (.agg #[.int .i64 0, .string ⟨#[]⟩, .int .i64 0, .int .i64 0]), 4, 40) := by kernel_rfl

/-- What the reference's Split leaves. -/
def RSplitPost (l : List UInt8) (w : World) (e : Ending) (w' : World) : Prop :=
  Below w.heap.size w w' ∧
  match lexRes l with
  | .error (ln, co, er) => e = .returned (.tuple #[.slice none 0 0, .agg #[.int .i64 ln, .int .i64 co], .int .i64 er])
  | .ok toks => ∃ v, e = .returned (.tuple #[v, .agg #[.int .i64 0, .int .i64 0], .int .i64 0]) ∧ w'.ownsRow w.heap.size 34 4 v toks.length (rtoksCells toks)

def RSplitRel (w : World) (s : ByteArray) (k : Nat) (ov iv : Value) (wr : World) : Prop :=
  ∃ (i ln co : Nat) (toks : List Tok), iv = .int .i64 i ∧ i ≤ s.size ∧ k = s.size - i ∧ toks.length ≤ i ∧ ln ≤ i + 1 ∧ co ≤ i + 1 ∧
    Hid (split s.data.toList (1, 1) = pre toks (split (s.data.toList.drop i) (ln, co))) ∧
    Hid (wr.ownsRow (w.heap.size + 2) 34 4 ov toks.length (rtoksCells toks)) ∧
    Hid (Blk wr w.heap.size 25 #[.int .i64 0, .int .i64 0]) ∧ Hid (Blk wr (w.heap.size + 1) 25 #[.int .i64 ln, .int .i64 co]) ∧ Hid (Below w.heap.size w wr) ∧ w.heap.size + 2 ≤ wr.heap.size

theorem within_sym (c : UInt8) (w : World) :
    Calls Try.prog 40 #[.string ⟨#[40, 41, 91, 93, 123, 125, 44, 59, 58, 39, 61, 43, 45, 42, 47, 94]⟩, .int .u8 c.toNat] w fun e w' => e = .returned (.bool (isSym c)) ∧ w = w' :=
  (within_any ⟨#[40, 41, 91, 93, 123, 125, 44, 59, 58, 39, 61, 43, 45, 42, 47, 94]⟩ c w (by decide)).mono fun _ _ ⟨h1, h2⟩ => ⟨h1, h2⟩
theorem mk_of_bytes (t : ByteArray) (l : List UInt8) (h : t.data.toList = l) : t = ⟨l.toArray⟩ := by
  subst h; rfl
theorem rpost_ok (s : ByteArray) (w wr : World) (toks : List Tok) (ov : Value) (hr : lexRes s.data.toList = .ok toks) (hb : Below w.heap.size w wr)
    (ho : wr.ownsRow (w.heap.size + 2) 34 4 ov toks.length (rtoksCells toks)) : RSplitPost s.data.toList w (.returned (.tuple #[ov, .agg #[.int .i64 0, .int .i64 0], .int .i64 0])) wr := by
  refine ⟨hb, ?_⟩
  rw [hr]
  refine ⟨ov, rfl, ho.1, ?_⟩
  rcases ho.2 with h | ⟨g, cap, cur, h1, h2, h3⟩
  · exact .inl h
  · exact .inr ⟨g, cap, cur, h1, by omega, h3⟩
theorem rpost_err (s : ByteArray) (w wr : World) (ln co er : Nat) (hr : lexRes s.data.toList = .error (ln, co, er)) (hb : Below w.heap.size w wr) :
    RSplitPost s.data.toList w (.returned (.tuple #[.slice none 0 0, .agg #[.int .i64 ln, .int .i64 co], .int .i64 er])) wr := by
  refine ⟨hb, ?_⟩
  rw [hr]

/-- A byte against a number that it is not. -/
theorem beqf (c : UInt8) (n : Nat) (hn : n < 256) (h : c ≠ UInt8.ofNat n) : (((c.toNat : Nat) : Int) == (n : Int)) = false := (byte_beq_lit c n hn).trans (by simpa using h)

theorem bnet (c : UInt8) (n : Nat) (hn : n < 256) (h : c ≠ UInt8.ofNat n) : (((c.toNat : Nat) : Int) != (n : Int)) = true := by
  have := beqf c n hn h
  unfold bne
  rw [this]; rfl

section
variable {w wr : World} {s : ByteArray} {i n ln co : Nat} {toks : List Tok} {ov : Value}
/-- The relation behind a piece that gives no token. -/
theorem rrel_skip (hi : i + n ≤ s.size) (hn : 0 < n) (ht : toks.length ≤ i)
    (HM : split s.data.toList (1, 1) = pre toks (split (s.data.toList.drop i) (ln, co))) (HO : wr.ownsRow (w.heap.size + 2) 34 4 ov toks.length (rtoksCells toks))
    (HBp : Blk wr w.heap.size 25 #[.int .i64 0, .int .i64 0]) (HBa : Blk wr (w.heap.size + 1) 25 #[.int .i64 ln, .int .i64 co]) (HL : Below w.heap.size w wr) (hsz : w.heap.size + 2 ≤ wr.heap.size)
    (l' c' : Nat) (hl' : l' ≤ i + n + 1) (hc' : c' ≤ i + n + 1)
    (hsp : split (s.data.toList.drop i) (ln, co) = split (s.data.toList.drop (i + n)) (l', c')) (iv : Int) (hiv : iv = ((i + n : Nat) : Int)) :
    RSplitRel w s (s.size - (i + n)) ov (.int .i64 iv) (putB wr (w.heap.size + 1) 25 #[.int .i64 l', .int .i64 c']) ∧ s.size - (i + n) < s.size - i := by
  subst hiv
  refine ⟨⟨i + n, l', c', toks, rfl, hi, rfl, by omega, hl', hc', ?_, own_putB HO (by omega) _ _, HBp.far (by omega) _, HBa.put _, HL.trans (putB_below _ _ _ _ (by omega)), ?_⟩, by omega⟩
  · unfold Hid; rw [HM, hsp]
  · rw [putB_size]; exact hsz
/-- The relation behind a token. -/
theorem rrel_tok {wb w2 : World} {ov' : Value} (hi : i + n ≤ s.size) (hn : 0 < n) (ht : toks.length ≤ i) (hl : ln ≤ i + 1) (hc : co ≤ i + 1)
    (HM : split s.data.toList (1, 1) = pre toks (split (s.data.toList.drop i) (ln, co))) (HO : wr.ownsRow (w.heap.size + 2) 34 4 ov toks.length (rtoksCells toks))
    (HBp : Blk wr w.heap.size 25 #[.int .i64 0, .int .i64 0]) (HBa : Blk wr (w.heap.size + 1) 25 #[.int .i64 ln, .int .i64 co]) (HL : Below w.heap.size w wr) (hsz : w.heap.size + 2 ≤ wr.heap.size)
    (tk : Tok) (hsp : split (s.data.toList.drop i) (ln, co) = pre [tk] (split (s.data.toList.drop (i + n)) (ln, co + n))) (hwb : wr.grownBy wb none) (hg : wb.grownBy w2 ov.ownBlock)
    (ho : w2.ownsRow (w.heap.size + 2) 34 4 ov' (toks.length + 1) (rtoksCells (toks ++ [tk]))) (iv : Int) (hiv : iv = ((i + n : Nat) : Int)) :
    RSplitRel w s (s.size - (i + n)) ov' (.int .i64 iv) (putB w2 (w.heap.size + 1) 25 #[.int .i64 ln, .int .i64 ((co + n : Nat) : Int)]) ∧ s.size - (i + n) < s.size - i := by
  subst hiv
  have hob : ∀ k, ov.ownBlock = some k → w.heap.size + 2 ≤ k := fun k hk => (HO.lt k hk).1
  have s1 := hwb.size
  have s2 := hg.size
  have hbp : Blk w2 w.heap.size 25 #[.int .i64 0, .int .i64 0] := (HBp.grown hwb (by simp)).grown hg (fun h => by have := hob _ h.symm; omega)
  have hba : Blk w2 (w.heap.size + 1) 25 #[.int .i64 ln, .int .i64 co] := (HBa.grown hwb (by simp)).grown hg (fun h => by have := hob _ h.symm; omega)
  refine ⟨⟨i + n, ln, co + n, toks ++ [tk], rfl, hi, rfl, by simp; omega, by omega, by omega, ?_, own_putB (by simpa using ho) (by omega) _ _, hbp.far (by omega) _, hba.put _, ?_, ?_⟩, by omega⟩
  · unfold Hid; rw [HM, hsp, pre_pre]
  · exact ((HL.grown hwb (by omega) (by simp)).grown hg (by omega) (fun k hk => by have := hob k hk; omega)).trans (putB_below _ _ _ _ (by omega))
  · rw [putB_size]; omega
end

set_option maxHeartbeats 1600000 in
set_option maxRecDepth 100000 in
theorem rsplit_small (s : ByteArray) (w : World) (hs : s.size ≤ 65536) :
    Calls Try.prog 12 #[.string s] w (RSplitPost s.data.toList w) := by
  have HR := Lib.hid (show lexRes s.data.toList = split s.data.toList (1, 1) by unfold lexRes; rw [if_neg (by rw [length_data]; omega)])
  have hd : decide ((65536 : Int) < s.size) = false := by simp; omega
  go_enter Try.func12, Try.ntmps12
  go_wp2_with fail
  clear hd
  go_loopg [5, 7] s.size (fun k ov iv wr => RSplitRel w s k ov iv wr)
  case atStart =>
    refine ⟨0, 1, 1, [], rfl, by omega, by omega, by simp, by omega, by omega, (pre_nil _).symm, World.ownsRow_nil _ _ _ _, ?_, ?_, ?_, by simp⟩
    · exact (Blk.new w _ _).alloc _
    · have := Blk.new (w.alloc (.cells #[.int .i64 0, .int .i64 0] 25)) 25 #[.int .i64 1, .int .i64 1]
      have e : (w.alloc (.cells #[.int .i64 0, .int .i64 0] 25)).heap.size = w.heap.size + 1 := by simp
      rw [e] at this
      exact this
    · exact ((Below.refl _ _).alloc (Nat.le_refl _) _).alloc (by simp) _
  case round =>
    obtain ⟨i, ln, co, toks, rfl, hi, rfl, htk, hln, hco, HM, HO, HBp, HBa, HL, hsz⟩ := hrel
    have a0 : wr.cell? ⟨w.heap.size + 1, 0, none⟩ = some (.int .i64 ln) := HBa.out.cell 0
    have a1 : wr.cell? ⟨w.heap.size + 1, 1, none⟩ = some (.int .i64 co) := HBa.out.cell 1
    have fa0 : wr.frozen? ⟨w.heap.size + 1, 0, none⟩ = false := HBa.out.frozen 0
    have fa1 : wr.frozen? ⟨w.heap.size + 1, 1, none⟩ = false := HBa.out.frozen 1
    have p0 : wr.cell? ⟨w.heap.size, 0, none⟩ = some (.int .i64 0) := HBp.out.cell 0
    have p1 : wr.cell? ⟨w.heap.size, 1, none⟩ = some (.int .i64 0) := HBp.out.cell 1
    have fp0 : wr.frozen? ⟨w.heap.size, 0, none⟩ = false := HBp.out.frozen 0
    have fp1 : wr.frozen? ⟨w.heap.size, 1, none⟩ = false := HBp.out.frozen 1
    by_cases hlt : i < s.size
    · have HRC := Lib.hid (drop_cons s i hlt)
      by_cases h10 : s[i] = 10
      · have e10 : (((s[i].toNat : Nat) : Int) == 10) = true := by rw [h10]; rfl
        have HN := Lib.hid (show split (s.data.toList.drop i) (ln, co) = split (s.data.toList.drop (i + 1)) (ln + 1, 1) by
          rw [HRC.out, split_blank _ _ _ (by rw [h10]; decide), h10]; rfl)
        clear h10
        go_wp2_with fail
        have HF := rrel_skip (n := 1) (by omega) (by omega) htk HM.out HO.out HBp.out HBa.out HL.out hsz (ln + 1) 1 (by omega) (by omega) HN.out ((i : Int) + 1) (by omega)
        go_roundg (s.size - (i + 1))
        case measure => exact HF.2
        case rel =>
          rw [HBa.out.setCell_eq, (HBa.out.put _).setCell_eq, putB_putB]
          exact HF.1
      have e10 : (((s[i].toNat : Nat) : Int) == 10) = false := beqf s[i] 10 (by omega) h10
      by_cases hbl : s[i] = 32 ∨ s[i] = 9 ∨ s[i] = 13
      · have HN := Lib.hid (show split (s.data.toList.drop i) (ln, co) = split (s.data.toList.drop (i + 1)) (ln, co + 1) by
          rw [HRC.out, split_blank _ _ _ (by rw [blank_iff]; rcases hbl with h | h | h <;> simp [h])]
          unfold step1
          rw [if_neg (by simpa using h10)])
        have hw : (((s[i].toNat : Nat) : Int) == 32) = true ∨ ((((s[i].toNat : Nat) : Int) == 32) = false ∧ (((s[i].toNat : Nat) : Int) == 9) = true) ∨
            ((((s[i].toNat : Nat) : Int) == 32) = false ∧ (((s[i].toNat : Nat) : Int) == 9) = false ∧ (((s[i].toNat : Nat) : Int) == 13) = true) := by
          rcases hbl with h | h | h
          · left; rw [h]; rfl
          · right; left; rw [h]; exact ⟨rfl, rfl⟩
          · right; right; rw [h]; exact ⟨rfl, rfl, rfl⟩
        have hv : (co : Int) + ((i : Int) + 1) - i = ((co + 1 : Nat) : Int) := by omega
        have HV := Lib.hid hv
        clear hv hbl h10
        -- DEV{
        rcases hw with h1 | ⟨h1, h2⟩ | ⟨h1, h2, h3⟩
        all_goals
          go_wp2_with fail
          have HF := rrel_skip (n := 1) (by omega) (by omega) htk HM.out HO.out HBp.out HBa.out HL.out hsz ln (co + 1) (by omega) (by omega) HN.out ((i : Int) + 1) (by omega)
          go_roundg (s.size - (i + 1))
          case measure => exact HF.2
          case rel =>
            rw [HBa.out.setCell_eq, HV.out]
            exact HF.1
        -- DEV}
      simp only [not_or] at hbl
      have e32 : (((s[i].toNat : Nat) : Int) == 32) = false := beqf s[i] 32 (by omega) hbl.1
      have e9 : (((s[i].toNat : Nat) : Int) == 9) = false := beqf s[i] 9 (by omega) hbl.2.1
      have e13 : (((s[i].toNat : Nat) : Int) == 13) = false := beqf s[i] 13 (by omega) hbl.2.2
      have HNB := Lib.hid (show isBlank s[i] = false by rw [Bool.eq_false_iff]; intro h; rw [blank_iff] at h; simp [hbl, h10] at h)
      clear hbl
      by_cases h35 : s[i] = 35
      · have e35 : (((s[i].toNat : Nat) : Int) == 35) = true := by rw [h35]; rfl
        obtain ⟨n, hn⟩ : ∃ n, n = ((s.data.toList.drop i).takeWhile (· != 10)).length := ⟨_, rfl⟩
        have htk2 := take_takeWhile (· != 10) (s.data.toList.drop i)
        rw [← hn] at htk2
        have hn0 : 0 < n := by rw [hn, HRC.out, h35, List.takeWhile_cons]; simp
        have HN := Lib.hid (show split (s.data.toList.drop i) (ln, co) = split (s.data.toList.drop (i + n)) (ln, co + n) by
          have e1 : split (s.data.toList.drop i) (ln, co) = split ((s.data.toList.drop i).dropWhile (· != 10)) (adv ((s.data.toList.drop i).takeWhile (· != 10)) (ln, co)) := by
            rw [HRC.out, h35, split_hash]; rfl
          rw [e1, ← htk2.2, List.drop_drop, adv_line _ _ (fun c hc => by have := mem_takeWhile _ _ hc; simpa using this), ← hn])
        have HNE := Lib.hid hn
        have hin : i + n ≤ s.size := by
          have := takeWhile_le (· != 10) (s.data.toList.drop i)
          rw [← hn] at this
          simp at this
          omega
        clear hn htk2 h35 h10
        -- DEV{
        go_wp2_with fail
        go_loop [8] (fun kv => ∃ k : Nat, kv = .int .i64 k ∧ i ≤ k ∧ k ≤ i + n) (fun kv => s.size - (intOf kv).toNat)
        case atStart => exact ⟨i, rfl, by omega, by omega⟩
        case round =>
          obtain ⟨k, rfl, hk1, hk2⟩ := hrel
          by_cases hkn : k < i + n
          · have hks : k < s.size := by omega
            have hpk := tw_lt (· != 10) s i n k HNE.out hk1 hkn hks
            have e10k : (((s[k].toNat : Nat) : Int) != 10) = true := bnet s[k] 10 (by omega) (by simpa using hpk)
            clear hpk
            go_wp2_with fail
            go_round
            case rel => exact ⟨k + 1, by go_num, by omega, by omega⟩
            case measure => simp [intOf]; omega
          · have hke : k = i + n := by omega
            subst hke
            by_cases hks : i + n < s.size
            · have hpk := tw_end (· != 10) s i n HNE.out hks
              have e10k : (((s[i + n].toNat : Nat) : Int) != 10) = false := by
                have hh : s[i + n] = 10 := by simpa using hpk
                rw [hh]; rfl
              have HV := Lib.hid (show (co : Int) + ((i : Int) + n) - i = ((co + n : Nat) : Int) by omega)
              clear hpk
              go_wp2_with fail
              have HF := rrel_skip (n := n) hin hn0 htk HM.out HO.out HBp.out HBa.out HL.out hsz ln (co + n) (by omega) (by omega) HN.out ((i : Int) + n) (by omega)
              go_roundg (s.size - (i + n))
              case measure => exact HF.2
              case rel =>
                rw [HBa.out.setCell_eq, HV.out]
                exact HF.1
            · have HV := Lib.hid (show (co : Int) + ((i : Int) + n) - i = ((co + n : Nat) : Int) by omega)
              have hdk : decide ((i : Int) + n < s.size) = false := by simp; omega
              go_wp2_with fail
              have HF := rrel_skip (n := n) hin hn0 htk HM.out HO.out HBp.out HBa.out HL.out hsz ln (co + n) (by omega) (by omega) HN.out ((i : Int) + n) (by omega)
              go_roundg (s.size - (i + n))
              case measure => exact HF.2
              case rel =>
                rw [HBa.out.setCell_eq, HV.out]
                exact HF.1
        -- DEV}
      have e35 : (((s[i].toNat : Nat) : Int) == 35) = false := beqf s[i] 35 (by omega) h35
      by_cases hru : inRun s[i] = true
      · obtain ⟨n, hn⟩ : ∃ n, n = ((s.data.toList.drop i).takeWhile inRun).length := ⟨_, rfl⟩
        have htk2 := take_takeWhile inRun (s.data.toList.drop i)
        rw [← hn] at htk2
        have hn0 : 0 < n := by rw [hn, HRC.out, List.takeWhile_cons, hru]; simp
        have HCC := Lib.hid (show (s.data.toList.drop i).take n = s[i] :: (s.data.toList.drop (i + 1)).takeWhile inRun by
          rw [htk2.1, HRC.out, List.takeWhile_cons, hru]; rfl)
        have HDD := Lib.hid (show s.data.toList.drop (i + n) = (s.data.toList.drop (i + 1)).dropWhile inRun by
          rw [← List.drop_drop, htk2.2, HRC.out, List.dropWhile_cons, hru]; rfl)
        have HAV := Lib.hid (show adv ((s.data.toList.drop i).take n) (ln, co) = (ln, co + n) by
          rw [htk2.1, adv_line _ _ (fun c hc => (run_ne c (mem_takeWhile _ _ hc)).1), ← hn])
        have HS1 := Lib.hid (show (kindOf ((s.data.toList.drop i).take n)).2 = 0 → split (s.data.toList.drop i) (ln, co) = pre [⟨(kindOf ((s.data.toList.drop i).take n)).1, (s.data.toList.drop i).take n, ln, co⟩] (split (s.data.toList.drop (i + n)) (ln, co + n)) by
          intro hk
          rw [← HAV.out, HDD.out]
          rw [HCC.out] at hk ⊢
          conv => lhs; rw [HRC.out, split_run _ _ _ hru hk])
        have HS2 := Lib.hid (show (kindOf ((s.data.toList.drop i).take n)).2 ≠ 0 → split (s.data.toList.drop i) (ln, co) = .error (ln, co, (kindOf ((s.data.toList.drop i).take n)).2) by
          intro hk; rw [HCC.out] at hk ⊢; conv => lhs; rw [HRC.out, split_run_err _ _ _ hru hk])
        have HNE := Lib.hid hn
        have hin : i + n ≤ s.size := by
          have := takeWhile_le inRun (s.data.toList.drop i)
          rw [← hn] at this
          simp at this
          omega
        clear hn htk2 h35 h10
        -- DEV{
        go_wp2_with (go_at_call 38; refine (inRun_any _ _).mono ?_; rintro e w' ⟨rfl, rfl⟩)
        go_loop [8] (fun kv => ∃ k : Nat, kv = .int .i64 k ∧ i ≤ k ∧ k ≤ i + n) (fun kv => s.size - (intOf kv).toNat)
        case atStart => exact ⟨i, rfl, by omega, by omega⟩
        case round =>
          obtain ⟨k, rfl, hk1, hk2⟩ := hrel
          by_cases hkn : k < i + n
          · have hks : k < s.size := by omega
            have hpk := tw_lt inRun s i n k HNE.out hk1 hkn hks
            go_wp2_with (go_at_call 38; refine (inRun_any _ _).mono ?_; rintro e w' ⟨rfl, rfl⟩)
            go_round
            case rel => exact ⟨k + 1, by go_num, by omega, by omega⟩
            case measure => simp [intOf]; omega
          · have hke : k = i + n := by omega
            subst hke
            have HV := Lib.hid (show (co : Int) + ((i : Int) + n) - i = ((co + n : Nat) : Int) by omega)
            have hex : (i + n < s.size ∧ ∃ h : i + n < s.size, inRun s[i + n] = false) ∨ decide ((i : Int) + n < s.size) = false := by
              by_cases hks : i + n < s.size
              · exact .inl ⟨hks, hks, tw_end inRun s i n HNE.out hks⟩
              · exact .inr (by simp; omega)
            have b0 : (0 : Int) ≤ i := by omega
            have b1 : (i : Int) ≤ (i : Int) + n := by omega
            have b2 : (i : Int) + n ≤ s.size := by omega
            have hou : (s.extract i (i + n)).data.toList = (s.data.toList.drop i).take n := by rw [Lib.extract_data]; congr 1; omega
            have hos : (s.extract i (i + n)).size ≤ maxLen := by rw [← length_data, hou]; unfold maxLen; simp; omega
            have HU := Lib.hid hou
            have HOS := Lib.hid hos
            clear hou hos
            rcases hex with ⟨hks, _, hpk⟩ | hpk
            all_goals
              go_wp2_with (go_at_call 38; refine (inRun_any _ _).mono ?_; rintro e w' ⟨rfl, rfl⟩)
              refine (rkind_any _ _ HOS.out).mono ?_
              rw [HU.out]
              obtain ⟨kd, er, hke⟩ : ∃ kd er, kindOf ((s.data.toList.drop i).take n) = (kd, er) := ⟨_, _, rfl⟩
              have HK := Lib.hid hke
              rw [hke]
              rintro e w' ⟨rfl, rfl⟩
              clear hke hpk
              by_cases her : er = 0
              · have her' : ((er : Int) != 0) = false := by rw [her]; rfl
                have HSP := Lib.hid (show split (s.data.toList.drop i) (ln, co) = pre [⟨kd, (s.data.toList.drop i).take n, ln, co⟩] (split (s.data.toList.drop (i + n)) (ln, co + n)) by
                  have h := HS1.out; rw [HK.out] at h; exact h her)
                clear her
                go_wp2_with fail
                obtain ⟨i0, ti, tz0, tz1, tz2⟩ := info_parts Try.infoRTok
                have e3 : ((i : Int) + n).toNat = i + n := by omega
                obtain ⟨i0, ti, tz0, tz1, tz2⟩ := info_parts Try.infoRTok
                have HNEB := Lib.hid (show u5.ownBlock ≠ some (w.heap.size + 1) from fun h => by have := (HO.out.lt _ h).1; omega)
                go_region_held3 (fun w' => w'.cell? ⟨w.heap.size + 1, 0, none⟩ = some (.int .i64 ln) ∧ w'.cell? ⟨w.heap.size + 1, 1, none⟩ = some (.int .i64 co))
                  (first
                    | exact ⟨a0, a1⟩
                    | exact ⟨(HBa.out.alloc _).cell 0, (HBa.out.alloc _).cell 1⟩
                    | exact ⟨QB.out.cell 0, QB.out.cell 1⟩)
                  (first
                    | (refine step_append_lies _ (by rfl) _ _ _ (by rfl) (w.heap.size + 2) 34 i0 _ 4 40 Try.underlying29 ti tz0 tz1 tz2 (by rfl) (by omega) u5 toks.length (rtoksCells toks) (by rfl) (by exact (HO.out.alloc _).drew) ⟨wr.heap.size, 0, none⟩ 1 1 [.int .i64 kd, .string (s.extract i (i + n)), .int .i64 ln, .int .i64 co] (by rfl) (by rfl) (by exact World.news_of_block (cs := #[.int .i64 kd, .string (s.extract i (i + n)), .int .i64 ln, .int .i64 co]) (t := 34) (fr := (0, 0)) (heap_alloc_new wr _)) (by simp [Value.oneCell']) (by omega) (by unfold maxLen; omega) (by omega) (by simp; omega) (wr.heap.size + 1) (by simp) ?_
                       intro gg cap w2 hown2 hgrow hat hlt2
                       have HO2 := Lib.hid hown2
                       have HG2 := Lib.hid hgrow
                       have QB := Lib.hid (show Blk w2 (w.heap.size + 1) 25 #[.int .i64 ln, .int .i64 co] from ((HBa.out.alloc _).drew).grown hgrow (Ne.symm HNEB.out))
                       clear hown2 hgrow hat hlt2))
                clear ti tz0 tz1 tz2 e3 a0 a1 fa0 fa1
                have c0 : w2.cell? ⟨w.heap.size + 1, 0, none⟩ = some (.int .i64 ln) := QB.out.cell 0
                have c1 : w2.cell? ⟨w.heap.size + 1, 1, none⟩ = some (.int .i64 co) := QB.out.cell 1
                have fc1 : w2.frozen? ⟨w.heap.size + 1, 1, none⟩ = false := QB.out.frozen 1
                go_wp2_with fail
                have HF := rrel_tok (n := n) hin hn0 htk hln hco HM.out HO.out HBp.out HBa.out HL.out hsz _ HSP.out (only_drew (World.grownBy_alloc _ _ _)) HG2.out
                  (by have h := HO2.out; rw [mk_of_bytes _ _ HU.out] at h; simpa [rtoksCells, rtokCells] using h) ((i : Int) + n) (by omega)
                go_roundg (s.size - (i + n))
                case measure => exact HF.2
                case rel =>
                  rw [QB.out.setCell_eq, HV.out]
                  exact HF.1
              · have her' : ((er : Int) != 0) = true := by rw [bne_iff_ne]; omega
                have HF2 := Lib.hid (show lexRes s.data.toList = .error (ln, co, er) by
                  have h := HS2.out
                  rw [HK.out] at h
                  rw [HR.out, HM.out, h her]; rfl)
                clear her
                go_wp2_with fail
                go_region
                go_wp2_with fail
                refine bodyPost_ret (v := .tuple #[.slice none 0 0, .agg #[.int .i64 ln, .int .i64 co], .int .i64 er]) (by simp [results, Try.results12, go_sem, p0, p1]) rfl ?_
                exact rpost_err s w _ ln co er HF2.out (((HL.out.setCell (Nat.le_refl _) _).setCell (Nat.le_refl _) _).drew)
        -- DEV}
      have hru' : inRun s[i] = false := by simpa using hru
      by_cases hsy : isSym s[i] = true
      · have HSP := Lib.hid (show split (s.data.toList.drop i) (ln, co) = pre [⟨3, [s[i]], ln, co⟩] (split (s.data.toList.drop (i + 1)) (ln, co + 1)) by
          rw [HRC.out, split_sym _ _ _ hsy]
          unfold step1
          rw [if_neg (by simpa using h10)])
        have HV := Lib.hid (show (co : Int) + ((i : Int) + 1) - i = ((co + 1 : Nat) : Int) by omega)
        have b0 : (0 : Int) ≤ i := by omega
        have b1 : (i : Int) ≤ (i : Int) + 1 := by omega
        have b2 : (i : Int) + 1 ≤ s.size := by omega
        have HU := Lib.hid (show (s.extract i (i + 1)).data.toList = [s[i]] by
          rw [Lib.extract_data, HRC.out]; simp)
        clear hru h35 h10
        go_wp2_with (first | (go_at_call 38; refine (inRun_any _ _).mono ?_; rintro e w' ⟨rfl, rfl⟩) | (go_at_call 40; refine (within_sym _ _).mono ?_; rintro e w' ⟨rfl, rfl⟩))
        have e3 : ((i : Int) + 1).toNat = i + 1 := by omega
        obtain ⟨i0, ti, tz0, tz1, tz2⟩ := info_parts Try.infoRTok
        have HNEB := Lib.hid (show u5.ownBlock ≠ some (w.heap.size + 1) from fun h => by have := (HO.out.lt _ h).1; omega)
        go_region_held3 (fun w' => w'.cell? ⟨w.heap.size + 1, 0, none⟩ = some (.int .i64 ln) ∧ w'.cell? ⟨w.heap.size + 1, 1, none⟩ = some (.int .i64 co))
          (first
            | exact ⟨a0, a1⟩
            | exact ⟨(HBa.out.alloc _).cell 0, (HBa.out.alloc _).cell 1⟩
            | exact ⟨QB.out.cell 0, QB.out.cell 1⟩)
          (first
            | (refine step_append_lies _ (by rfl) _ _ _ (by rfl) (w.heap.size + 2) 34 i0 _ 4 40 Try.underlying29 ti tz0 tz1 tz2 (by rfl) (by omega) u5 toks.length (rtoksCells toks) (by rfl) (by exact (HO.out.alloc _).drew) ⟨wr.heap.size, 0, none⟩ 1 1 [.int .i64 3, .string (s.extract i (i + 1)), .int .i64 ln, .int .i64 co] (by rfl) (by rfl) (by exact World.news_of_block (cs := #[.int .i64 3, .string (s.extract i (i + 1)), .int .i64 ln, .int .i64 co]) (t := 34) (fr := (0, 0)) (heap_alloc_new wr _)) (by simp [Value.oneCell']) (by omega) (by unfold maxLen; omega) (by omega) (by simp; omega) (wr.heap.size + 1) (by simp) ?_
               intro gg cap w2 hown2 hgrow hat hlt2
               have HO2 := Lib.hid hown2
               have HG2 := Lib.hid hgrow
               have QB := Lib.hid (show Blk w2 (w.heap.size + 1) 25 #[.int .i64 ln, .int .i64 co] from ((HBa.out.alloc _).drew).grown hgrow (Ne.symm HNEB.out))
               clear hown2 hgrow hat hlt2))
        clear ti tz0 tz1 tz2 e3 a0 a1 fa0 fa1
        have c0 : w2.cell? ⟨w.heap.size + 1, 0, none⟩ = some (.int .i64 ln) := QB.out.cell 0
        have c1 : w2.cell? ⟨w.heap.size + 1, 1, none⟩ = some (.int .i64 co) := QB.out.cell 1
        have fc1 : w2.frozen? ⟨w.heap.size + 1, 1, none⟩ = false := QB.out.frozen 1
        go_wp2_with fail
        have HF := rrel_tok (n := 1) (by omega) (by omega) htk hln hco HM.out HO.out HBp.out HBa.out HL.out hsz _ HSP.out (only_drew (World.grownBy_alloc _ _ _)) HG2.out
          (by have h := HO2.out; rw [mk_of_bytes _ _ HU.out] at h; simpa [rtoksCells, rtokCells] using h) ((i : Int) + 1) (by omega)
        go_roundg (s.size - (i + 1))
        case measure => exact HF.2
        case rel =>
          rw [QB.out.setCell_eq, HV.out]
          exact HF.1
      have hsy' : isSym s[i] = false := by simpa using hsy
      have HF := Lib.hid (show lexRes s.data.toList = .error (ln, co, 3) by
        rw [HR.out, HM.out, HRC.out, split_bad _ _ _ HNB.out hsy' hru' h35]; rfl)
      clear hsy hru h35 h10
      go_wp2_with (first | (go_at_call 38; refine (inRun_any _ _).mono ?_; rintro e w' ⟨rfl, rfl⟩) | (go_at_call 40; refine (within_sym _ _).mono ?_; rintro e w' ⟨rfl, rfl⟩))
      go_region
      go_wp2_with fail
      refine bodyPost_ret (v := .tuple #[.slice none 0 0, .agg #[.int .i64 ln, .int .i64 co], .int .i64 3]) (by simp [results, Try.results12, go_sem, p0, p1]) rfl ?_
      exact rpost_err s w _ ln co 3 HF.out (((HL.out.setCell (Nat.le_refl _) _).setCell (Nat.le_refl _) _).drew)
    · go_wp2_with fail
      have HF := Lib.hid (show lexRes s.data.toList = .ok toks by
        rw [HR.out, HM.out, List.drop_eq_nil_of_le (by simp; omega), split_nil]; simp [pre])
      refine bodyPost_ret (v := .tuple #[u5, .agg #[.int .i64 0, .int .i64 0], .int .i64 0]) (by simp [results, Try.results12, go_sem, p0, p1]) rfl ?_
      rw [HBp.out.setCell_eq, (HBp.out.put _).setCell_eq, putB_putB]
      exact rpost_ok s w _ toks u5 HF.out (HL.out.trans (putB_below _ _ _ _ (Nat.le_refl _))) (own_putB HO.out (by omega) _ _)

theorem rsplit_any (s : ByteArray) (w : World) (hs : s.size ≤ maxLen) : Calls Try.prog 12 #[.string s] w (RSplitPost s.data.toList w) := by
  by_cases h : s.size ≤ 65536
  · exact rsplit_small s w h
  · unfold maxLen at hs
    have HF := Lib.hid (show lexRes s.data.toList = .error (0, 0, 5) by unfold lexRes; rw [if_pos (by rw [length_data]; omega)])
    have hd : decide ((65536 : Int) < s.size) = true := by simp; omega
    go_enter Try.func12, Try.ntmps12
    go_wp2_with fail
    refine bodyPost_ret (v := .tuple #[.slice none 0 0, .agg #[.int .i64 0, .int .i64 0], .int .i64 5]) (by simp [results, Try.results12, go_sem]) rfl ?_
    exact rpost_err s w _ 0 0 5 HF.out ((Below.refl _ _).alloc (Nat.le_refl _) _)
end Go.Proofs.Ytgneahnjdoffdaa
