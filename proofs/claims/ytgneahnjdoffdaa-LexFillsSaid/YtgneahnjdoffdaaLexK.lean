/-
  lex.Join, the reference's Join, and the walk of LexJoins.
-/
import Derived.Test.YtgneahnjdoffdaaLexJ
namespace Go.Proofs.Ytgneahnjdoffdaa
open Go.RowKit Go.Fl Go.Fl.Lx

theorem join_snoc (xs : List (List UInt8)) (x : List UInt8) (h : xs ≠ []) : Lib.join (xs ++ [x]) [32] = Lib.join xs [32] ++ [32] ++ x := by
  cases xs with
  | nil => exact absurd rfl h
  | cons y r =>
    rw [List.cons_append, Lib.join_cons, Lib.join_cons]
    simp [Lib.joinTail]
theorem join_len (xs : List (List UInt8)) (h : ∀ x ∈ xs, x.length ≤ 60) : (Lib.join xs [32]).length ≤ 61 * xs.length := by
  cases xs with
  | nil => simp [Lib.join_nil]
  | cons y r =>
    rw [Lib.join_cons, List.length_append]
    have h1 := h y (by simp)
    have h2 : (Lib.joinTail [32] r).length ≤ 61 * r.length := by
      have hr : ∀ x ∈ r, x.length ≤ 60 := fun x hx => h x (by simp [hx])
      clear h h1
      induction r with
      | nil => simp [Lib.joinTail]
      | cons z r ih =>
        have e : Lib.joinTail [32] (z :: r) = [32] ++ z ++ Lib.joinTail [32] r := by simp [Lib.joinTail]
        rw [e, List.length_append, List.length_append]
        have := hr z (by simp)
        have := ih (fun x hx => hr x (by simp [hx]))
        simp; omega
    simp; omega

def texts (ts : List TI) : List (List UInt8) := ts.map TI.text
/-- The joined text of tokens; empty where one is not valid. -/
def joinP (ts : List TI) : List UInt8 := if ts.any badP then [] else Lib.join (texts ts) [32]
theorem short_len (ts : List TI) (h : shortB ts = true) : ts.length ≤ 80 ∧ ∀ t ∈ ts, t.text.length ≤ 60 := by
  unfold shortB at h
  simp only [Bool.and_eq_true, decide_eq_true_eq, Bool.not_eq_true'] at h
  refine ⟨h.1, fun t ht => ?_⟩
  have h2 := List.any_eq_false.1 h.2 t ht
  unfold longP at h2
  simp at h2
  omega
theorem joinP_len (ts : List TI) (h1 : ts.length ≤ 80) (h2 : ∀ t ∈ ts, t.text.length ≤ 60) (k : Nat) : (Lib.join (texts (ts.take k)) [32]).length ≤ 4880 := by
  have h := join_len (texts (ts.take k)) (fun x hx => by
    unfold texts at hx
    obtain ⟨t, ht, rfl⟩ := List.mem_map.1 hx
    exact h2 t (List.mem_of_mem_take ht))
  simp [texts] at h
  have : min k ts.length ≤ 80 := by omega
  simp [texts]
  omega
theorem texts_snoc (ts : List TI) (t : TI) : texts (ts ++ [t]) = texts ts ++ [t.text] := by simp [texts]

theorem Try.infoStr : (Try.prog.info? 9).map (fun i => (i.zero, i.size, i.bytes)) = some (some (.string ⟨#[]⟩), 1, 16) := by kernel_rfl

def strs (ts : List TI) : List Value := ts.map fun t => .string ⟨t.text.toArray⟩
def JoinRel (w : World) (ts : List TI) (k : Nat) (ov iv : Value) (wr : World) : Prop :=
  ∃ j : Nat, iv = .int .i64 j ∧ j ≤ ts.length ∧ k = ts.length - j ∧ Hid ((ts.take j).any badP = false) ∧ Hid (wr.ownsRow w.heap.size 9 1 ov j (strs (ts.take j))) ∧ Hid (Below w.heap.size w wr)
def JoinPost (w : World) (ts : List TI) (e : Ending) (w' : World) : Prop :=
  ∃ s : ByteArray, e = .returned (.string s) ∧ Hid (s.data.toList = joinP ts) ∧ Hid (Below w.heap.size w w')

set_option maxHeartbeats 800000 in
theorem join_any (A : Option Addr) (n ca : Nat) (ts : List TI) (w : World) (hn : n = ts.length) (ha : Rd w 4 A n (tiCells ts)) (hm : n ≤ 80) (hl : ∀ t ∈ ts, t.text.length ≤ 60) :
    Calls Try.prog 29 #[.slice A n ca] w (JoinPost w ts) := by
  have HN := Lib.hid hn
  have HA := Lib.hid ha
  have HT := Lib.hid hl
  clear hn ha hl
  go_enter Try.func29, Try.ntmps29
  go_wp2_with fail
  go_loopg [3, 8] n (fun k ov iv wr => JoinRel w ts k ov iv wr)
  case atStart => exact ⟨0, rfl, by omega, by rw [HN.out]; rfl, by unfold Hid; simp, World.ownsRow_nil _ _ _ _, Below.refl _ _⟩
  case round =>
    obtain ⟨j, rfl, hj, rfl, HF, HO, HL⟩ := hrel
    rw [← HN.out] at hj
    by_cases hlt : j < n
    · obtain ⟨b, o, hA, hbl, hca⟩ := HA.out.at_ (by omega)
      subst hA
      obtain ⟨t, ht⟩ : ∃ t, ts[j]? = some t := ⟨_, List.getElem?_eq_getElem (by rw [← HN.out]; exact hlt)⟩
      have x0 : wr.cell? ⟨b, o + j * 4, none⟩ = some (.int .i64 t.kind) := (HL.out.cell (p := ⟨b, _, none⟩) hbl).trans (hca (j * 4 + 0) _ (ti_at ts j t ht 0 (by omega)))
      have x1 : wr.cell? ⟨b, o + j * 4 + 1, none⟩ = some (.string ⟨t.text.toArray⟩) := (HL.out.cell (p := ⟨b, _, none⟩) hbl).trans (hca (j * 4 + 1) _ (ti_at ts j t ht 1 (by omega)))
      have x2 : wr.cell? ⟨b, o + j * 4 + 2, none⟩ = some (.int .i64 t.line) := (HL.out.cell (p := ⟨b, _, none⟩) hbl).trans (hca (j * 4 + 2) _ (ti_at ts j t ht 2 (by omega)))
      have x3 : wr.cell? ⟨b, o + j * 4 + 3, none⟩ = some (.int .i64 t.col) := (HL.out.cell (p := ⟨b, _, none⟩) hbl).trans (hca (j * 4 + 3) _ (ti_at ts j t ht 3 (by omega)))
      have HTK := Lib.hid (ti_take ts j t ht)
      have HME := Lib.hid (List.mem_of_getElem? ht)
      have HTL := Lib.hid (HT.out t HME.out)
      have hls := HL.out.size
      clear hca ht
      have hts : (⟨t.text.toArray⟩ : ByteArray).size ≤ maxLen := by
        have := HTL.out
        unfold maxLen
        simp [ByteArray.size]; omega
      by_cases hp : badP t = true
      · go_wp2_with fail
        refine (lvalid_any _ _ _ _ _ hts).mono ?_
        rintro e w2 ⟨rfl, hb2⟩
        rw [show validP t.kind (⟨t.text.toArray⟩ : ByteArray).data.toList = false by unfold badP at hp; simpa using hp]
        have HL2 := Lib.hid ((HL.out.alloc (by omega) (.cells #[.int .i64 t.kind, .string ⟨t.text.toArray⟩, .int .i64 t.line, .int .i64 t.col] 38)).trans (hb2.mono (by simp; omega)))
        clear hb2
        go_wp2_with fail
        go_ret
        refine ⟨_, rfl, ?_, HL2.out⟩
        unfold Hid joinP
        rw [if_pos (List.any_eq_true.2 ⟨t, HME.out, hp⟩)]
      · have hp' : badP t = false := by simpa using hp
        go_wp2_with fail
        refine (lvalid_any _ _ _ _ _ hts).mono ?_
        rintro e w2 ⟨rfl, hb2⟩
        rw [show validP t.kind (⟨t.text.toArray⟩ : ByteArray).data.toList = true by unfold badP at hp'; simpa using hp']
        have HL2 := Lib.hid ((HL.out.alloc (by omega) (.cells #[.int .i64 t.kind, .string ⟨t.text.toArray⟩, .int .i64 t.line, .int .i64 t.col] 38)).trans (hb2.mono (by simp; omega)))
        have HO2 := Lib.hid (own_below (HO.out.alloc _) hb2)
        have HBK := Lib.hid ((Blk.new wr 38 #[.int .i64 t.kind, .string ⟨t.text.toArray⟩, .int .i64 t.line, .int .i64 t.col]).below hb2 (by simp))
        have hls2 := hb2.size
        simp at hls2
        have z1 : w2.cell? ⟨wr.heap.size, 1, none⟩ = some (.string ⟨t.text.toArray⟩) := HBK.out.cell 1
        clear hb2
        obtain ⟨i0, ti, tz0, tz1, tz2⟩ := info_parts Try.infoStr
        go_wp2_with (at_builtin; refine wpList_append_lies _ rfl _ _ _ rfl w.heap.size 9 i0 _ 1 16 Try.underlying46 ti tz0 tz1 tz2 rfl (by omega) u3 j (strs (ts.take j)) rfl (by exact HO2.out.alloc _) ⟨w2.heap.size, 0, none⟩ 1 1 [.string ⟨t.text.toArray⟩] rfl rfl (by exact World.news_of_block (cs := #[.string ⟨t.text.toArray⟩]) (t := 9) (fr := (0, 0)) (by have := heap_alloc_new w2 (.cells #[.string ⟨t.text.toArray⟩] 9); simpa using this)) (by simp [Value.oneCell']) (by omega) (by unfold maxLen; omega) (by omega) (by simp; omega) (w2.heap.size + 1) (by simp) ?_)
        intro g cap w3 hown hgrow hat hlt2
        have HO3 := Lib.hid hown
        have HL3 := Lib.hid (show Below w.heap.size w w3 from (HL2.out.alloc (by omega) _).grown hgrow (by simp; omega) (fun k hk => (HO.out.lt k hk).1))
        clear hown hgrow hat hlt2 ti tz0 tz1 tz2
        go_wp2_with fail
        go_roundg (ts.length - (j + 1))
        case measure => rw [← HN.out]; omega
        case rel =>
          refine ⟨j + 1, by go_num, by rw [← HN.out]; omega, rfl, ?_, ?_, HL3.out⟩
          · unfold Hid
            rw [HTK.out, List.any_append, HF.out]
            simp [hp']
          · have := HO3.out
            unfold Hid
            rw [HTK.out]
            simpa [strs] using this
    · have hjn : j = n := by omega
      subst hjn
      have HF' := Lib.hid (show ts.any badP = false by have := HF.out; rwa [HN.out, List.take_length] at this)
      obtain ⟨A2, c2, hu, hrd, hnc, _⟩ := Rd.of_own HO.out
      subst hu
      rw [HN.out, List.take_length] at hrd
      clear HO HF
      by_cases h0 : j = 0
      · subst h0
        go_wp2_with fail
        refine (Try.strings_Join_none _ _ _ _).mono ?_
        rintro e w2 ⟨rfl, rfl⟩
        go_wp2_with fail
        go_ret
        refine ⟨_, rfl, ?_, HL.out⟩
        have : ts = [] := List.eq_nil_of_length_eq_zero HN.out.symm
        subst this
        rfl
      · rw [← HN.out] at hrd
        obtain ⟨bk, o, hA, hbk, hcs⟩ := hrd.at_ (by omega)
        subst hA
        have HJL := Lib.hid (joinP_len ts (by rw [← HN.out]; omega) HT.out ts.length)
        rw [List.take_length] at HJL
        have HCS := Lib.hid hcs
        clear hrd hcs
        obtain ⟨xs, hxs⟩ : ∃ xs : List ByteArray, xs = ts.map fun t => ⟨t.text.toArray⟩ := ⟨_, rfl⟩
        have hxl : xs.length = j := by rw [hxs, HN.out]; simp
        have hxt : xs.map (·.data.toList) = texts ts := by rw [hxs]; simp [texts]
        have HCX := Lib.hid (show ∀ (j : Nat) x, xs[j]? = some x → wr.cell? ⟨bk, o + j, none⟩ = some (.string x) by
          intro j x hx
          refine HCS.out j _ ?_
          rw [hxs] at hx
          simp [strs] at hx ⊢
          obtain ⟨t, ht, rfl⟩ := hx
          exact ⟨t, ht, rfl⟩)
        have HXT := Lib.hid hxt
        have HXL := Lib.hid hxl
        clear hxs hxt hxl
        go_wp2_with fail
        have hcall := Try.strings_Join bk o c2 xs ⟨#[32]⟩ wr HCX.out hbk (by rw [HXL.out]; omega) (by rw [HXL.out]; omega) (by rw [HXT.out]; have := HJL.out; show (Lib.join (texts ts) [32]).length ≤ _; omega)
        rw [HXL.out] at hcall
        refine hcall.mono ?_
        rintro e w2 ⟨rfl, hb2⟩
        have HL2 := Lib.hid (HL.out.trans (hb2.mono HL.out.size))
        clear hb2 hcall
        generalize hsx : (⟨(Lib.join (xs.map (·.data.toList)) (⟨#[32]⟩ : ByteArray).data.toList).toArray⟩ : ByteArray) = sx
        have HSX := Lib.hid (show sx.data.toList = joinP ts by
          rw [← hsx]; unfold joinP; rw [HF'.out, HXT.out]; rfl)
        clear hsx
        go_wp2_with fail
        go_ret
        exact ⟨_, rfl, HSX.out, HL2.out⟩

def RJoinRel (w : World) (ts : List TI) (k : Nat) (sv iv : Value) (wr : World) : Prop :=
  ∃ (j : Nat) (s : ByteArray), iv = .int .i64 j ∧ sv = .string s ∧ j ≤ ts.length ∧ k = ts.length - j ∧ s.size ≤ 4880 ∧ Hid ((ts.take j).any badP = false) ∧ Hid (s.data.toList = Lib.join (texts (ts.take j)) [32]) ∧ Hid (Below w.heap.size w wr)

set_option maxHeartbeats 800000 in
theorem rjoin_any (A : Option Addr) (n ca : Nat) (ts : List TI) (w : World) (hn : n = ts.length) (ha : Rd w 4 A n (tiCells ts)) (hm : n ≤ 80) (hl : ∀ t ∈ ts, t.text.length ≤ 60) :
    Calls Try.prog 30 #[.slice A n ca] w (JoinPost w ts) := by
  have HN := Lib.hid hn
  have HA := Lib.hid ha
  have HT := Lib.hid hl
  clear hn ha hl
  go_enter Try.func30, Try.ntmps30
  go_wp2_with fail
  go_loopg [3, 4] n (fun k sv iv wr => RJoinRel w ts k sv iv wr)
  case atStart => exact ⟨0, ⟨#[]⟩, rfl, rfl, by omega, by rw [HN.out]; rfl, by simp [ByteArray.size], by unfold Hid; simp, rfl, Below.refl _ _⟩
  case round =>
    obtain ⟨j, s, rfl, rfl, hj, rfl, hss, HF, HS, HL⟩ := hrel
    rw [← HN.out] at hj
    by_cases hlt : j < n
    · obtain ⟨b, o, hA, hbl, hca⟩ := HA.out.at_ (by omega)
      subst hA
      obtain ⟨t, ht⟩ : ∃ t, ts[j]? = some t := ⟨_, List.getElem?_eq_getElem (by rw [← HN.out]; exact hlt)⟩
      have x0 : wr.cell? ⟨b, o + j * 4, none⟩ = some (.int .i64 t.kind) := (HL.out.cell (p := ⟨b, _, none⟩) hbl).trans (hca (j * 4 + 0) _ (ti_at ts j t ht 0 (by omega)))
      have x1 : wr.cell? ⟨b, o + j * 4 + 1, none⟩ = some (.string ⟨t.text.toArray⟩) := (HL.out.cell (p := ⟨b, _, none⟩) hbl).trans (hca (j * 4 + 1) _ (ti_at ts j t ht 1 (by omega)))
      have x2 : wr.cell? ⟨b, o + j * 4 + 2, none⟩ = some (.int .i64 t.line) := (HL.out.cell (p := ⟨b, _, none⟩) hbl).trans (hca (j * 4 + 2) _ (ti_at ts j t ht 2 (by omega)))
      have x3 : wr.cell? ⟨b, o + j * 4 + 3, none⟩ = some (.int .i64 t.col) := (HL.out.cell (p := ⟨b, _, none⟩) hbl).trans (hca (j * 4 + 3) _ (ti_at ts j t ht 3 (by omega)))
      have HTK := Lib.hid (ti_take ts j t ht)
      have HME := Lib.hid (List.mem_of_getElem? ht)
      have HTL := Lib.hid (HT.out t HME.out)
      have HJ1 := Lib.hid (joinP_len ts (by rw [← HN.out]; omega) HT.out (j + 1))
      have hls := HL.out.size
      have hbr : b < wr.heap.size := by omega
      have HX1 := Lib.hid x1
      have HX := Lib.hid ((HL.out.cell (p := ⟨b, o + j * 4 + 1, none⟩) hbl).trans (hca (j * 4 + 1) _ (ti_at ts j t ht 1 (by omega))))
      have b0 : (0 : Int) ≤ j := by omega
      have b1 : (j : Int) < n := by omega
      clear hca ht
      have hts : (⟨t.text.toArray⟩ : ByteArray).size ≤ maxLen := by
        have := HTL.out
        unfold maxLen
        simp [ByteArray.size]; omega
      by_cases hp : badP t = true
      · go_wp2_with fail
        refine (rvalid_any _ _ _ _ _ hts).mono ?_
        rintro e w2 ⟨rfl, hb2⟩
        rw [show validP t.kind (⟨t.text.toArray⟩ : ByteArray).data.toList = false by unfold badP at hp; simpa using hp]
        have HL2 := Lib.hid (HL.out.trans (hb2.mono (by omega)))
        clear hb2
        go_wp2_with fail
        go_ret
        refine ⟨_, rfl, ?_, HL2.out⟩
        unfold Hid joinP
        rw [if_pos (List.any_eq_true.2 ⟨t, HME.out, hp⟩)]
      · have hp' : badP t = false := by simpa using hp
        by_cases h0 : j = 0
        · subst h0
          simp only [Nat.zero_mul, Nat.add_zero] at x0 x1 x2 x3
          go_wp2_with fail
          refine (rvalid_any _ _ _ _ _ hts).mono ?_
          rintro e w2 ⟨rfl, hb2⟩
          rw [show validP t.kind (⟨t.text.toArray⟩ : ByteArray).data.toList = true by unfold badP at hp'; simpa using hp']
          have HL2 := Lib.hid (HL.out.trans (hb2.mono (by omega)))
          have z1 : w2.cell? ⟨b, o + 1, none⟩ = some (.string ⟨t.text.toArray⟩) := by
            have := (hb2.cell (p := ⟨b, o + 0 * 4 + 1, none⟩) hbr).trans HX1.out
            simpa using this
          clear hb2
          obtain ⟨tb, htb⟩ : ∃ tb : ByteArray, tb = ⟨t.text.toArray⟩ := ⟨_, rfl⟩
          rw [← htb] at z1
          have htbs : tb.size ≤ 60 := by rw [htb]; simpa [ByteArray.size] using HTL.out
          have HTB := Lib.hid (show tb.data.toList = t.text by rw [htb])
          clear htb
          go_wp2_with fail
          go_roundg (ts.length - 1)
          case measure => rw [← HN.out]; omega
          case rel =>
            refine ⟨1, _, rfl, rfl, by rw [← HN.out]; omega, rfl, ?_, ?_, ?_, HL2.out⟩
            · have : (s ++ tb).size = s.size + tb.size := ByteArray.size_append
              have hs0 : s.size = 0 := by
                have := congrArg List.length HS.out
                rw [length_data] at this
                simpa [texts, Lib.join_nil] using this
              omega
            · unfold Hid
              rw [HTK.out, List.any_append, HF.out]
              simp [hp']
            · unfold Hid
              rw [HTK.out, texts_snoc, ByteArray.data_append, Array.toList_append, HS.out, HTB.out]
              simp [texts, Lib.join_nil, Lib.join_one]
        · have h0d : ((0 : Int) < j) := by omega
          go_wp2_with fail
          refine (rvalid_any _ _ _ _ _ hts).mono ?_
          rintro e w2 ⟨rfl, hb2⟩
          rw [show validP t.kind (⟨t.text.toArray⟩ : ByteArray).data.toList = true by unfold badP at hp'; simpa using hp']
          have HL2 := Lib.hid (HL.out.trans (hb2.mono (by omega)))
          have z1 : w2.cell? ⟨b, o + j * 4 + 1, none⟩ = some (.string ⟨t.text.toArray⟩) := (hb2.cell (p := ⟨b, o + j * 4 + 1, none⟩) hbr).trans HX1.out
          clear hb2
          obtain ⟨tb, htb⟩ : ∃ tb : ByteArray, tb = ⟨t.text.toArray⟩ := ⟨_, rfl⟩
          rw [← htb] at z1
          have htbs : tb.size ≤ 60 := by rw [htb]; simpa [ByteArray.size] using HTL.out
          have HTB := Lib.hid (show tb.data.toList = t.text by rw [htb])
          have HNE := Lib.hid (show texts (ts.take j) ≠ [] by
            intro h
            have h2 : (texts (ts.take j)).length = min j ts.length := by simp [texts]
            rw [h, List.length_nil] at h2
            have := HN.out
            omega)
          have HSE := Lib.hid (show (s ++ ⟨#[32]⟩ ++ tb : ByteArray).data.toList = Lib.join (texts (ts.take (j + 1))) [32] by
            rw [HTK.out, texts_snoc, join_snoc _ _ HNE.out, ByteArray.data_append, Array.toList_append, ByteArray.data_append, Array.toList_append, HS.out, HTB.out])
          clear htb
          go_wp2_with fail
          go_roundg (ts.length - (j + 1))
          case measure => rw [← HN.out]; omega
          case rel =>
            refine ⟨j + 1, _, by go_num, rfl, by rw [← HN.out]; omega, rfl, ?_, ?_, HSE.out, HL2.out⟩
            · rw [← length_data, HSE.out]
              exact HJ1.out
            · unfold Hid
              rw [HTK.out, List.any_append, HF.out]
              simp [hp']
    · have hjn : j = n := by omega
      subst hjn
      go_wp2_with fail
      go_ret
      refine ⟨_, rfl, ?_, HL.out⟩
      have h1 := HF.out
      have h2 := HS.out
      rw [HN.out, List.take_length] at h1 h2
      unfold Hid joinP
      rw [h1]
      exact h2

set_option maxHeartbeats 800000 in
theorem lexJoins_any (A : Option Addr) (n ca : Nat) (ts : List TI) (w : World) (hn : ts.length = n) (hm : n ≤ maxLen) (hl : ∀ t ∈ ts, t.text.length ≤ maxLen) (ha : Rd w 4 A n (tiCells ts)) :
    Calls Try.prog 8 #[.slice A n ca] w fun e w' => e = .returned (.bool true) ∧ Below w.heap.size w w' := by
  have HA := Lib.hid ha
  have HT := Lib.hid hl
  have HN := Lib.hid hn
  clear ha hl hn
  by_cases hsh : shortB ts = false
  · go_enter Try.func8, Try.ntmps8
    go_wp2_with fail
    refine (awake_any _).mono ?_
    rintro e w1 ⟨rfl, hb1⟩
    have HB1 := Lib.hid hb1
    have sz1 := hb1.size
    clear hb1
    go_wp2_with fail
    refine (short_any A n ca ts _ HN.out hm HT.out (HA.out.below HB1.out)).mono ?_
    rw [hsh]
    rintro e w2 ⟨rfl, hb2⟩
    have HB2 := Lib.hid (HB1.out.trans (hb2.mono sz1))
    clear hb2
    go_wp2_with fail
    go_ret
    exact ⟨rfl, HB2.out⟩
  · have hsh' : shortB ts = true := by simpa using hsh
    obtain ⟨h80, h60⟩ := short_len ts hsh'
    have H60 := Lib.hid h60
    have hn80 : n ≤ 80 := by rw [← HN.out]; exact h80
    clear h60 h80 hsh
    go_enter Try.func8, Try.ntmps8
    go_wp2_with fail
    refine (awake_any _).mono ?_
    rintro e w1 ⟨rfl, hb1⟩
    have HB1 := Lib.hid hb1
    have sz1 := hb1.size
    clear hb1
    go_wp2_with fail
    refine (short_any A n ca ts _ HN.out hm HT.out (HA.out.below HB1.out)).mono ?_
    rw [hsh']
    rintro e w2 ⟨rfl, hb2⟩
    have HB2 := Lib.hid (HB1.out.trans (hb2.mono sz1))
    have sz2 := HB2.out.size
    clear hb2
    go_wp2_with fail
    refine (join_any A n ca ts _ HN.out.symm (HA.out.below HB2.out) hn80 H60.out).mono ?_
    rintro e w3 ⟨s, rfl, HS, HB3⟩
    have HB3' := Lib.hid (HB2.out.trans (HB3.out.mono sz2))
    have sz3 := HB3'.out.size
    go_wp2_with fail
    refine (given_ti A n ca ts _ HN.out.symm (HA.out.below HB3'.out) (by omega)).mono ?_
    rintro e w4 ⟨v, rfl, hown, hb4⟩
    obtain ⟨A4, c4, rfl, hrd4, _⟩ := Rd.of_own hown
    have HRD := Lib.hid hrd4
    have HB4 := Lib.hid (HB3'.out.trans (hb4.mono sz3))
    have sz4 := HB4.out.size
    clear hown hrd4 hb4
    go_wp2_with fail
    refine (rjoin_any A4 ts.length c4 ts _ rfl HRD.out (by rw [HN.out]; exact hn80) H60.out).mono ?_
    rintro e w5 ⟨s', rfl, HS', HB5⟩
    have HB5' := Lib.hid (HB4.out.trans (HB5.out.mono sz4))
    have hse : s = s' := by
      have h : s.data.toList = s'.data.toList := by rw [HS.out, HS'.out]
      cases s; cases s'
      simpa using h
    subst hse
    go_wp2_with fail
    go_ret
    exact ⟨ret_bool (by simp), HB5'.out⟩
end Go.Proofs.Ytgneahnjdoffdaa
