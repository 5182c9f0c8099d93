/-
  The law's examples.
-/
import Derived.Test.YtoogeihbhhcpaaaGreatDoorPkO
set_option linter.unusedVariables false
namespace Go.Proofs.YtoogeihbhhcpaaaGreatDoor
open Go.RowKit Go.Fl Go.Fl.Nm Go.Fl.Fm Go.Fl.Rt
set_option maxHeartbeats 4000000 in
set_option maxRecDepth 100000 in
theorem fAwake_any (w : World) (ht : RB w) : Calls Tryz.prog 5 #[] w (RetB (.bool true) w) := by
  have HT := Lib.hid ht
  clear ht
  have zX : bX.size ≤ maxLen := by decide
  have zY : bY.size ≤ maxLen := by decide
  go_enter Tryz.func5, Tryz.ntmps5
  go_wp2_with fail
  refine (v_any bX w).mono ?_
  rw [show (ndV bX).val = Value.agg #[.int .i64 2, .int .i64 0, .int .i64 0, .string ⟨#[120]⟩, .int .i64 0, .slice none 0 0] from rfl]
  rintro e w1 ⟨rfl, HB1⟩
  have F1t := Lib.hid (HT.out.belowW HB1.out)
  go_wp2_with fail
  refine (v_any bY w1).mono ?_
  rw [show (ndV bY).val = Value.agg #[.int .i64 2, .int .i64 0, .int .i64 0, .string ⟨#[121]⟩, .int .i64 0, .slice none 0 0] from rfl]
  rintro e w2 ⟨rfl, HB2⟩
  have F2t := Lib.hid (F1t.out.belowW HB2.out)
  have HL2 := Lib.hid (HB1.out.trans (HB2.out.mono HB1.out.size))
  go_wp2_with fail
  refine (num_any 1 3 w2).mono ?_
  rw [show (ndN 1 3).val = Value.agg #[.int .i64 1, .int .i64 1, .int .i64 3, .string ⟨#[]⟩, .int .i64 0, .slice none 0 0] from rfl]
  rintro e w3 ⟨rfl, HB3⟩
  have F3t := Lib.hid (F2t.out.belowW HB3.out)
  have HL3 := Lib.hid (HL2.out.trans (HB3.out.mono HL2.out.size))
  go_wp2_with fail
  refine (two_any 4 (eV bY) (eN 1 3) (ndV bY) (ndN 1 3) w3 (by decide) (in_V _ bY zY) (in_N _ 1 3 (by decide) (by decide))).mono ?_
  rintro e w4 ⟨z0, rfl, Hz0, HB4⟩
  have F4t := Lib.hid (F3t.out.belowW HB4.out)
  have HL4 := Lib.hid (HL3.out.trans (HB4.out.mono HL3.out.size))
  have F4z0 := Lib.hid (Hz0.out)
  go_wp2_with fail
  refine (two_any 4 (eV bX) (e2 4 (eV bY) (eN 1 3)) (ndV bX) (z0) w4 (by decide) (in_V _ bX zX) F4z0.out).mono ?_
  rintro e w5 ⟨z1, rfl, Hz1, HB5⟩
  have F5t := Lib.hid (F4t.out.belowW HB5.out)
  have F5z0 := Lib.hid (F4z0.out.belowW HB5.out)
  have HL5 := Lib.hid (HL4.out.trans (HB5.out.mono HL4.out.size))
  have F5z1 := Lib.hid (Hz1.out)
  go_wp2_with fail
  refine (v_any bX w5).mono ?_
  rw [show (ndV bX).val = Value.agg #[.int .i64 2, .int .i64 0, .int .i64 0, .string ⟨#[120]⟩, .int .i64 0, .slice none 0 0] from rfl]
  rintro e w6 ⟨rfl, HB6⟩
  have F6t := Lib.hid (F5t.out.belowW HB6.out)
  have F6z0 := Lib.hid (F5z0.out.belowW HB6.out)
  have F6z1 := Lib.hid (F5z1.out.belowW HB6.out)
  have HL6 := Lib.hid (HL5.out.trans (HB6.out.mono HL5.out.size))
  go_wp2_with fail
  refine (num_any 1 3 w6).mono ?_
  rw [show (ndN 1 3).val = Value.agg #[.int .i64 1, .int .i64 1, .int .i64 3, .string ⟨#[]⟩, .int .i64 0, .slice none 0 0] from rfl]
  rintro e w7 ⟨rfl, HB7⟩
  have F7t := Lib.hid (F6t.out.belowW HB7.out)
  have F7z0 := Lib.hid (F6z0.out.belowW HB7.out)
  have F7z1 := Lib.hid (F6z1.out.belowW HB7.out)
  have HL7 := Lib.hid (HL6.out.trans (HB7.out.mono HL6.out.size))
  go_wp2_with fail
  refine (two_any 5 (eV bX) (eN 1 3) (ndV bX) (ndN 1 3) w7 (by decide) (in_V _ bX zX) (in_N _ 1 3 (by decide) (by decide))).mono ?_
  rintro e w8 ⟨z2, rfl, Hz2, HB8⟩
  have F8t := Lib.hid (F7t.out.belowW HB8.out)
  have F8z0 := Lib.hid (F7z0.out.belowW HB8.out)
  have F8z1 := Lib.hid (F7z1.out.belowW HB8.out)
  have HL8 := Lib.hid (HL7.out.trans (HB8.out.mono HL7.out.size))
  have F8z2 := Lib.hid (Hz2.out)
  go_wp2_with fail
  refine (num_any 1 3 w8).mono ?_
  rw [show (ndN 1 3).val = Value.agg #[.int .i64 1, .int .i64 1, .int .i64 3, .string ⟨#[]⟩, .int .i64 0, .slice none 0 0] from rfl]
  rintro e w9 ⟨rfl, HB9⟩
  have F9t := Lib.hid (F8t.out.belowW HB9.out)
  have F9z0 := Lib.hid (F8z0.out.belowW HB9.out)
  have F9z1 := Lib.hid (F8z1.out.belowW HB9.out)
  have F9z2 := Lib.hid (F8z2.out.belowW HB9.out)
  have HL9 := Lib.hid (HL8.out.trans (HB9.out.mono HL8.out.size))
  go_wp2_with fail
  refine (v_any bX w9).mono ?_
  rw [show (ndV bX).val = Value.agg #[.int .i64 2, .int .i64 0, .int .i64 0, .string ⟨#[120]⟩, .int .i64 0, .slice none 0 0] from rfl]
  rintro e w10 ⟨rfl, HB10⟩
  have F10t := Lib.hid (F9t.out.belowW HB10.out)
  have F10z0 := Lib.hid (F9z0.out.belowW HB10.out)
  have F10z1 := Lib.hid (F9z1.out.belowW HB10.out)
  have F10z2 := Lib.hid (F9z2.out.belowW HB10.out)
  have HL10 := Lib.hid (HL9.out.trans (HB10.out.mono HL9.out.size))
  go_wp2_with fail
  refine (two_any 5 (eN 1 3) (eV bX) (ndN 1 3) (ndV bX) w10 (by decide) (in_N _ 1 3 (by decide) (by decide)) (in_V _ bX zX)).mono ?_
  rintro e w11 ⟨z3, rfl, Hz3, HB11⟩
  have F11t := Lib.hid (F10t.out.belowW HB11.out)
  have F11z0 := Lib.hid (F10z0.out.belowW HB11.out)
  have F11z1 := Lib.hid (F10z1.out.belowW HB11.out)
  have F11z2 := Lib.hid (F10z2.out.belowW HB11.out)
  have HL11 := Lib.hid (HL10.out.trans (HB11.out.mono HL10.out.size))
  have F11z3 := Lib.hid (Hz3.out)
  go_wp2_with fail
  refine (num_any 1 1 w11).mono ?_
  rw [show (ndN 1 1).val = Value.agg #[.int .i64 1, .int .i64 1, .int .i64 1, .string ⟨#[]⟩, .int .i64 0, .slice none 0 0] from rfl]
  rintro e w12 ⟨rfl, HB12⟩
  have F12t := Lib.hid (F11t.out.belowW HB12.out)
  have F12z0 := Lib.hid (F11z0.out.belowW HB12.out)
  have F12z1 := Lib.hid (F11z1.out.belowW HB12.out)
  have F12z2 := Lib.hid (F11z2.out.belowW HB12.out)
  have F12z3 := Lib.hid (F11z3.out.belowW HB12.out)
  have HL12 := Lib.hid (HL11.out.trans (HB12.out.mono HL11.out.size))
  go_wp2_with fail
  refine (num_any 3 1 w12).mono ?_
  rw [show (ndN 3 1).val = Value.agg #[.int .i64 1, .int .i64 3, .int .i64 1, .string ⟨#[]⟩, .int .i64 0, .slice none 0 0] from rfl]
  rintro e w13 ⟨rfl, HB13⟩
  have F13t := Lib.hid (F12t.out.belowW HB13.out)
  have F13z0 := Lib.hid (F12z0.out.belowW HB13.out)
  have F13z1 := Lib.hid (F12z1.out.belowW HB13.out)
  have F13z2 := Lib.hid (F12z2.out.belowW HB13.out)
  have F13z3 := Lib.hid (F12z3.out.belowW HB13.out)
  have HL13 := Lib.hid (HL12.out.trans (HB13.out.mono HL12.out.size))
  go_wp2_with fail
  refine (two_any 6 (eN 1 1) (eN 3 1) (ndN 1 1) (ndN 3 1) w13 (by decide) (in_N _ 1 1 (by decide) (by decide)) (in_N _ 3 1 (by decide) (by decide))).mono ?_
  rintro e w14 ⟨z4, rfl, Hz4, HB14⟩
  have F14t := Lib.hid (F13t.out.belowW HB14.out)
  have F14z0 := Lib.hid (F13z0.out.belowW HB14.out)
  have F14z1 := Lib.hid (F13z1.out.belowW HB14.out)
  have F14z2 := Lib.hid (F13z2.out.belowW HB14.out)
  have F14z3 := Lib.hid (F13z3.out.belowW HB14.out)
  have HL14 := Lib.hid (HL13.out.trans (HB14.out.mono HL13.out.size))
  have F14z4 := Lib.hid (Hz4.out)
  go_wp2_with fail
  refine (num_any 2 1 w14).mono ?_
  rw [show (ndN 2 1).val = Value.agg #[.int .i64 1, .int .i64 2, .int .i64 1, .string ⟨#[]⟩, .int .i64 0, .slice none 0 0] from rfl]
  rintro e w15 ⟨rfl, HB15⟩
  have F15t := Lib.hid (F14t.out.belowW HB15.out)
  have F15z0 := Lib.hid (F14z0.out.belowW HB15.out)
  have F15z1 := Lib.hid (F14z1.out.belowW HB15.out)
  have F15z2 := Lib.hid (F14z2.out.belowW HB15.out)
  have F15z3 := Lib.hid (F14z3.out.belowW HB15.out)
  have F15z4 := Lib.hid (F14z4.out.belowW HB15.out)
  have HL15 := Lib.hid (HL14.out.trans (HB15.out.mono HL14.out.size))
  go_wp2_with fail
  obtain ⟨w16, hw⟩ : ∃ z9 : World, z9 = w15.alloc (.cells #[.int .i64 1, .int .i64 2, .int .i64 1, .string ⟨#[]⟩, .int .i64 0, .slice none 0 0] 51) := ⟨_, rfl⟩
  have HB16 := Lib.hid (show Below w15.heap.size w15 w16 by rw [hw]; exact below_box _ _)
  have Gz5 := Lib.hid (show InE w16 (e1 7 0 (eN 2 1)) ⟨⟨7, 0, 0, ⟨#[]⟩, 0⟩, some ⟨w15.heap.size, 0, none⟩, 1, 1⟩ by rw [hw]; exact in_new1 w15 7 0 (eN 2 1) (ndN 2 1) 51 (by decide) (by decide) (in_N _ 2 1 (by decide) (by decide)))
  have hszz5 : w16.heap.size = w15.heap.size + 1 := by rw [hw]; exact World.size_alloc _ _
  rw [← hw]
  clear hw
  have F16t := Lib.hid (F15t.out.belowW HB16.out)
  have F16z0 := Lib.hid (F15z0.out.belowW HB16.out)
  have F16z1 := Lib.hid (F15z1.out.belowW HB16.out)
  have F16z2 := Lib.hid (F15z2.out.belowW HB16.out)
  have F16z3 := Lib.hid (F15z3.out.belowW HB16.out)
  have F16z4 := Lib.hid (F15z4.out.belowW HB16.out)
  have HL16 := Lib.hid (HL15.out.trans (HB16.out.mono HL15.out.size))
  refine (num_any (-2) 1 w16).mono ?_
  rw [show (ndN (-2) 1).val = Value.agg #[.int .i64 1, .int .i64 (-2), .int .i64 1, .string ⟨#[]⟩, .int .i64 0, .slice none 0 0] from rfl]
  rintro e w17 ⟨rfl, HB17⟩
  have F17t := Lib.hid (F16t.out.belowW HB17.out)
  have F17z0 := Lib.hid (F16z0.out.belowW HB17.out)
  have F17z1 := Lib.hid (F16z1.out.belowW HB17.out)
  have F17z2 := Lib.hid (F16z2.out.belowW HB17.out)
  have F17z3 := Lib.hid (F16z3.out.belowW HB17.out)
  have F17z4 := Lib.hid (F16z4.out.belowW HB17.out)
  have F17z5 := Lib.hid (Gz5.out.belowW HB17.out)
  have HL17 := Lib.hid (HL16.out.trans (HB17.out.mono HL16.out.size))
  go_wp2_with fail
  obtain ⟨w18, hw⟩ : ∃ z9 : World, z9 = w17.alloc (.cells #[.int .i64 1, .int .i64 (-2), .int .i64 1, .string ⟨#[]⟩, .int .i64 0, .slice none 0 0] 51) := ⟨_, rfl⟩
  have HB18 := Lib.hid (show Below w17.heap.size w17 w18 by rw [hw]; exact below_box _ _)
  have Gz6 := Lib.hid (show InE w18 (e1 8 3 (eN (-2) 1)) ⟨⟨8, 0, 0, ⟨#[]⟩, 3⟩, some ⟨w17.heap.size, 0, none⟩, 1, 1⟩ by rw [hw]; exact in_new1 w17 8 3 (eN (-2) 1) (ndN (-2) 1) 51 (by decide) (by decide) (in_N _ (-2) 1 (by decide) (by decide)))
  have hszz6 : w18.heap.size = w17.heap.size + 1 := by rw [hw]; exact World.size_alloc _ _
  rw [← hw]
  clear hw
  have F18t := Lib.hid (F17t.out.belowW HB18.out)
  have F18z0 := Lib.hid (F17z0.out.belowW HB18.out)
  have F18z1 := Lib.hid (F17z1.out.belowW HB18.out)
  have F18z2 := Lib.hid (F17z2.out.belowW HB18.out)
  have F18z3 := Lib.hid (F17z3.out.belowW HB18.out)
  have F18z4 := Lib.hid (F17z4.out.belowW HB18.out)
  have F18z5 := Lib.hid (F17z5.out.belowW HB18.out)
  have HL18 := Lib.hid (HL17.out.trans (HB18.out.mono HL17.out.size))
  obtain ⟨w19, hw⟩ : ∃ z9 : World, z9 = w18.alloc (.cells #[.int .i64 z1.h.kind, .int .i64 z1.h.n, .int .i64 z1.h.d, .string z1.h.name, .int .i64 z1.h.k, .slice z1.A z1.len z1.cap, .string ⟨#[120, 32, 45, 32, 40, 121, 32, 45, 32, 49, 47, 51, 41]⟩, .int .i64 z2.h.kind, .int .i64 z2.h.n, .int .i64 z2.h.d, .string z2.h.name, .int .i64 z2.h.k, .slice z2.A z2.len z2.cap, .string ⟨#[120, 32, 42, 32, 40, 49, 47, 51, 41]⟩, .int .i64 z3.h.kind, .int .i64 z3.h.n, .int .i64 z3.h.d, .string z3.h.name, .int .i64 z3.h.k, .slice z3.A z3.len z3.cap, .string ⟨#[49, 47, 51, 32, 42, 32, 120]⟩, .int .i64 z4.h.kind, .int .i64 z4.h.n, .int .i64 z4.h.d, .string z4.h.name, .int .i64 z4.h.k, .slice z4.A z4.len z4.cap, .string ⟨#[40, 49, 41, 32, 47, 32, 51]⟩, .int .i64 7, .int .i64 0, .int .i64 0, .string ⟨#[]⟩, .int .i64 0, .slice (some ⟨w15.heap.size, 0, none⟩) 1 1, .string ⟨#[45, 40, 50, 41]⟩, .int .i64 8, .int .i64 0, .int .i64 0, .string ⟨#[]⟩, .int .i64 3, .slice (some ⟨w17.heap.size, 0, none⟩) 1 1, .string ⟨#[40, 45, 50, 41, 94, 51]⟩] 55) := ⟨_, rfl⟩
  have HB19 := Lib.hid (show Below w18.heap.size w18 w19 by rw [hw]; exact below_box _ _)
  have GA := Lib.hid (show Blk w19 (w17.heap.size + 1) 55 #[.int .i64 z1.h.kind, .int .i64 z1.h.n, .int .i64 z1.h.d, .string z1.h.name, .int .i64 z1.h.k, .slice z1.A z1.len z1.cap, .string ⟨#[120, 32, 45, 32, 40, 121, 32, 45, 32, 49, 47, 51, 41]⟩, .int .i64 z2.h.kind, .int .i64 z2.h.n, .int .i64 z2.h.d, .string z2.h.name, .int .i64 z2.h.k, .slice z2.A z2.len z2.cap, .string ⟨#[120, 32, 42, 32, 40, 49, 47, 51, 41]⟩, .int .i64 z3.h.kind, .int .i64 z3.h.n, .int .i64 z3.h.d, .string z3.h.name, .int .i64 z3.h.k, .slice z3.A z3.len z3.cap, .string ⟨#[49, 47, 51, 32, 42, 32, 120]⟩, .int .i64 z4.h.kind, .int .i64 z4.h.n, .int .i64 z4.h.d, .string z4.h.name, .int .i64 z4.h.k, .slice z4.A z4.len z4.cap, .string ⟨#[40, 49, 41, 32, 47, 32, 51]⟩, .int .i64 7, .int .i64 0, .int .i64 0, .string ⟨#[]⟩, .int .i64 0, .slice (some ⟨w15.heap.size, 0, none⟩) 1 1, .string ⟨#[45, 40, 50, 41]⟩, .int .i64 8, .int .i64 0, .int .i64 0, .string ⟨#[]⟩, .int .i64 3, .slice (some ⟨w17.heap.size, 0, none⟩) 1 1, .string ⟨#[40, 45, 50, 41, 94, 51]⟩] by rw [hw, ← hszz6]; exact Blk.new _ _ _)
  rw [← hw]
  clear hw
  have F19t := Lib.hid (F18t.out.belowW HB19.out)
  have F19z0 := Lib.hid (F18z0.out.belowW HB19.out)
  have F19z1 := Lib.hid (F18z1.out.belowW HB19.out)
  have F19z2 := Lib.hid (F18z2.out.belowW HB19.out)
  have F19z3 := Lib.hid (F18z3.out.belowW HB19.out)
  have F19z4 := Lib.hid (F18z4.out.belowW HB19.out)
  have F19z5 := Lib.hid (F18z5.out.belowW HB19.out)
  have F19z6 := Lib.hid (Gz6.out.belowW HB19.out)
  have HL19 := Lib.hid (HL18.out.trans (HB19.out.mono HL18.out.size))
  have HEX := Lib.hid (show ∀ j : Nat, j < 6 → ∃ (T : TE) (x : Nd) (s : ByteArray), InE w19 T x ∧ okE T = true ∧ txt 20 T = s.data.toList ∧ ∀ (r : Nat) (u : Value), (x.cells ++ [.string s])[r]? = some u → w19.cell? ⟨w17.heap.size + 1, j * 7 + r, none⟩ = some u by
    intro j hj
    obtain h | h | h | h | h | h : j = 0 ∨ j = 1 ∨ j = 2 ∨ j = 3 ∨ j = 4 ∨ j = 5 := by omega
    · subst h
      refine ⟨t1, z1, ⟨#[120, 32, 45, 32, 40, 121, 32, 45, 32, 49, 47, 51, 41]⟩, F19z1.out, ok1, tx1, fun r u hr => ?_⟩
      match r with
      | 0 => exact (GA.out.cell 0).trans hr
      | 1 => exact (GA.out.cell 1).trans hr
      | 2 => exact (GA.out.cell 2).trans hr
      | 3 => exact (GA.out.cell 3).trans hr
      | 4 => exact (GA.out.cell 4).trans hr
      | 5 => exact (GA.out.cell 5).trans hr
      | 6 => exact (GA.out.cell 6).trans hr
      | r + 7 => cases hr
    · subst h
      refine ⟨t2, z2, ⟨#[120, 32, 42, 32, 40, 49, 47, 51, 41]⟩, F19z2.out, ok2, tx2, fun r u hr => ?_⟩
      match r with
      | 0 => exact (GA.out.cell 7).trans hr
      | 1 => exact (GA.out.cell 8).trans hr
      | 2 => exact (GA.out.cell 9).trans hr
      | 3 => exact (GA.out.cell 10).trans hr
      | 4 => exact (GA.out.cell 11).trans hr
      | 5 => exact (GA.out.cell 12).trans hr
      | 6 => exact (GA.out.cell 13).trans hr
      | r + 7 => cases hr
    · subst h
      refine ⟨t3, z3, ⟨#[49, 47, 51, 32, 42, 32, 120]⟩, F19z3.out, ok3, tx3, fun r u hr => ?_⟩
      match r with
      | 0 => exact (GA.out.cell 14).trans hr
      | 1 => exact (GA.out.cell 15).trans hr
      | 2 => exact (GA.out.cell 16).trans hr
      | 3 => exact (GA.out.cell 17).trans hr
      | 4 => exact (GA.out.cell 18).trans hr
      | 5 => exact (GA.out.cell 19).trans hr
      | 6 => exact (GA.out.cell 20).trans hr
      | r + 7 => cases hr
    · subst h
      refine ⟨t4, z4, ⟨#[40, 49, 41, 32, 47, 32, 51]⟩, F19z4.out, ok4, tx4, fun r u hr => ?_⟩
      match r with
      | 0 => exact (GA.out.cell 21).trans hr
      | 1 => exact (GA.out.cell 22).trans hr
      | 2 => exact (GA.out.cell 23).trans hr
      | 3 => exact (GA.out.cell 24).trans hr
      | 4 => exact (GA.out.cell 25).trans hr
      | 5 => exact (GA.out.cell 26).trans hr
      | 6 => exact (GA.out.cell 27).trans hr
      | r + 7 => cases hr
    · subst h
      refine ⟨t5, ⟨⟨7, 0, 0, ⟨#[]⟩, 0⟩, some ⟨w15.heap.size, 0, none⟩, 1, 1⟩, ⟨#[45, 40, 50, 41]⟩, F19z5.out, ok5, tx5, fun r u hr => ?_⟩
      match r with
      | 0 => exact (GA.out.cell 28).trans hr
      | 1 => exact (GA.out.cell 29).trans hr
      | 2 => exact (GA.out.cell 30).trans hr
      | 3 => exact (GA.out.cell 31).trans hr
      | 4 => exact (GA.out.cell 32).trans hr
      | 5 => exact (GA.out.cell 33).trans hr
      | 6 => exact (GA.out.cell 34).trans hr
      | r + 7 => cases hr
    · subst h
      refine ⟨t6, ⟨⟨8, 0, 0, ⟨#[]⟩, 3⟩, some ⟨w17.heap.size, 0, none⟩, 1, 1⟩, ⟨#[40, 45, 50, 41, 94, 51]⟩, F19z6.out, ok6, tx6, fun r u hr => ?_⟩
      match r with
      | 0 => exact (GA.out.cell 35).trans hr
      | 1 => exact (GA.out.cell 36).trans hr
      | 2 => exact (GA.out.cell 37).trans hr
      | 3 => exact (GA.out.cell 38).trans hr
      | 4 => exact (GA.out.cell 39).trans hr
      | 5 => exact (GA.out.cell 40).trans hr
      | 6 => exact (GA.out.cell 41).trans hr
      | r + 7 => cases hr
  )
  go_loopg [33] 6 (fun k iv wr => ∃ j : Nat, iv = .int .i64 j ∧ j ≤ 6 ∧ k = 6 - j ∧ Hid (Below w19.heap.size w19 wr))
  case atStart => exact ⟨0, rfl, by omega, rfl, Lib.hid (Below.refl _ _)⟩
  case round =>
    obtain ⟨j, rfl, hj, rfl, HL⟩ := hrel
    by_cases hlt : j < 6
    · obtain ⟨T, x, s, hin, hok, htx, hcell⟩ := HEX.out j hlt
      have HIN := Lib.hid (hin.go HL.out)
      have HTR := Lib.hid (F19t.out.belowW HL.out)
      have HOK := Lib.hid hok
      have HTX := Lib.hid htx
      have hlt2 : w17.heap.size + 1 < w19.heap.size := GA.out.lt
      have q0 : wr.cell? ⟨w17.heap.size + 1, j * 7, none⟩ = some (.int .i64 x.h.kind) := (HL.out.cell (p := ⟨w17.heap.size + 1, _, none⟩) hlt2).trans (hcell 0 _ rfl)
      have q1 : wr.cell? ⟨w17.heap.size + 1, j * 7 + 1, none⟩ = some (.int .i64 x.h.n) := (HL.out.cell (p := ⟨w17.heap.size + 1, _, none⟩) hlt2).trans (hcell 1 _ rfl)
      have q2 : wr.cell? ⟨w17.heap.size + 1, j * 7 + 2, none⟩ = some (.int .i64 x.h.d) := (HL.out.cell (p := ⟨w17.heap.size + 1, _, none⟩) hlt2).trans (hcell 2 _ rfl)
      have q3 : wr.cell? ⟨w17.heap.size + 1, j * 7 + 3, none⟩ = some (.string x.h.name) := (HL.out.cell (p := ⟨w17.heap.size + 1, _, none⟩) hlt2).trans (hcell 3 _ rfl)
      have q4 : wr.cell? ⟨w17.heap.size + 1, j * 7 + 4, none⟩ = some (.int .i64 x.h.k) := (HL.out.cell (p := ⟨w17.heap.size + 1, _, none⟩) hlt2).trans (hcell 4 _ rfl)
      have q5 : wr.cell? ⟨w17.heap.size + 1, j * 7 + 5, none⟩ = some (.slice x.A x.len x.cap) := (HL.out.cell (p := ⟨w17.heap.size + 1, _, none⟩) hlt2).trans (hcell 5 _ rfl)
      have q6 : wr.cell? ⟨w17.heap.size + 1, j * 7 + 6, none⟩ = some (.string s) := (HL.out.cell (p := ⟨w17.heap.size + 1, _, none⟩) hlt2).trans (hcell 6 _ rfl)
      clear hin hok htx hcell
      go_wp2_with fail
      obtain ⟨wt, hwt⟩ : ∃ z9 : World, z9 = wr.alloc (.cells #[.int .i64 x.h.kind, .int .i64 x.h.n, .int .i64 x.h.d, .string x.h.name, .int .i64 x.h.k, .slice x.A x.len x.cap, .string s] 55) := ⟨_, rfl⟩
      have hbt : Below wr.heap.size wr wt := by rw [hwt]; exact below_box _ _
      have GT := Lib.hid (show Blk wt wr.heap.size 55 #[.int .i64 x.h.kind, .int .i64 x.h.n, .int .i64 x.h.d, .string x.h.name, .int .i64 x.h.k, .slice x.A x.len x.cap, .string s] by rw [hwt]; exact Blk.new _ _ _)
      have HLT := Lib.hid (HL.out.trans (hbt.mono HL.out.size))
      have HINT := Lib.hid (HIN.out.go hbt)
      have HTT := Lib.hid (HTR.out.belowW hbt)
      rw [← hwt]
      clear hwt hbt q0 q1 q2 q3 q4 q5 q6
      refine (fexpr_any T x wt HINT.out HTT.out).mono ?_
      rintro e w5 ⟨S, rfl, HS, HB5⟩
      have hS := HS.out
      rw [HOK.out, if_pos rfl, HTX.out] at hS
      have hSs : S = s := by cases S; cases s; simpa using hS
      subst hSs
      rw [HOK.out, if_pos rfl]
      have GT5 := Lib.hid (GT.out.belowW HB5.out)
      have HL5 := Lib.hid (HLT.out.trans (HB5.out.mono HLT.out.size))
      have p6 : w5.cell? ⟨wr.heap.size, 6, none⟩ = some (.string S) := GT5.out.cell 6
      clear hS
      go_wp2_with fail
      go_roundg (6 - (j + 1))
      case measure => omega
      case rel => exact ⟨j + 1, by go_num, by omega, rfl, HL5⟩
    · go_wp2_with fail
      go_ret
      exact ⟨rfl, Lib.hid (HL19.out.trans (HL.out.mono HL19.out.size))⟩
end Go.Proofs.YtoogeihbhhcpaaaGreatDoor
