-- Written by the session's program hy.py.
import Derived.Test.YtgegbiknohjpgaaHCursorStaysx0
import Derived.Test.YtgegbiknohjpgaaHCursorStaysx1
import Derived.Test.YtgegbiknohjpgaaHCursorStaysx2
import Derived.Test.YtgegbiknohjpgaaHCursorStaysx3
import Derived.Test.YtgegbiknohjpgaaHCursorStaysx4
namespace Go.Proofs.Ytgegbiknohjpgaa.HCursorStays
open Go.RowKit Go.Proofs.YtgegbiknohjpgaaW.PrintWords Go.Proofs.YtgegbiknohjpgaaW.PrintLast Go.Proofs.YtgegbiknohjpgaaW.PrintMore
attribute [local go_sem] max2_int min2_int max_two min_two max_three min_three max_four min_four   -- for this text's walks alone
set_option linter.unusedVariables false
set_option linter.unusedSimpArgs false

attribute [local go_sem high] eqA31
/-! ### decklelaw04_CursorStays: function 5 -/
mutual
def decklelaw04_CursorStays.j0 : Nat → List Int → Int → List (S42) → Bool → Bool → Option (Bool)
  | 0, _, _, _, _, _ => none
  | k + 1, x0, x1, x2, x7, x24 => if x24 = true then (some x7) else ((cursor_Open.f x0 3).bind fun bt250 => ((cursor_Cursor_Take.f bt250.1 bt250.2.1 bt250.2.2.1 bt250.2.2.2.1 bt250.2.2.2.2 (wrap64 ((x0.length : Int) / 2))).bind fun bt256 => ((cursor_Cursor_Fail.f bt256.2.1 bt256.2.2.1 bt256.2.2.2.1 bt256.2.2.2.2.1 bt256.2.2.2.2.2 x1).bind fun bt264 => (decklelaw04_CursorStays.l0 k x2 x7 0 bt264.1 bt264.2.1 bt264.2.2.1 bt264.2.2.2.1 bt264.2.2.2.2 x1 0 (wrap64 (3 + (wrap64 ((x0.length : Int) / 2))))))))
def decklelaw04_CursorStays.l0 : Nat → List (S42) → Bool → Int → Int → Int → Int → Int → (List Int) → Int → Int → Int → Option (Bool)
  | 0, _, _, _, _, _, _, _, _, _, _, _ => none
  | k + 1, x2, x7, x10, x256000, x256001, x256002, x256003, x256004, x270000, x270001, x270002 => if x10 < (x2.length : Int) then (if 0 ≤ x10 then (if ((rd_T42 x2 x10).f0) = 0 then ((cursor_Cursor_Byte.f x256000 x256001 x256002 x256003 x256004).bind fun bt279 => (decklelaw04_CursorStays.j2 k x2 x7 x10 (bt279.1 == 0) bt279.2.1 bt279.2.2.1 bt279.2.2.2.1 bt279.2.2.2.2.1 bt279.2.2.2.2.2 x270000 x270001 x270002)) else (if ((rd_T42 x2 x10).f0) = 1 then ((cursor_Cursor_Num.f k x256000 x256001 x256002 x256003 x256004 ((rd_T42 x2 x10).f1)).bind fun bt286 => (decklelaw04_CursorStays.j2 k x2 x7 x10 (bt286.1 == 0) bt286.2.1 bt286.2.2.1 bt286.2.2.2.1 bt286.2.2.2.2.1 bt286.2.2.2.2.2 x270000 x270001 x270002)) else (if ((rd_T42 x2 x10).f0) = 2 then ((cursor_Cursor_Int.f k x256000 x256001 x256002 x256003 x256004).bind fun bt292 => (decklelaw04_CursorStays.j2 k x2 x7 x10 (bt292.1 == 0) bt292.2.1 bt292.2.2.1 bt292.2.2.2.1 bt292.2.2.2.2.1 bt292.2.2.2.2.2 x270000 x270001 x270002)) else (if ((rd_T42 x2 x10).f0) = 3 then ((cursor_Cursor_Take.f x256000 x256001 x256002 x256003 x256004 ((rd_T42 x2 x10).f1)).bind fun bt299 => (decklelaw04_CursorStays.j2 k x2 x7 x10 ((bt299.1.length : Int) == 0) bt299.2.1 bt299.2.2.1 bt299.2.2.2.1 bt299.2.2.2.2.1 bt299.2.2.2.2.2 x270000 x270001 x270002)) else (if ((rd_T42 x2 x10).f0) = 4 then ((cursor_Cursor_Fail.f x256000 x256001 x256002 x256003 x256004 ((rd_T42 x2 x10).f1)).bind fun bt308 => (decklelaw04_CursorStays.j2 k x2 x7 x10 true bt308.1 bt308.2.1 bt308.2.2.1 bt308.2.2.2.1 bt308.2.2.2.2 x270000 x270001 x270002)) else (decklelaw04_CursorStays.j2 k x2 x7 x10 true x256000 x256001 x256002 x256003 x256004 x270000 x270001 x270002)))))) else (none)) else (if x7 = true then ((cursor_place_Fault.f x256000 x256001 x256002 x256003 x256004).bind fun bt270 => (some (bt270.1 == x270000 && (bt270.2.1 == x270001 && (bt270.2.2.1 == x270002))))) else (none))
def decklelaw04_CursorStays.j2 : Nat → List (S42) → Bool → Int → Bool → Int → Int → Int → Int → (List Int) → Int → Int → Int → Option (Bool)
  | 0, _, _, _, _, _, _, _, _, _, _, _, _ => none
  | k + 1, x2, x7, x10, x11, x256000, x256001, x256002, x256003, x256004, x270000, x270001, x270002 => if x11 = true then ((cursor_place_Fault.f x256000 x256001 x256002 x256003 x256004).bind fun bt313 => (if (!(bt313.1 == x270000) || (!(bt313.2.1 == x270001) || (!(bt313.2.2.1 == x270002)))) = true then (none) else ((cursor_Cursor_End.f bt313.2.2.2.1 bt313.2.2.2.2.1 bt313.2.2.2.2.2.1 bt313.2.2.2.2.2.2.1 bt313.2.2.2.2.2.2.2).bind fun bt321 => (if (!(bt321.1 == x270000) || (!(bt321.2.1 == x270001) || (!(bt321.2.2.1 == x270002)))) = true then (none) else ((cursor_Cursor_Left.f bt321.2.2.2.1 bt321.2.2.2.2.1 bt321.2.2.2.2.2.1 bt321.2.2.2.2.2.2.1 bt321.2.2.2.2.2.2.2).bind fun bt329 => (if bt329.1 = 0 then ((cursor_place_At.f bt329.2.1 bt329.2.2.1 bt329.2.2.2.1 bt329.2.2.2.2.1 bt329.2.2.2.2.2).bind fun bt335 => (if bt335.1 = x270002 then (decklelaw04_CursorStays.l0 k x2 x7 (wrap64 (x10 + 1)) bt335.2.1 bt335.2.2.1 bt335.2.2.2.1 bt335.2.2.2.2.1 bt335.2.2.2.2.2 x270000 x270001 x270002) else (none))) else (none))))))) else (none)
end
def decklelaw04_CursorStays.f (k : Nat) (l0 : List Int) (a1 : Int) (l2 : List (S42)) : Option (Bool) := (decklelaw04_small.f k).bind fun t249 => (if (l0.length : Int) > 500 then (decklelaw04_CursorStays.j0 k l0 a1 l2 t249 true) else (if (l2.length : Int) > 100 then (decklelaw04_CursorStays.j0 k l0 a1 l2 t249 true) else (decklelaw04_CursorStays.j0 k l0 a1 l2 t249 (a1 == 0))))
theorem decklelaw04_CursorStays.mono_l : ∀ k, (∀ y0 y1 y2 y3 y4, LeO (decklelaw04_CursorStays.j0 k y0 y1 y2 y3 y4) (decklelaw04_CursorStays.j0 (k + 1) y0 y1 y2 y3 y4)) ∧ (∀ y0 y1 y2 y3 y4 y5 y6 y7 y8 y9 y10, LeO (decklelaw04_CursorStays.l0 k y0 y1 y2 y3 y4 y5 y6 y7 y8 y9 y10) (decklelaw04_CursorStays.l0 (k + 1) y0 y1 y2 y3 y4 y5 y6 y7 y8 y9 y10)) ∧ (∀ y0 y1 y2 y3 y4 y5 y6 y7 y8 y9 y10 y11, LeO (decklelaw04_CursorStays.j2 k y0 y1 y2 y3 y4 y5 y6 y7 y8 y9 y10 y11) (decklelaw04_CursorStays.j2 (k + 1) y0 y1 y2 y3 y4 y5 y6 y7 y8 y9 y10 y11))
  | 0 => ⟨fun _ _ _ _ _ r h => by simp [decklelaw04_CursorStays.j0] at h, fun _ _ _ _ _ _ _ _ _ _ _ r h => by simp [decklelaw04_CursorStays.l0] at h, fun _ _ _ _ _ _ _ _ _ _ _ _ r h => by simp [decklelaw04_CursorStays.j2] at h⟩
  | k + 1 => by
    obtain ⟨ih0, ih1, ih2⟩ := decklelaw04_CursorStays.mono_l k
    refine ⟨?_, ?_, ?_⟩
    · intro y0 y1 y2 y3 y4
      unfold decklelaw04_CursorStays.j0
      repeat' first
      | (with_reducible exact ih0 _ _ _ _ _)
      | (with_reducible exact ih1 _ _ _ _ _ _ _ _ _ _ _)
      | (with_reducible exact ih2 _ _ _ _ _ _ _ _ _ _ _ _)
      | (with_reducible exact cursor_Cursor_Int.mono _ _ _ _ _ _)
      | (with_reducible exact cursor_Cursor_Num.mono _ _ _ _ _ _ _)
      | (with_reducible exact decklelaw04_small.mono _)
      | (with_reducible exact LeO.refl _)
      | (with_reducible exact LeO.none _)
      | (with_reducible refine LeO.ite ?_ ?_)
      | (with_reducible refine LeO.bind ?_ (fun _ => ?_))
      | exact ih0 _ _ _ _ _
      | exact ih1 _ _ _ _ _ _ _ _ _ _ _
      | exact ih2 _ _ _ _ _ _ _ _ _ _ _ _
      | exact cursor_Cursor_Int.mono _ _ _ _ _ _
      | exact cursor_Cursor_Num.mono _ _ _ _ _ _ _
      | exact decklelaw04_small.mono _
      | exact LeO.none _
      | refine LeO.ite ?_ ?_
      | refine LeO.bind ?_ (fun _ => ?_)
    · intro y0 y1 y2 y3 y4 y5 y6 y7 y8 y9 y10
      unfold decklelaw04_CursorStays.l0
      repeat' first
      | (with_reducible exact ih0 _ _ _ _ _)
      | (with_reducible exact ih1 _ _ _ _ _ _ _ _ _ _ _)
      | (with_reducible exact ih2 _ _ _ _ _ _ _ _ _ _ _ _)
      | (with_reducible exact cursor_Cursor_Int.mono _ _ _ _ _ _)
      | (with_reducible exact cursor_Cursor_Num.mono _ _ _ _ _ _ _)
      | (with_reducible exact decklelaw04_small.mono _)
      | (with_reducible exact LeO.refl _)
      | (with_reducible exact LeO.none _)
      | (with_reducible refine LeO.ite ?_ ?_)
      | (with_reducible refine LeO.bind ?_ (fun _ => ?_))
      | exact ih0 _ _ _ _ _
      | exact ih1 _ _ _ _ _ _ _ _ _ _ _
      | exact ih2 _ _ _ _ _ _ _ _ _ _ _ _
      | exact cursor_Cursor_Int.mono _ _ _ _ _ _
      | exact cursor_Cursor_Num.mono _ _ _ _ _ _ _
      | exact decklelaw04_small.mono _
      | exact LeO.none _
      | refine LeO.ite ?_ ?_
      | refine LeO.bind ?_ (fun _ => ?_)
    · intro y0 y1 y2 y3 y4 y5 y6 y7 y8 y9 y10 y11
      unfold decklelaw04_CursorStays.j2
      repeat' first
      | (with_reducible exact ih0 _ _ _ _ _)
      | (with_reducible exact ih1 _ _ _ _ _ _ _ _ _ _ _)
      | (with_reducible exact ih2 _ _ _ _ _ _ _ _ _ _ _ _)
      | (with_reducible exact cursor_Cursor_Int.mono _ _ _ _ _ _)
      | (with_reducible exact cursor_Cursor_Num.mono _ _ _ _ _ _ _)
      | (with_reducible exact decklelaw04_small.mono _)
      | (with_reducible exact LeO.refl _)
      | (with_reducible exact LeO.none _)
      | (with_reducible refine LeO.ite ?_ ?_)
      | (with_reducible refine LeO.bind ?_ (fun _ => ?_))
      | exact ih0 _ _ _ _ _
      | exact ih1 _ _ _ _ _ _ _ _ _ _ _
      | exact ih2 _ _ _ _ _ _ _ _ _ _ _ _
      | exact cursor_Cursor_Int.mono _ _ _ _ _ _
      | exact cursor_Cursor_Num.mono _ _ _ _ _ _ _
      | exact decklelaw04_small.mono _
      | exact LeO.none _
      | refine LeO.ite ?_ ?_
      | refine LeO.bind ?_ (fun _ => ?_)
theorem decklelaw04_CursorStays.mono : ∀ a0 a1 a2 k, LeO (decklelaw04_CursorStays.f k a0 a1 a2) (decklelaw04_CursorStays.f (k + 1) a0 a1 a2) := by
  intro a0 a1 a2 k
  obtain ⟨ih0, ih1, ih2⟩ := decklelaw04_CursorStays.mono_l k
  unfold decklelaw04_CursorStays.f
  repeat' first
      | (with_reducible exact ih0 _ _ _ _ _)
      | (with_reducible exact ih1 _ _ _ _ _ _ _ _ _ _ _)
      | (with_reducible exact ih2 _ _ _ _ _ _ _ _ _ _ _ _)
      | (with_reducible exact cursor_Cursor_Int.mono _ _ _ _ _ _)
      | (with_reducible exact cursor_Cursor_Num.mono _ _ _ _ _ _ _)
      | (with_reducible exact decklelaw04_small.mono _)
      | (with_reducible exact LeO.refl _)
      | (with_reducible exact LeO.none _)
      | (with_reducible refine LeO.ite ?_ ?_)
      | (with_reducible refine LeO.bind ?_ (fun _ => ?_))
      | exact ih0 _ _ _ _ _
      | exact ih1 _ _ _ _ _ _ _ _ _ _ _
      | exact ih2 _ _ _ _ _ _ _ _ _ _ _ _
      | exact cursor_Cursor_Int.mono _ _ _ _ _ _
      | exact cursor_Cursor_Num.mono _ _ _ _ _ _ _
      | exact decklelaw04_small.mono _
      | exact LeO.none _
      | refine LeO.ite ?_ ?_
      | refine LeO.bind ?_ (fun _ => ?_)
def decklelaw04_CursorStays.T25 : Bool × List (List Nat × List Nat) := (true, [([], []), ([0], [0]), ([1], [1]), ([2], [2]), ([3, 2], [2, 3]), ([4, 2], [2, 4]), ([5, 2, 2], [2, 5]), ([2], [2]), ([6, 7, 2], [2, 6, 7]), ([2, 8], [2, 8]), ([9, 6], [9]), ([10], [10]), ([11, 10, 10], [10, 11]), ([10], [10]), ([12, 13, 10], [10, 12, 13]), ([10, 14], [10, 14]), ([15, 12], [15]), ([16], [16]), ([17, 16, 16], [16, 17]), ([18, 16], [16, 18]), ([16, 19], [16, 19]), ([20, 18], [20]), ([21], [21]), ([22, 21], [21, 22]), ([23, 21], [21, 23]), ([24, 21, 21], [21, 24]), ([21], [21]), ([26, 21], [21, 26]), ([25, 27, 21], [21, 25, 27]), ([21, 28], [21, 28])])
def decklelaw04_CursorStays.B25 : List Nat := [0, 1, 3, 7, 15, 31, 63, 7, 255, 511, 1023, 2047, 4095, 2047, 16383, 32767, 65535, 131071, 262143, 524287, 1048575, 2097151, 4194303, 8388607, 16777215, 33554431, 4194303, 71303167, 268435455, 536870911]
theorem decklelaw04_CursorStays.tab25 : rtab .any (opsOf Try.f5 25) = decklelaw04_CursorStays.T25 := by kernel_rfl
theorem decklelaw04_CursorStays.bits25 : waitsOk decklelaw04_CursorStays.T25.2 decklelaw04_CursorStays.B25 = true := by kernel_rfl
def decklelaw04_CursorStays.T27 : Bool × List (List Nat × List Nat) := (true, [([], []), ([0], [0]), ([1], [1]), ([2, 1], [1, 2]), ([3, 1], [1, 3]), ([4, 1, 1], [1, 4]), ([1], [1]), ([5, 6, 1], [1, 5, 6]), ([1, 7], [1, 7]), ([8, 5, 0, 1, 2, 3, 4, 5, 6, 7, 8], [8])])
def decklelaw04_CursorStays.B27 : List Nat := [0, 1, 3, 7, 15, 31, 3, 127, 255, 511]
theorem decklelaw04_CursorStays.tab27 : rtab .any (opsOf Try.f5 27) = decklelaw04_CursorStays.T27 := by kernel_rfl
theorem decklelaw04_CursorStays.bits27 : waitsOk decklelaw04_CursorStays.T27.2 decklelaw04_CursorStays.B27 = true := by kernel_rfl
set_option maxHeartbeats 8000000 in
set_option maxRecDepth 100000 in
theorem decklelaw04_CursorStays.calls (k : Nat) (A0 : Option Addr) (c0 : Nat) (l0 : List Int) (a1 : Int) (A2 : Option Addr) (c2 : Nat) (l2 : List (S42)) (r : Bool) (w : World) (hr0 : Kd.C (Kd.int .u8) w A0 l0.length l0) (hc0 : l0.length ≤ c0) (hr2 : Kd.C k42 w A2 l2.length l2) (hc2 : l2.length ≤ c2) (h : decklelaw04_CursorStays.f k l0 a1 l2 = some r) :
    Calls Try.prog 5 #[.slice A0 l0.length c0, .int .i64 a1, .slice A2 l2.length c2] w fun e w' => e = .returned (.bool r) ∧ Below w.heap.size w w' := by
  have hu31 := Try.underlying31
  have HR0 := Aside0.mk hr0
  have HC0 := Aside0.mk hc0
  clear hr0 hc0
  have HR2 := Aside0.mk hr2
  have HC2 := Aside0.mk hc2
  clear hr2 hc2
  have HB := Aside0.mk (Below.refl w.heap.size w)
  have H : ((decklelaw04_small.f k).bind fun t249 => (if (l0.length : Int) > 500 then (decklelaw04_CursorStays.j0 k l0 a1 l2 t249 true) else (if (l2.length : Int) > 100 then (decklelaw04_CursorStays.j0 k l0 a1 l2 t249 true) else (decklelaw04_CursorStays.j0 k l0 a1 l2 t249 (a1 == 0))))) = some r := h
  clear h
  replace H := Option.bind_eq_some_iff.mp H
  obtain ⟨t249, A40, H⟩ := H
  replace H : (if (l0.length : Int) > 500 then (decklelaw04_CursorStays.j0 k l0 a1 l2 t249 true) else (if (l2.length : Int) > 100 then (decklelaw04_CursorStays.j0 k l0 a1 l2 t249 true) else (decklelaw04_CursorStays.j0 k l0 a1 l2 t249 (a1 == 0)))) = some r := H
  have A4 := Aside0.mk A40
  clear A40
  have HC5 := Aside0.mk H
  clear H
  go_enter Try.func5, Try.ntmps5
  go_upto_region 2 with (first | ((with_reducible refine gate_callee (f := 8) rfl ?_); refine goesL_ (some 12) rfl rfl Try.func8 (by kernel_rfl) rfl #[] rfl (by (try simp only [List.map_toArray, List.map_cons, List.map_nil]); first | done | rfl | (simp only [List.length_drop, List.length_take]; rfl)) ?_; (with_reducible refine (decklelaw04_small.calls k  t249 _ A4.out).mono ?_); rintro e w6 ⟨rfl, hb⟩; refine ⟨_, rfl, ?_⟩; have n0_ := Aside0.mk (below_step (by repeat (first | (with_reducible first | exact HB.out | apply below_alloc | apply pw_below_drewN | apply below_drew1) | exact HB.out)) hb); clear HB; have HB := n0_; clear n0_; (try clear hb); (try clear hb2); (try clear hk); (try clear hi)))
  (try simp only [Act.put, List.setIfInBounds_toArray, List.set_cons_zero, List.set_cons_succ])
  go_cut [24] (fun v24 wc => ∃ (kq : Nat) (x24_4 : Bool), v24 = .bool x24_4 ∧ Aside0 (decklelaw04_CursorStays.j0 kq l0 a1 l2 t249 x24_4 = some r) ∧ Aside0 (kq ≤ k) ∧ Aside0 (Below w.heap.size w wc))
  case first =>
    have H := HC5.out
    clear HC5
    by_cases c7 : (l0.length : Int) > 500
    · rw [if_pos c7] at H
      have c7b0 : decide (500 < (l0.length : Int)) = true := decide_eq_true c7
      have c7b1 : decide (500 < l0.length) = true := decide_eq_true (by omega)
      clear c7
      (first | rw [c7b0] | (simp only [i64_w, i32_w]; rw [c7b0]) | skip)
      have H' := Aside0.mk H
      clear H
      go_wp2
      go_meet
      case rel => exact ⟨_, (true), (by first | rfl | (simp; done) | (simp [*]; done)), H', ⟨by first | omega | exact Nat.le_refl _⟩, ⟨by repeat (first | (with_reducible first | exact HB.out | apply below_alloc | apply pw_below_drewN | apply below_drew1) | exact HB.out)⟩⟩
    · rw [if_neg c7] at H
      have c7b0 : decide (500 < (l0.length : Int)) = false := decide_eq_false c7
      have c7b1 : decide (500 < l0.length) = false := decide_eq_false (by omega)
      clear c7
      (first | rw [c7b0] | (simp only [i64_w, i32_w]; rw [c7b0]) | skip)
      by_cases c8 : (l2.length : Int) > 100
      · rw [if_pos c8] at H
        have c8b0 : decide (100 < (l2.length : Int)) = true := decide_eq_true c8
        have c8b1 : decide (100 < l2.length) = true := decide_eq_true (by omega)
        clear c8
        have H' := Aside0.mk H
        clear H
        go_wp2
        go_meet
        case rel => exact ⟨_, (true), (by first | rfl | (simp; done) | (simp [*]; done)), H', ⟨by first | omega | exact Nat.le_refl _⟩, ⟨by repeat (first | (with_reducible first | exact HB.out | apply below_alloc | apply pw_below_drewN | apply below_drew1) | exact HB.out)⟩⟩
      · rw [if_neg c8] at H
        have c8b0 : decide (100 < (l2.length : Int)) = false := decide_eq_false c8
        have c8b1 : decide (100 < l2.length) = false := decide_eq_false (by omega)
        clear c8
        have H' := Aside0.mk H
        clear H
        go_wp2
        go_meet
        case rel => exact ⟨_, ((a1 == 0)), (by first | rfl | (simp; done) | (simp [*]; done)), H', ⟨by first | omega | exact Nat.le_refl _⟩, ⟨by repeat (first | (with_reducible first | exact HB.out | apply below_alloc | apply pw_below_drewN | apply below_drew1) | exact HB.out)⟩⟩
  case rest =>
    clear HC5
    try clear c2
    try clear p2
    try clear c5
    try clear c7
    try clear c7b0
    try clear c7b1
    try clear c8
    try clear c8b0
    try clear c8b1
    obtain ⟨kq, x24_4, rfl, HA, HJ4, HB⟩ := hcut
    cases kq with
    | zero => exact absurd HA.out (by simp [decklelaw04_CursorStays.j0])
    | succ kj4 =>
      have H := HA.out
      clear HA
      simp only [decklelaw04_CursorStays.j0] at H
      by_cases c9 : x24_4 = true
      · subst c9
        have H1 : (some t249) = some r := by rw [if_pos rfl] at H; exact H
        clear H
        have H := H1
        clear H1
        obtain rfl := Option.some.inj H
        go_wp2
        go_ret
        exact ⟨by first | rfl | (simp [errW_none, errW_some] <;> rfl) | (simp [*, errW_none, errW_some] <;> rfl), by repeat (first | (with_reducible first | exact HB.out | apply below_alloc | apply pw_below_drewN | apply below_drew1) | exact HB.out)⟩
      · replace c9 := Bool.eq_false_iff.mpr c9
        subst c9
        have H1 : ((cursor_Open.f l0 3).bind fun bt250 => ((cursor_Cursor_Take.f bt250.1 bt250.2.1 bt250.2.2.1 bt250.2.2.2.1 bt250.2.2.2.2 (wrap64 ((l0.length : Int) / 2))).bind fun bt256 => ((cursor_Cursor_Fail.f bt256.2.1 bt256.2.2.1 bt256.2.2.2.1 bt256.2.2.2.2.1 bt256.2.2.2.2.2 a1).bind fun bt264 => (decklelaw04_CursorStays.l0 kj4 l2 t249 0 bt264.1 bt264.2.1 bt264.2.2.1 bt264.2.2.2.1 bt264.2.2.2.2 a1 0 (wrap64 (3 + (wrap64 ((l0.length : Int) / 2)))))))) = some r := by rw [if_neg (show ¬ (false = true) by decide)] at H; exact H
        clear H
        have H := H1
        clear H1
        replace H := Option.bind_eq_some_iff.mp H
        obtain ⟨⟨t250, t251, t252, t253, t254⟩, A100, H⟩ := H
        replace H : ((cursor_Cursor_Take.f t250 t251 t252 t253 t254 (wrap64 ((l0.length : Int) / 2))).bind fun bt256 => ((cursor_Cursor_Fail.f bt256.2.1 bt256.2.2.1 bt256.2.2.2.1 bt256.2.2.2.2.1 bt256.2.2.2.2.2 a1).bind fun bt264 => (decklelaw04_CursorStays.l0 kj4 l2 t249 0 bt264.1 bt264.2.1 bt264.2.2.1 bt264.2.2.2.1 bt264.2.2.2.2 a1 0 (wrap64 (3 + (wrap64 ((l0.length : Int) / 2))))))) = some r := H
        have A10 := Aside0.mk A100
        clear A100
        replace H := Option.bind_eq_some_iff.mp H
        obtain ⟨⟨t256, t259, t260, t261, t262, t263⟩, A110, H⟩ := H
        replace H : ((cursor_Cursor_Fail.f t259 t260 t261 t262 t263 a1).bind fun bt264 => (decklelaw04_CursorStays.l0 kj4 l2 t249 0 bt264.1 bt264.2.1 bt264.2.2.1 bt264.2.2.2.1 bt264.2.2.2.2 a1 0 (wrap64 (3 + (wrap64 ((l0.length : Int) / 2)))))) = some r := H
        have A11 := Aside0.mk A110
        clear A110
        replace H := Option.bind_eq_some_iff.mp H
        obtain ⟨⟨t264, t265, t266, t267, t268⟩, A120, H⟩ := H
        replace H : (decklelaw04_CursorStays.l0 kj4 l2 t249 0 t264 t265 t266 t267 t268 a1 0 (wrap64 (3 + (wrap64 ((l0.length : Int) / 2))))) = some r := H
        have A12 := Aside0.mk A120
        clear A120
        have H' := Aside0.mk H
        clear H
        go_wp2_with (first | ((with_reducible refine gate_callee (f := 9) rfl ?_); refine goesL_ (some 27) rfl rfl Try.func9 (by kernel_rfl) rfl #[.slice A0 l0.length c0, .int .i64 3] rfl (by (try simp only [List.map_toArray, List.map_cons, List.map_nil]); first | done | rfl | (simp only [List.length_drop, List.length_take]; rfl)) ?_; (with_reducible refine (cursor_Open.calls _ _ l0 3 t250 t251 t252 t253 t254 w _ ?side1 ?side2 ?side3 A10.out).mono ?_); (case side1 => repeat (first | (with_reducible first | exact HB.out | apply below_alloc | apply pw_below_drewN | apply below_drew1) | exact HB.out)); (case side2 => repeat (first | exact (Kd.C_below HR0.out HB.out) | (with_reducible refine Kd.C_alloc ?_ _) | (with_reducible refine Kd.C_drewN ?_ _) | (with_reducible refine Kd.C_drew ?_))); (case side3 => exact HC0.out); rintro e w13 ⟨g255, rfl, hi, hb, hb2⟩; refine ⟨_, rfl, ?_⟩; have n0_ := Aside0.mk (hb); have n1_ := Aside0.mk (hi); clear HB; have HB := n0_; have HI255 := n1_; clear n0_ n1_; (try clear hb); (try clear hb2); (try clear hk); (try clear hi)) | ((with_reducible refine gate_callee (f := 11) rfl ?_); refine goesL_ (some 34) rfl rfl Try.func11 (by kernel_rfl) rfl #[.pointer (some ⟨g255, 0, none⟩), .int .i64 (wrap64 ((l0.length : Int) / 2))] rfl (by (try simp only [List.map_toArray, List.map_cons, List.map_nil]); first | done | rfl | (simp only [List.length_drop, List.length_take]; rfl)) ?_; (with_reducible refine (cursor_Cursor_Take.calls g255 t250 t251 t252 t253 t254 (wrap64 ((l0.length : Int) / 2)) t256 t259 t260 t261 t262 t263 w _ ?side1 ?side2 A11.out).mono ?_); (case side1 => repeat (first | (with_reducible first | exact HI255.out | apply IsS35.alloc | apply IsS35.drewN | apply IsS35.drew | apply IsS35.set_0 | apply IsS35.set_1 | apply IsS35.set_2 | apply IsS35.set_3 | apply IsS35.set_4) | exact HI255.out)); (case side2 => repeat (first | (with_reducible first | exact HB.out | apply below_alloc | apply pw_below_drewN | apply below_drew1 | refine below_set ?_ (IsS35.ge HI255.out)) | exact HB.out)); rintro e w14 ⟨v257, rfl, ho0, hi, hb, hk⟩; refine ⟨_, rfl, ?_⟩; have n0_ := Aside0.mk (Kd.R_lower ho0 (below_size (by repeat (first | (with_reducible first | exact HB.out | apply below_alloc | apply pw_below_drewN | apply below_drew1 | refine below_set ?_ (IsS35.ge HI255.out)) | exact HB.out)))); have n1_ := Aside0.mk (hb); have n2_ := Aside0.mk (hi); clear HB; clear HI255; have HO258 := n0_; have HB := n1_; have HI255 := n2_; clear n0_ n1_ n2_; (try clear hb); (try clear hb2); (try clear hk); (try clear hi); (try clear ho0)) | ((with_reducible refine gate_callee (f := 22) rfl ?_); refine goesL_ (some 37) rfl rfl Try.func22 (by kernel_rfl) rfl #[.pointer (some ⟨g255, 0, none⟩), .int .i64 a1] rfl (by (try simp only [List.map_toArray, List.map_cons, List.map_nil]); first | done | rfl | (simp only [List.length_drop, List.length_take]; rfl)) ?_; (with_reducible refine (cursor_Cursor_Fail.calls g255 t259 t260 t261 t262 t263 a1 t264 t265 t266 t267 t268 w _ ?side1 ?side2 A12.out).mono ?_); (case side1 => repeat (first | (with_reducible first | exact HI255.out | apply IsS35.alloc | apply IsS35.drewN | apply IsS35.drew | apply IsS35.set_0 | apply IsS35.set_1 | apply IsS35.set_2 | apply IsS35.set_3 | apply IsS35.set_4) | exact HI255.out)); (case side2 => repeat (first | (with_reducible first | exact HB.out | apply below_alloc | apply pw_below_drewN | apply below_drew1 | refine below_set ?_ (IsS35.ge HI255.out)) | exact HB.out)); rintro e w15 ⟨rfl, hi, hb, hk⟩; refine ⟨_, rfl, ?_⟩; have n0_ := Aside0.mk (Kd.R_mono (Kd.R_keep (IsS35.apart (show IsS35 w _ g255 t259 t260 t261 t262 t263 from by repeat (first | (with_reducible first | exact HI255.out | apply IsS35.alloc | apply IsS35.drewN | apply IsS35.drew | apply IsS35.set_0 | apply IsS35.set_1 | apply IsS35.set_2 | apply IsS35.set_3 | apply IsS35.set_4) | exact HI255.out)) (by (with_reducible repeat (first | apply Kd.R_alloc | apply Kd.R_drewN | apply Kd.R_drew)); exact HO258.out) (by decide)) hk (fun _ h => h.2)) (fun _ h => h.1)); have n1_ := Aside0.mk (hb); have n2_ := Aside0.mk (hi); clear HO258; clear HB; clear HI255; have HO258 := n0_; have HB := n1_; have HI255 := n2_; clear n0_ n1_ n2_; (try clear hb); (try clear hb2); (try clear hk); (try clear hi)) | ((with_reducible refine gate_dst (N := 9) rfl ?_); (try (refine gate_guard (by rfl) ?_; dsimp only)); refine box_event ?hg (N := 9) ?hd (cs := #[.int .i64 0, .int .i64 0, .int .i64 0]) (t := 31) ?hr ?_; (case hd => rfl); (case hg => rfl); (case hr => first | (go_simp; done) | (go_simp; rfl)); intro gb269 hg w16 hbox hb; have n0_ := Aside0.mk (Kd.R_below (by (with_reducible repeat (first | apply Kd.R_alloc | apply Kd.R_drewN | apply Kd.R_drew)); exact HO258.out) hb); have n1_ := Aside0.mk (IsS35.below (by repeat (first | (with_reducible first | exact HI255.out | apply IsS35.alloc | apply IsS35.drewN | apply IsS35.drew | apply IsS35.set_0 | apply IsS35.set_1 | apply IsS35.set_2 | apply IsS35.set_3 | apply IsS35.set_4) | exact HI255.out)) hb); have n2_ := Aside0.mk (below_step (by repeat (first | (with_reducible first | exact HB.out | apply below_alloc | apply pw_below_drewN | apply below_drew1 | refine below_set ?_ (IsS35.ge HI255.out)) | exact HB.out)) hb); have n3_ := Aside0.mk (hbox); have n4_ := Aside0.mk ((by rw [hg]; exact (below_size (by repeat (first | (with_reducible first | exact HB.out | apply below_alloc | apply pw_below_drewN | apply below_drew1 | refine below_set ?_ (IsS35.ge HI255.out)) | exact HB.out))) : w.heap.size ≤ gb269)); have n5_ := Aside0.mk ((by rw [hg]; exact (below_size (by repeat (first | (with_reducible first | exact HB.out | apply below_alloc | apply pw_below_drewN | apply below_drew1 | refine below_set ?_ (IsS35.ge HI255.out)) | exact HB.out))) : w.heap.size ≤ gb269)); have n6_ := Aside0.mk ((by rw [hg]; exact Nat.ne_of_lt (IsS35.lt (show IsS35 w _ g255 t264 t265 t266 t267 t268 from by repeat (first | (with_reducible first | exact HI255.out | apply IsS35.alloc | apply IsS35.drewN | apply IsS35.drew | apply IsS35.set_0 | apply IsS35.set_1 | apply IsS35.set_2 | apply IsS35.set_3 | apply IsS35.set_4) | exact HI255.out))) : g255 ≠ gb269)); have n7_ := Aside0.mk ((by rw [hg]; exact Nat.ne_of_gt (IsS35.lt (show IsS35 w _ g255 t264 t265 t266 t267 t268 from by repeat (first | (with_reducible first | exact HI255.out | apply IsS35.alloc | apply IsS35.drewN | apply IsS35.drew | apply IsS35.set_0 | apply IsS35.set_1 | apply IsS35.set_2 | apply IsS35.set_3 | apply IsS35.set_4) | exact HI255.out))) : gb269 ≠ g255)); clear HO258; clear HI255; clear HB; have HO258 := n0_; have HI255 := n1_; have HB := n2_; have BK269 := n3_; have GW269 := n4_; have GE269 := n5_; have NB255_269 := n6_; have NB269_255 := n7_; clear n0_ n1_ n2_ n3_ n4_ n5_ n6_ n7_; clear hb hbox hg; have hnb17 := NB269_255.out; have hnc17 := NB255_269.out; have hcz18_0 : w16.cell? ⟨gb269, 0, none⟩ = some (.int .i64 0) := (blk_cell BK269.out 0).trans rfl; have hcz18_1 : w16.cell? ⟨gb269, 1, none⟩ = some (.int .i64 0) := (blk_cell BK269.out 1).trans rfl; have hcz18_2 : w16.cell? ⟨gb269, 2, none⟩ = some (.int .i64 0) := (blk_cell BK269.out 2).trans rfl; have hfz18_0 := blk_frozen BK269.out 0; have hfz18_1 := blk_frozen BK269.out 1; have hfz18_2 := blk_frozen BK269.out 2))
        go_loopg [10] kj4 (fun kq v10 w' => ∃ (x10_2 : Int) (x256000_2 : Int) (x256001_2 : Int) (x256002_2 : Int) (x256003_2 : Int) (x256004_2 : (List Int)), v10 = .int .i64 x10_2 ∧ Aside0 (decklelaw04_CursorStays.l0 kq l2 t249 x10_2 x256000_2 x256001_2 x256002_2 x256003_2 x256004_2 a1 0 (wrap64 (3 + (wrap64 ((l0.length : Int) / 2)))) = some r) ∧ Aside0 (kq ≤ kj4) ∧ Aside0 (w'.heap[gb269]? = some (.cells #[.int .i64 a1, .int .i64 0, .int .i64 (wrap64 (3 + (wrap64 ((l0.length : Int) / 2))))] 31 (0, 0))) ∧ Aside0 (IsS35 w w' g255 x256000_2 x256001_2 x256002_2 x256003_2 x256004_2) ∧ Aside0 (Below w.heap.size w w'))
        case atStart => exact ⟨(0), (t264), (t265), (t266), (t267), (t268), (by first | rfl | (simp; done) | (simp [*]; done)), H', ⟨Nat.le_refl _⟩, ⟨by (with_reducible repeat (first | refine blk_drewN ?_ _ | refine blk_drew ?_ | refine blk_alloc ?_ _)); refine blk_put (cs := #[.int .i64 a1, .int .i64 0, .int .i64 0]) ?_ 2 _ rfl; (with_reducible repeat (first | refine blk_drewN ?_ _ | refine blk_drew ?_ | refine blk_alloc ?_ _)); refine blk_put (cs := #[.int .i64 a1, .int .i64 0, .int .i64 0]) ?_ 1 _ rfl; (with_reducible repeat (first | refine blk_drewN ?_ _ | refine blk_drew ?_ | refine blk_alloc ?_ _)); refine blk_put (cs := #[.int .i64 0, .int .i64 0, .int .i64 0]) ?_ 0 _ rfl; (with_reducible repeat (first | refine blk_drewN ?_ _ | refine blk_drew ?_ | refine blk_alloc ?_ _)); exact BK269.out⟩, ⟨by repeat (first | (with_reducible first | exact HI255.out | apply IsS35.alloc | apply IsS35.drewN | apply IsS35.drew | apply IsS35.set_0 | apply IsS35.set_1 | apply IsS35.set_2 | apply IsS35.set_3 | apply IsS35.set_4 | refine IsS35.far ?_ NB255_269.out (by repeat (first | exact TypeAt.mk BK269.out | apply TypeAt.set | apply TypeAt.alloc | apply TypeAt.drewN | apply TypeAt.drew)) (by decide) _) | exact HI255.out)⟩, ⟨by repeat (first | (with_reducible first | exact HB.out | apply below_alloc | apply pw_below_drewN | apply below_drew1 | refine below_set ?_ (IsS35.ge HI255.out) | refine below_set ?_ GE269.out) | exact HB.out)⟩⟩
        case round =>
          clear H'
          try clear c1
          try clear c2
          try clear p2
          try clear c5
          try clear p6
          try clear c7
          try clear c7b0
          try clear c7b1
          try clear c8
          try clear c8b0
          try clear c8b1
          try clear c9
          try clear c11
          try clear c17
          try clear hcz18_0
          try clear hcz18_1
          try clear hcz18_2
          try clear hfz18_0
          try clear hfz18_1
          try clear hfz18_2
          try clear p2
          obtain ⟨x10_2, x256000_2, x256001_2, x256002_2, x256003_2, x256004_2, rfl, HA, HK2, BK269, HI255, HB⟩ := hrel
          cases gk with
          | zero => exact absurd HA.out (by simp [decklelaw04_CursorStays.l0])
          | succ k2 =>
            have H := HA.out
            clear HA
            simp only [decklelaw04_CursorStays.l0] at H
            by_cases c19 : x10_2 < (l2.length : Int)
            · rw [if_pos c19] at H
              have c19b0 : decide (x10_2 < (l2.length : Int)) = true := decide_eq_true c19
              clear c19
              by_cases c20 : 0 ≤ x10_2
              · rw [if_pos c20] at H
                have c20b0 : decide (0 ≤ x10_2) = true := decide_eq_true c20
                clear c20
                have HC21 := Aside0.mk H
                clear H
                have p278 : 0 ≤ (x10_2 : Int) := of_decide_eq_true (by first | (with_reducible assumption) | assumption)
                have q278 : x10_2 < (l2.length : Int) := of_decide_eq_true (by first | (with_reducible assumption) | assumption)
                obtain ⟨ad278, e278, hx278_0, hx278_1⟩ := at_T42 HR2.out x10_2 p278 q278
                cases e278
                replace hx278_0 := (HB.out.cell (World.block_lt_of_cell? w _ hx278_0)).trans hx278_0
                replace hx278_1 := (HB.out.cell (World.block_lt_of_cell? w _ hx278_1)).trans hx278_1
                replace p278 := eq_true p278
                replace q278 := eq_true q278
                go_upto_block 2 with (fail)
                go_cut [11] (fun v11 wc => ∃ (kq : Nat) (x11_20 : Bool) (x256000_20 : Int) (x256001_20 : Int) (x256002_20 : Int) (x256003_20 : Int) (x256004_20 : (List Int)), v11 = .bool x11_20 ∧ Aside0 (decklelaw04_CursorStays.j2 kq l2 t249 x10_2 x11_20 x256000_20 x256001_20 x256002_20 x256003_20 x256004_20 a1 0 (wrap64 (3 + (wrap64 ((l0.length : Int) / 2)))) = some r) ∧ Aside0 (kq ≤ k2) ∧ Aside0 (wc.heap[gb269]? = some (.cells #[.int .i64 a1, .int .i64 0, .int .i64 (wrap64 (3 + (wrap64 ((l0.length : Int) / 2))))] 31 (0, 0))) ∧ Aside0 (IsS35 w wc g255 x256000_20 x256001_20 x256002_20 x256003_20 x256004_20) ∧ Aside0 (Below w.heap.size w wc))
                case first =>
                  have H := HC21.out
                  clear HC21
                  by_cases c22 : ((rd_T42 l2 x10_2).f0) = 0
                  · rw [if_pos c22] at H
                    have c22b0 : (((rd_T42 l2 x10_2).f0) == 0) = true := beq_iff_eq.mpr c22
                    have c22b1 : (((rd_T42 l2 x10_2).f0) != 0) = false := bne_eq_false_iff_eq.mpr c22
                    clear c22
                    (first | rw [c22b0] | (simp only [i64_w, i32_w]; rw [c22b0]) | skip)
                    replace H := Option.bind_eq_some_iff.mp H
                    obtain ⟨⟨t279, t280, t281, t282, t283, t284⟩, A230, H⟩ := H
                    replace H : (decklelaw04_CursorStays.j2 k2 l2 t249 x10_2 (t279 == 0) t280 t281 t282 t283 t284 a1 0 (wrap64 (3 + (wrap64 ((l0.length : Int) / 2))))) = some r := H
                    have A23 := Aside0.mk A230
                    clear A230
                    have H' := Aside0.mk H
                    clear H
                    go_wp2_with (first | ((with_reducible refine gate_callee (f := 15) rfl ?_); refine goesL_ (some 58) rfl rfl Try.func15 (by kernel_rfl) rfl #[.pointer (some ⟨g255, 0, none⟩)] rfl (by (try simp only [List.map_toArray, List.map_cons, List.map_nil]); first | done | rfl | (simp only [List.length_drop, List.length_take]; rfl)) ?_; (with_reducible refine (cursor_Cursor_Byte.calls g255 x256000_2 x256001_2 x256002_2 x256003_2 x256004_2 t279 t280 t281 t282 t283 t284 w _ ?side1 ?side2 A23.out).mono ?_); (case side1 => repeat (first | (with_reducible first | exact HI255.out | apply IsS35.alloc | apply IsS35.drewN | apply IsS35.drew | apply IsS35.set_0 | apply IsS35.set_1 | apply IsS35.set_2 | apply IsS35.set_3 | apply IsS35.set_4 | refine IsS35.far ?_ NB255_269.out (by repeat (first | exact TypeAt.mk BK269.out | apply TypeAt.set | apply TypeAt.alloc | apply TypeAt.drewN | apply TypeAt.drew)) (by decide) _) | exact HI255.out)); (case side2 => repeat (first | (with_reducible first | exact HB.out | apply below_alloc | apply pw_below_drewN | apply below_drew1 | refine below_set ?_ (IsS35.ge HI255.out) | refine below_set ?_ GE269.out) | exact HB.out)); rintro e w24 ⟨rfl, hi, hb, hk⟩; refine ⟨_, rfl, ?_⟩; have n0_ := Aside0.mk (KeepBut.blk hk (g' := gb269) (o := .cells #[.int .i64 a1, .int .i64 0, .int .i64 (wrap64 (3 + (wrap64 ((l0.length : Int) / 2))))] 31 (0, 0)) (by (with_reducible repeat (first | refine blk_drewN ?_ _ | refine blk_drew ?_ | refine blk_alloc ?_ _)); exact BK269.out) NB269_255.out (by simp)); have n1_ := Aside0.mk (hb); have n2_ := Aside0.mk (hi); clear BK269; clear HB; clear HI255; have BK269 := n0_; have HB := n1_; have HI255 := n2_; clear n0_ n1_ n2_; (try clear hb); (try clear hb2); (try clear hk); (try clear hi)))
                    go_meet
                    case rel => exact ⟨_, ((t279 == 0)), (t280), (t281), (t282), (t283), (t284), (by first | rfl | (simp; done) | (simp [*]; done)), H', ⟨by have := HJ4.out; have := HK2.out; first | omega | exact Nat.le_refl _⟩, ⟨by (with_reducible repeat (first | refine blk_drewN ?_ _ | refine blk_drew ?_ | refine blk_alloc ?_ _)); exact BK269.out⟩, ⟨by repeat (first | (with_reducible first | exact HI255.out | apply IsS35.alloc | apply IsS35.drewN | apply IsS35.drew | apply IsS35.set_0 | apply IsS35.set_1 | apply IsS35.set_2 | apply IsS35.set_3 | apply IsS35.set_4 | refine IsS35.far ?_ NB255_269.out (by repeat (first | exact TypeAt.mk BK269.out | apply TypeAt.set | apply TypeAt.alloc | apply TypeAt.drewN | apply TypeAt.drew)) (by decide) _) | exact HI255.out)⟩, ⟨by repeat (first | (with_reducible first | exact HB.out | apply below_alloc | apply pw_below_drewN | apply below_drew1 | refine below_set ?_ (IsS35.ge HI255.out) | refine below_set ?_ GE269.out) | exact HB.out)⟩⟩
                  · rw [if_neg c22] at H
                    have c22b0 : (((rd_T42 l2 x10_2).f0) == 0) = false := beq_eq_false_iff_ne.mpr c22
                    have c22b1 : (((rd_T42 l2 x10_2).f0) != 0) = true := bne_iff_ne.mpr c22
                    (first | rw [c22b0] | (simp only [i64_w, i32_w]; rw [c22b0]) | skip)
                    by_cases c25 : ((rd_T42 l2 x10_2).f0) = 1
                    · rw [if_pos c25] at H
                      have c25b0 : (((rd_T42 l2 x10_2).f0) == 1) = true := beq_iff_eq.mpr c25
                      have c25b1 : (((rd_T42 l2 x10_2).f0) != 1) = false := bne_eq_false_iff_eq.mpr c25
                      clear c25
                      replace H := Option.bind_eq_some_iff.mp H
                      obtain ⟨⟨t286, t287, t288, t289, t290, t291⟩, A260, H⟩ := H
                      replace H : (decklelaw04_CursorStays.j2 k2 l2 t249 x10_2 (t286 == 0) t287 t288 t289 t290 t291 a1 0 (wrap64 (3 + (wrap64 ((l0.length : Int) / 2))))) = some r := H
                      have A26 := Aside0.mk A260
                      clear A260
                      have H' := Aside0.mk H
                      clear H
                      have p285 : 0 ≤ (x10_2 : Int) := of_decide_eq_true (by first | (with_reducible assumption) | assumption)
                      have q285 : x10_2 < (l2.length : Int) := of_decide_eq_true (by first | (with_reducible assumption) | assumption)
                      obtain ⟨ad285, e285, hx285_0, hx285_1⟩ := at_T42 HR2.out x10_2 p285 q285
                      obtain rfl : ad278 = ad285 := (by injection e285)
                      replace hx285_0 := (HB.out.cell (World.block_lt_of_cell? w _ hx285_0)).trans hx285_0
                      replace hx285_1 := (HB.out.cell (World.block_lt_of_cell? w _ hx285_1)).trans hx285_1
                      replace p285 := eq_true p285
                      replace q285 := eq_true q285
                      go_wp2_with (first | ((with_reducible refine gate_callee (f := 17) rfl ?_); refine goesL_ (some 68) rfl rfl Try.func17 (by kernel_rfl) rfl #[.pointer (some ⟨g255, 0, none⟩), .int .i64 ((rd_T42 l2 x10_2).f1)] rfl (by (try simp only [List.map_toArray, List.map_cons, List.map_nil]); first | done | rfl | (simp only [List.length_drop, List.length_take]; rfl)) ?_; (with_reducible refine (cursor_Cursor_Num.calls k2 g255 x256000_2 x256001_2 x256002_2 x256003_2 x256004_2 ((rd_T42 l2 x10_2).f1) t286 t287 t288 t289 t290 t291 w _ ?side1 ?side2 A26.out).mono ?_); (case side1 => repeat (first | (with_reducible first | exact HI255.out | apply IsS35.alloc | apply IsS35.drewN | apply IsS35.drew | apply IsS35.set_0 | apply IsS35.set_1 | apply IsS35.set_2 | apply IsS35.set_3 | apply IsS35.set_4 | refine IsS35.far ?_ NB255_269.out (by repeat (first | exact TypeAt.mk BK269.out | apply TypeAt.set | apply TypeAt.alloc | apply TypeAt.drewN | apply TypeAt.drew)) (by decide) _) | exact HI255.out)); (case side2 => repeat (first | (with_reducible first | exact HB.out | apply below_alloc | apply pw_below_drewN | apply below_drew1 | refine below_set ?_ (IsS35.ge HI255.out) | refine below_set ?_ GE269.out) | exact HB.out)); rintro e w27 ⟨rfl, hi, hb, hk⟩; refine ⟨_, rfl, ?_⟩; have n0_ := Aside0.mk (KeepBut.blk hk (g' := gb269) (o := .cells #[.int .i64 a1, .int .i64 0, .int .i64 (wrap64 (3 + (wrap64 ((l0.length : Int) / 2))))] 31 (0, 0)) (by (with_reducible repeat (first | refine blk_drewN ?_ _ | refine blk_drew ?_ | refine blk_alloc ?_ _)); exact BK269.out) NB269_255.out (by simp)); have n1_ := Aside0.mk (hb); have n2_ := Aside0.mk (hi); clear BK269; clear HB; clear HI255; have BK269 := n0_; have HB := n1_; have HI255 := n2_; clear n0_ n1_ n2_; (try clear hb); (try clear hb2); (try clear hk); (try clear hi)))
                      go_meet
                      case rel => exact ⟨_, ((t286 == 0)), (t287), (t288), (t289), (t290), (t291), (by first | rfl | (simp; done) | (simp [*]; done)), H', ⟨by have := HJ4.out; have := HK2.out; first | omega | exact Nat.le_refl _⟩, ⟨by (with_reducible repeat (first | refine blk_drewN ?_ _ | refine blk_drew ?_ | refine blk_alloc ?_ _)); exact BK269.out⟩, ⟨by repeat (first | (with_reducible first | exact HI255.out | apply IsS35.alloc | apply IsS35.drewN | apply IsS35.drew | apply IsS35.set_0 | apply IsS35.set_1 | apply IsS35.set_2 | apply IsS35.set_3 | apply IsS35.set_4 | refine IsS35.far ?_ NB255_269.out (by repeat (first | exact TypeAt.mk BK269.out | apply TypeAt.set | apply TypeAt.alloc | apply TypeAt.drewN | apply TypeAt.drew)) (by decide) _) | exact HI255.out)⟩, ⟨by repeat (first | (with_reducible first | exact HB.out | apply below_alloc | apply pw_below_drewN | apply below_drew1 | refine below_set ?_ (IsS35.ge HI255.out) | refine below_set ?_ GE269.out) | exact HB.out)⟩⟩
                    · rw [if_neg c25] at H
                      have c25b0 : (((rd_T42 l2 x10_2).f0) == 1) = false := beq_eq_false_iff_ne.mpr c25
                      have c25b1 : (((rd_T42 l2 x10_2).f0) != 1) = true := bne_iff_ne.mpr c25
                      by_cases c28 : ((rd_T42 l2 x10_2).f0) = 2
                      · rw [if_pos c28] at H
                        have c28b0 : (((rd_T42 l2 x10_2).f0) == 2) = true := beq_iff_eq.mpr c28
                        have c28b1 : (((rd_T42 l2 x10_2).f0) != 2) = false := bne_eq_false_iff_eq.mpr c28
                        clear c28
                        replace H := Option.bind_eq_some_iff.mp H
                        obtain ⟨⟨t292, t293, t294, t295, t296, t297⟩, A290, H⟩ := H
                        replace H : (decklelaw04_CursorStays.j2 k2 l2 t249 x10_2 (t292 == 0) t293 t294 t295 t296 t297 a1 0 (wrap64 (3 + (wrap64 ((l0.length : Int) / 2))))) = some r := H
                        have A29 := Aside0.mk A290
                        clear A290
                        have H' := Aside0.mk H
                        clear H
                        go_wp2_with (first | ((with_reducible refine gate_callee (f := 19) rfl ?_); refine goesL_ (some 73) rfl rfl Try.func19 (by kernel_rfl) rfl #[.pointer (some ⟨g255, 0, none⟩)] rfl (by (try simp only [List.map_toArray, List.map_cons, List.map_nil]); first | done | rfl | (simp only [List.length_drop, List.length_take]; rfl)) ?_; (with_reducible refine (cursor_Cursor_Int.calls k2 g255 x256000_2 x256001_2 x256002_2 x256003_2 x256004_2 t292 t293 t294 t295 t296 t297 w _ ?side1 ?side2 A29.out).mono ?_); (case side1 => repeat (first | (with_reducible first | exact HI255.out | apply IsS35.alloc | apply IsS35.drewN | apply IsS35.drew | apply IsS35.set_0 | apply IsS35.set_1 | apply IsS35.set_2 | apply IsS35.set_3 | apply IsS35.set_4 | refine IsS35.far ?_ NB255_269.out (by repeat (first | exact TypeAt.mk BK269.out | apply TypeAt.set | apply TypeAt.alloc | apply TypeAt.drewN | apply TypeAt.drew)) (by decide) _) | exact HI255.out)); (case side2 => repeat (first | (with_reducible first | exact HB.out | apply below_alloc | apply pw_below_drewN | apply below_drew1 | refine below_set ?_ (IsS35.ge HI255.out) | refine below_set ?_ GE269.out) | exact HB.out)); rintro e w30 ⟨rfl, hi, hb, hk⟩; refine ⟨_, rfl, ?_⟩; have n0_ := Aside0.mk (KeepBut.blk hk (g' := gb269) (o := .cells #[.int .i64 a1, .int .i64 0, .int .i64 (wrap64 (3 + (wrap64 ((l0.length : Int) / 2))))] 31 (0, 0)) (by (with_reducible repeat (first | refine blk_drewN ?_ _ | refine blk_drew ?_ | refine blk_alloc ?_ _)); exact BK269.out) NB269_255.out (by simp)); have n1_ := Aside0.mk (hb); have n2_ := Aside0.mk (hi); clear BK269; clear HB; clear HI255; have BK269 := n0_; have HB := n1_; have HI255 := n2_; clear n0_ n1_ n2_; (try clear hb); (try clear hb2); (try clear hk); (try clear hi)))
                        go_meet
                        case rel => exact ⟨_, ((t292 == 0)), (t293), (t294), (t295), (t296), (t297), (by first | rfl | (simp; done) | (simp [*]; done)), H', ⟨by have := HJ4.out; have := HK2.out; first | omega | exact Nat.le_refl _⟩, ⟨by (with_reducible repeat (first | refine blk_drewN ?_ _ | refine blk_drew ?_ | refine blk_alloc ?_ _)); exact BK269.out⟩, ⟨by repeat (first | (with_reducible first | exact HI255.out | apply IsS35.alloc | apply IsS35.drewN | apply IsS35.drew | apply IsS35.set_0 | apply IsS35.set_1 | apply IsS35.set_2 | apply IsS35.set_3 | apply IsS35.set_4 | refine IsS35.far ?_ NB255_269.out (by repeat (first | exact TypeAt.mk BK269.out | apply TypeAt.set | apply TypeAt.alloc | apply TypeAt.drewN | apply TypeAt.drew)) (by decide) _) | exact HI255.out)⟩, ⟨by repeat (first | (with_reducible first | exact HB.out | apply below_alloc | apply pw_below_drewN | apply below_drew1 | refine below_set ?_ (IsS35.ge HI255.out) | refine below_set ?_ GE269.out) | exact HB.out)⟩⟩
                      · rw [if_neg c28] at H
                        have c28b0 : (((rd_T42 l2 x10_2).f0) == 2) = false := beq_eq_false_iff_ne.mpr c28
                        have c28b1 : (((rd_T42 l2 x10_2).f0) != 2) = true := bne_iff_ne.mpr c28
                        by_cases c31 : ((rd_T42 l2 x10_2).f0) = 3
                        · rw [if_pos c31] at H
                          have c31b0 : (((rd_T42 l2 x10_2).f0) == 3) = true := beq_iff_eq.mpr c31
                          have c31b1 : (((rd_T42 l2 x10_2).f0) != 3) = false := bne_eq_false_iff_eq.mpr c31
                          clear c31
                          replace H := Option.bind_eq_some_iff.mp H
                          obtain ⟨⟨t299, t302, t303, t304, t305, t306⟩, A320, H⟩ := H
                          replace H : (decklelaw04_CursorStays.j2 k2 l2 t249 x10_2 ((t299.length : Int) == 0) t302 t303 t304 t305 t306 a1 0 (wrap64 (3 + (wrap64 ((l0.length : Int) / 2))))) = some r := H
                          have A32 := Aside0.mk A320
                          clear A320
                          have H' := Aside0.mk H
                          clear H
                          have p298 : 0 ≤ (x10_2 : Int) := of_decide_eq_true (by first | (with_reducible assumption) | assumption)
                          have q298 : x10_2 < (l2.length : Int) := of_decide_eq_true (by first | (with_reducible assumption) | assumption)
                          obtain ⟨ad298, e298, hx298_0, hx298_1⟩ := at_T42 HR2.out x10_2 p298 q298
                          obtain rfl : ad278 = ad298 := (by injection e298)
                          replace hx298_0 := (HB.out.cell (World.block_lt_of_cell? w _ hx298_0)).trans hx298_0
                          replace hx298_1 := (HB.out.cell (World.block_lt_of_cell? w _ hx298_1)).trans hx298_1
                          replace p298 := eq_true p298
                          replace q298 := eq_true q298
                          go_wp2_with (first | ((with_reducible refine gate_callee (f := 11) rfl ?_); refine goesL_ (some 83) rfl rfl Try.func11 (by kernel_rfl) rfl #[.pointer (some ⟨g255, 0, none⟩), .int .i64 ((rd_T42 l2 x10_2).f1)] rfl (by (try simp only [List.map_toArray, List.map_cons, List.map_nil]); first | done | rfl | (simp only [List.length_drop, List.length_take]; rfl)) ?_; (with_reducible refine (cursor_Cursor_Take.calls g255 x256000_2 x256001_2 x256002_2 x256003_2 x256004_2 ((rd_T42 l2 x10_2).f1) t299 t302 t303 t304 t305 t306 w _ ?side1 ?side2 A32.out).mono ?_); (case side1 => repeat (first | (with_reducible first | exact HI255.out | apply IsS35.alloc | apply IsS35.drewN | apply IsS35.drew | apply IsS35.set_0 | apply IsS35.set_1 | apply IsS35.set_2 | apply IsS35.set_3 | apply IsS35.set_4 | refine IsS35.far ?_ NB255_269.out (by repeat (first | exact TypeAt.mk BK269.out | apply TypeAt.set | apply TypeAt.alloc | apply TypeAt.drewN | apply TypeAt.drew)) (by decide) _) | exact HI255.out)); (case side2 => repeat (first | (with_reducible first | exact HB.out | apply below_alloc | apply pw_below_drewN | apply below_drew1 | refine below_set ?_ (IsS35.ge HI255.out) | refine below_set ?_ GE269.out) | exact HB.out)); rintro e w33 ⟨v300, rfl, ho0, hi, hb, hk⟩; refine ⟨_, rfl, ?_⟩; have n0_ := Aside0.mk (KeepBut.blk hk (g' := gb269) (o := .cells #[.int .i64 a1, .int .i64 0, .int .i64 (wrap64 (3 + (wrap64 ((l0.length : Int) / 2))))] 31 (0, 0)) (by (with_reducible repeat (first | refine blk_drewN ?_ _ | refine blk_drew ?_ | refine blk_alloc ?_ _)); exact BK269.out) NB269_255.out (by simp)); have n1_ := Aside0.mk (Kd.R_lower ho0 (below_size (by repeat (first | (with_reducible first | exact HB.out | apply below_alloc | apply pw_below_drewN | apply below_drew1 | refine below_set ?_ (IsS35.ge HI255.out) | refine below_set ?_ GE269.out) | exact HB.out)))); have n2_ := Aside0.mk (hb); have n3_ := Aside0.mk (hi); clear BK269; clear HB; clear HI255; have BK269 := n0_; have HO301 := n1_; have HB := n2_; have HI255 := n3_; clear n0_ n1_ n2_ n3_; (try clear hb); (try clear hb2); (try clear hk); (try clear hi); (try clear ho0); obtain ⟨Ao34, co34, eo34⟩ := Kd.R_slice HO301.out; subst eo34))
                          go_meet
                          case rel => exact ⟨_, (((t299.length : Int) == 0)), (t302), (t303), (t304), (t305), (t306), (by first | rfl | (simp; done) | (simp [*]; done)), H', ⟨by have := HJ4.out; have := HK2.out; first | omega | exact Nat.le_refl _⟩, ⟨by (with_reducible repeat (first | refine blk_drewN ?_ _ | refine blk_drew ?_ | refine blk_alloc ?_ _)); exact BK269.out⟩, ⟨by repeat (first | (with_reducible first | exact HI255.out | apply IsS35.alloc | apply IsS35.drewN | apply IsS35.drew | apply IsS35.set_0 | apply IsS35.set_1 | apply IsS35.set_2 | apply IsS35.set_3 | apply IsS35.set_4 | refine IsS35.far ?_ NB255_269.out (by repeat (first | exact TypeAt.mk BK269.out | apply TypeAt.set | apply TypeAt.alloc | apply TypeAt.drewN | apply TypeAt.drew)) (by decide) _) | exact HI255.out)⟩, ⟨by repeat (first | (with_reducible first | exact HB.out | apply below_alloc | apply pw_below_drewN | apply below_drew1 | refine below_set ?_ (IsS35.ge HI255.out) | refine below_set ?_ GE269.out) | exact HB.out)⟩⟩
                        · rw [if_neg c31] at H
                          have c31b0 : (((rd_T42 l2 x10_2).f0) == 3) = false := beq_eq_false_iff_ne.mpr c31
                          have c31b1 : (((rd_T42 l2 x10_2).f0) != 3) = true := bne_iff_ne.mpr c31
                          by_cases c35 : ((rd_T42 l2 x10_2).f0) = 4
                          · rw [if_pos c35] at H
                            have c35b0 : (((rd_T42 l2 x10_2).f0) == 4) = true := beq_iff_eq.mpr c35
                            have c35b1 : (((rd_T42 l2 x10_2).f0) != 4) = false := bne_eq_false_iff_eq.mpr c35
                            clear c35
                            replace H := Option.bind_eq_some_iff.mp H
                            obtain ⟨⟨t308, t309, t310, t311, t312⟩, A360, H⟩ := H
                            replace H : (decklelaw04_CursorStays.j2 k2 l2 t249 x10_2 true t308 t309 t310 t311 t312 a1 0 (wrap64 (3 + (wrap64 ((l0.length : Int) / 2))))) = some r := H
                            have A36 := Aside0.mk A360
                            clear A360
                            have H' := Aside0.mk H
                            clear H
                            have p307 : 0 ≤ (x10_2 : Int) := of_decide_eq_true (by first | (with_reducible assumption) | assumption)
                            have q307 : x10_2 < (l2.length : Int) := of_decide_eq_true (by first | (with_reducible assumption) | assumption)
                            obtain ⟨ad307, e307, hx307_0, hx307_1⟩ := at_T42 HR2.out x10_2 p307 q307
                            obtain rfl : ad278 = ad307 := (by injection e307)
                            replace hx307_0 := (HB.out.cell (World.block_lt_of_cell? w _ hx307_0)).trans hx307_0
                            replace hx307_1 := (HB.out.cell (World.block_lt_of_cell? w _ hx307_1)).trans hx307_1
                            replace p307 := eq_true p307
                            replace q307 := eq_true q307
                            go_wp2_with (first | ((with_reducible refine gate_callee (f := 22) rfl ?_); refine goesL_ (some 94) rfl rfl Try.func22 (by kernel_rfl) rfl #[.pointer (some ⟨g255, 0, none⟩), .int .i64 ((rd_T42 l2 x10_2).f1)] rfl (by (try simp only [List.map_toArray, List.map_cons, List.map_nil]); first | done | rfl | (simp only [List.length_drop, List.length_take]; rfl)) ?_; (with_reducible refine (cursor_Cursor_Fail.calls g255 x256000_2 x256001_2 x256002_2 x256003_2 x256004_2 ((rd_T42 l2 x10_2).f1) t308 t309 t310 t311 t312 w _ ?side1 ?side2 A36.out).mono ?_); (case side1 => repeat (first | (with_reducible first | exact HI255.out | apply IsS35.alloc | apply IsS35.drewN | apply IsS35.drew | apply IsS35.set_0 | apply IsS35.set_1 | apply IsS35.set_2 | apply IsS35.set_3 | apply IsS35.set_4 | refine IsS35.far ?_ NB255_269.out (by repeat (first | exact TypeAt.mk BK269.out | apply TypeAt.set | apply TypeAt.alloc | apply TypeAt.drewN | apply TypeAt.drew)) (by decide) _) | exact HI255.out)); (case side2 => repeat (first | (with_reducible first | exact HB.out | apply below_alloc | apply pw_below_drewN | apply below_drew1 | refine below_set ?_ (IsS35.ge HI255.out) | refine below_set ?_ GE269.out) | exact HB.out)); rintro e w37 ⟨rfl, hi, hb, hk⟩; refine ⟨_, rfl, ?_⟩; have n0_ := Aside0.mk (KeepBut.blk hk (g' := gb269) (o := .cells #[.int .i64 a1, .int .i64 0, .int .i64 (wrap64 (3 + (wrap64 ((l0.length : Int) / 2))))] 31 (0, 0)) (by (with_reducible repeat (first | refine blk_drewN ?_ _ | refine blk_drew ?_ | refine blk_alloc ?_ _)); exact BK269.out) NB269_255.out (by simp)); have n1_ := Aside0.mk (hb); have n2_ := Aside0.mk (hi); clear BK269; clear HB; clear HI255; have BK269 := n0_; have HB := n1_; have HI255 := n2_; clear n0_ n1_ n2_; (try clear hb); (try clear hb2); (try clear hk); (try clear hi)))
                            go_meet
                            case rel => exact ⟨_, (true), (t308), (t309), (t310), (t311), (t312), (by first | rfl | (simp; done) | (simp [*]; done)), H', ⟨by have := HJ4.out; have := HK2.out; first | omega | exact Nat.le_refl _⟩, ⟨by (with_reducible repeat (first | refine blk_drewN ?_ _ | refine blk_drew ?_ | refine blk_alloc ?_ _)); exact BK269.out⟩, ⟨by repeat (first | (with_reducible first | exact HI255.out | apply IsS35.alloc | apply IsS35.drewN | apply IsS35.drew | apply IsS35.set_0 | apply IsS35.set_1 | apply IsS35.set_2 | apply IsS35.set_3 | apply IsS35.set_4 | refine IsS35.far ?_ NB255_269.out (by repeat (first | exact TypeAt.mk BK269.out | apply TypeAt.set | apply TypeAt.alloc | apply TypeAt.drewN | apply TypeAt.drew)) (by decide) _) | exact HI255.out)⟩, ⟨by repeat (first | (with_reducible first | exact HB.out | apply below_alloc | apply pw_below_drewN | apply below_drew1 | refine below_set ?_ (IsS35.ge HI255.out) | refine below_set ?_ GE269.out) | exact HB.out)⟩⟩
                          · rw [if_neg c35] at H
                            have c35b0 : (((rd_T42 l2 x10_2).f0) == 4) = false := beq_eq_false_iff_ne.mpr c35
                            have c35b1 : (((rd_T42 l2 x10_2).f0) != 4) = true := bne_iff_ne.mpr c35
                            have H' := Aside0.mk H
                            clear H
                            go_wp2
                            go_meet
                            case rel => exact ⟨_, (true), (x256000_2), (x256001_2), (x256002_2), (x256003_2), (x256004_2), (by first | rfl | (simp; done) | (simp [*]; done)), H', ⟨by have := HJ4.out; have := HK2.out; first | omega | exact Nat.le_refl _⟩, ⟨by (with_reducible repeat (first | refine blk_drewN ?_ _ | refine blk_drew ?_ | refine blk_alloc ?_ _)); exact BK269.out⟩, ⟨by repeat (first | (with_reducible first | exact HI255.out | apply IsS35.alloc | apply IsS35.drewN | apply IsS35.drew | apply IsS35.set_0 | apply IsS35.set_1 | apply IsS35.set_2 | apply IsS35.set_3 | apply IsS35.set_4 | refine IsS35.far ?_ NB255_269.out (by repeat (first | exact TypeAt.mk BK269.out | apply TypeAt.set | apply TypeAt.alloc | apply TypeAt.drewN | apply TypeAt.drew)) (by decide) _) | exact HI255.out)⟩, ⟨by repeat (first | (with_reducible first | exact HB.out | apply below_alloc | apply pw_below_drewN | apply below_drew1 | refine below_set ?_ (IsS35.ge HI255.out) | refine below_set ?_ GE269.out) | exact HB.out)⟩⟩
                case rest =>
                  clear HC21
                  try clear c1
                  try clear c2
                  try clear p2
                  try clear q2
                  try clear hx2
                  try clear c3
                  try clear p3
                  try clear q3
                  try clear hx3
                  try clear c5
                  try clear p6
                  try clear c7
                  try clear c7b0
                  try clear c7b1
                  try clear c8
                  try clear c8b0
                  try clear c8b1
                  try clear c9
                  try clear c11
                  try clear c15
                  try clear c17
                  try clear c19
                  try clear c19b0
                  try clear c20
                  try clear c20b0
                  try clear c22
                  try clear c22b0
                  try clear c22b1
                  try clear c25
                  try clear c25b0
                  try clear c25b1
                  try clear p27
                  try clear q27
                  try clear hx27
                  try clear c28
                  try clear c28b0
                  try clear c28b1
                  try clear p28
                  try clear q28
                  try clear hx28
                  try clear p29
                  try clear q29
                  try clear hx29
                  try clear p30
                  try clear q30
                  try clear hx30
                  try clear c31
                  try clear c31b0
                  try clear c31b1
                  try clear c35
                  try clear c35b0
                  try clear c35b1
                  try clear hcz18_0
                  try clear hcz18_1
                  try clear hcz18_2
                  try clear hfz18_0
                  try clear hfz18_1
                  try clear hfz18_2
                  try clear hx278_0
                  try clear hx278_1
                  try clear hx285_0
                  try clear hx285_1
                  try clear hx298_0
                  try clear hx298_1
                  try clear hx307_0
                  try clear hx307_1
                  try clear p2
                  try clear p278
                  try clear p285
                  try clear p298
                  try clear p307
                  try clear p6
                  try clear q278
                  try clear q285
                  try clear q298
                  try clear q307
                  obtain ⟨kq, x11_20, x256000_20, x256001_20, x256002_20, x256003_20, x256004_20, rfl, HA, HJ20, BK269, HI255, HB⟩ := hcut
                  cases kq with
                  | zero => exact absurd HA.out (by simp [decklelaw04_CursorStays.j2])
                  | succ kj20 =>
                    have H := HA.out
                    clear HA
                    simp only [decklelaw04_CursorStays.j2] at H
                    by_cases c38 : x11_20 = true
                    · subst c38
                      have H1 : ((cursor_place_Fault.f x256000_20 x256001_20 x256002_20 x256003_20 x256004_20).bind fun bt313 => (if (!(bt313.1 == a1) || (!(bt313.2.1 == 0) || (!(bt313.2.2.1 == (wrap64 (3 + (wrap64 ((l0.length : Int) / 2)))))))) = true then (none) else ((cursor_Cursor_End.f bt313.2.2.2.1 bt313.2.2.2.2.1 bt313.2.2.2.2.2.1 bt313.2.2.2.2.2.2.1 bt313.2.2.2.2.2.2.2).bind fun bt321 => (if (!(bt321.1 == a1) || (!(bt321.2.1 == 0) || (!(bt321.2.2.1 == (wrap64 (3 + (wrap64 ((l0.length : Int) / 2)))))))) = true then (none) else ((cursor_Cursor_Left.f bt321.2.2.2.1 bt321.2.2.2.2.1 bt321.2.2.2.2.2.1 bt321.2.2.2.2.2.2.1 bt321.2.2.2.2.2.2.2).bind fun bt329 => (if bt329.1 = 0 then ((cursor_place_At.f bt329.2.1 bt329.2.2.1 bt329.2.2.2.1 bt329.2.2.2.2.1 bt329.2.2.2.2.2).bind fun bt335 => (if bt335.1 = (wrap64 (3 + (wrap64 ((l0.length : Int) / 2)))) then (decklelaw04_CursorStays.l0 kj20 l2 t249 (wrap64 (x10_2 + 1)) bt335.2.1 bt335.2.2.1 bt335.2.2.2.1 bt335.2.2.2.2.1 bt335.2.2.2.2.2 a1 0 (wrap64 (3 + (wrap64 ((l0.length : Int) / 2))))) else (none))) else (none))))))) = some r := by rw [if_pos rfl] at H; exact H
                      clear H
                      have H := H1
                      clear H1
                      replace H := Option.bind_eq_some_iff.mp H
                      obtain ⟨⟨t313, t314, t315, t316, t317, t318, t319, t320⟩, A390, H⟩ := H
                      replace H : (if (!(t313 == a1) || (!(t314 == 0) || (!(t315 == (wrap64 (3 + (wrap64 ((l0.length : Int) / 2)))))))) = true then (none) else ((cursor_Cursor_End.f t316 t317 t318 t319 t320).bind fun bt321 => (if (!(bt321.1 == a1) || (!(bt321.2.1 == 0) || (!(bt321.2.2.1 == (wrap64 (3 + (wrap64 ((l0.length : Int) / 2)))))))) = true then (none) else ((cursor_Cursor_Left.f bt321.2.2.2.1 bt321.2.2.2.2.1 bt321.2.2.2.2.2.1 bt321.2.2.2.2.2.2.1 bt321.2.2.2.2.2.2.2).bind fun bt329 => (if bt329.1 = 0 then ((cursor_place_At.f bt329.2.1 bt329.2.2.1 bt329.2.2.2.1 bt329.2.2.2.2.1 bt329.2.2.2.2.2).bind fun bt335 => (if bt335.1 = (wrap64 (3 + (wrap64 ((l0.length : Int) / 2)))) then (decklelaw04_CursorStays.l0 kj20 l2 t249 (wrap64 (x10_2 + 1)) bt335.2.1 bt335.2.2.1 bt335.2.2.2.1 bt335.2.2.2.2.1 bt335.2.2.2.2.2 a1 0 (wrap64 (3 + (wrap64 ((l0.length : Int) / 2))))) else (none))) else (none)))))) = some r := H
                      have A39 := Aside0.mk A390
                      clear A390
                      by_cases c40 : (!(t313 == a1) || (!(t314 == 0) || (!(t315 == (wrap64 (3 + (wrap64 ((l0.length : Int) / 2)))))))) = true
                      · rw [if_pos c40] at H
                        exact absurd H (by simp)
                      · rw [if_neg c40] at H
                        have c40b0 : (!(t313 == a1) || (!(t314 == 0) || (!(t315 == (wrap64 (3 + (wrap64 ((l0.length : Int) / 2)))))))) = false := by simpa using c40
                        clear c40
                        replace H := Option.bind_eq_some_iff.mp H
                        obtain ⟨⟨t321, t322, t323, t324, t325, t326, t327, t328⟩, A410, H⟩ := H
                        replace H : (if (!(t321 == a1) || (!(t322 == 0) || (!(t323 == (wrap64 (3 + (wrap64 ((l0.length : Int) / 2)))))))) = true then (none) else ((cursor_Cursor_Left.f t324 t325 t326 t327 t328).bind fun bt329 => (if bt329.1 = 0 then ((cursor_place_At.f bt329.2.1 bt329.2.2.1 bt329.2.2.2.1 bt329.2.2.2.2.1 bt329.2.2.2.2.2).bind fun bt335 => (if bt335.1 = (wrap64 (3 + (wrap64 ((l0.length : Int) / 2)))) then (decklelaw04_CursorStays.l0 kj20 l2 t249 (wrap64 (x10_2 + 1)) bt335.2.1 bt335.2.2.1 bt335.2.2.2.1 bt335.2.2.2.2.1 bt335.2.2.2.2.2 a1 0 (wrap64 (3 + (wrap64 ((l0.length : Int) / 2))))) else (none))) else (none)))) = some r := H
                        have A41 := Aside0.mk A410
                        clear A410
                        by_cases c42 : (!(t321 == a1) || (!(t322 == 0) || (!(t323 == (wrap64 (3 + (wrap64 ((l0.length : Int) / 2)))))))) = true
                        · rw [if_pos c42] at H
                          exact absurd H (by simp)
                        · rw [if_neg c42] at H
                          have c42b0 : (!(t321 == a1) || (!(t322 == 0) || (!(t323 == (wrap64 (3 + (wrap64 ((l0.length : Int) / 2)))))))) = false := by simpa using c42
                          clear c42
                          replace H := Option.bind_eq_some_iff.mp H
                          obtain ⟨⟨t329, t330, t331, t332, t333, t334⟩, A430, H⟩ := H
                          replace H : (if t329 = 0 then ((cursor_place_At.f t330 t331 t332 t333 t334).bind fun bt335 => (if bt335.1 = (wrap64 (3 + (wrap64 ((l0.length : Int) / 2)))) then (decklelaw04_CursorStays.l0 kj20 l2 t249 (wrap64 (x10_2 + 1)) bt335.2.1 bt335.2.2.1 bt335.2.2.2.1 bt335.2.2.2.2.1 bt335.2.2.2.2.2 a1 0 (wrap64 (3 + (wrap64 ((l0.length : Int) / 2))))) else (none))) else (none)) = some r := H
                          have A43 := Aside0.mk A430
                          clear A430
                          by_cases c44 : t329 = 0
                          · rw [if_pos c44] at H
                            have c44b0 : (t329 == 0) = true := beq_iff_eq.mpr c44
                            have c44b1 : (t329 != 0) = false := bne_eq_false_iff_eq.mpr c44
                            clear c44
                            replace H := Option.bind_eq_some_iff.mp H
                            obtain ⟨⟨t335, t336, t337, t338, t339, t340⟩, A450, H⟩ := H
                            replace H : (if t335 = (wrap64 (3 + (wrap64 ((l0.length : Int) / 2)))) then (decklelaw04_CursorStays.l0 kj20 l2 t249 (wrap64 (x10_2 + 1)) t336 t337 t338 t339 t340 a1 0 (wrap64 (3 + (wrap64 ((l0.length : Int) / 2))))) else (none)) = some r := H
                            have A45 := Aside0.mk A450
                            clear A450
                            by_cases c46 : t335 = (wrap64 (3 + (wrap64 ((l0.length : Int) / 2))))
                            · rw [if_pos c46] at H
                              have c46b0 : (t335 == (wrap64 (3 + (wrap64 ((l0.length : Int) / 2))))) = true := beq_iff_eq.mpr c46
                              have c46b1 : (t335 != (wrap64 (3 + (wrap64 ((l0.length : Int) / 2))))) = false := bne_eq_false_iff_eq.mpr c46
                              clear c46
                              have H' := Aside0.mk H
                              clear H
                              try go_wp2
                              have n0_ := Aside0.mk (blk_drew BK269.out)
                              have n1_ := Aside0.mk (IsS35.drew HI255.out)
                              have n2_ := Aside0.mk (below_drew1 HB.out)
                              clear BK269
                              clear HI255
                              clear HB
                              have BK269 := n0_
                              have HI255 := n1_
                              have HB := n2_
                              clear n0_ n1_ n2_
                              refine start_ (n := 30) (S := fun w' => w'.cell? ⟨gb269, 0, none⟩ = some (.int .i64 a1) ∧ w'.cell? ⟨gb269, 1, none⟩ = some (.int .i64 0) ∧ w'.cell? ⟨gb269, 2, none⟩ = some (.int .i64 (wrap64 (3 + (wrap64 ((l0.length : Int) / 2)))))) (ds := []) #[false, false, false, false, false, false, false, false, false, false, false, false, false, false, false, false, false, false, false, false, false, false, false, false, false, false, false, false, false, false] (by kernel_rfl) rfl rfl ⟨(blk_cell BK269.out 0).trans rfl, (blk_cell BK269.out 1).trans rfl, (blk_cell BK269.out 2).trans rfl⟩ (fun hHeld => ?_); refine with_tabW decklelaw04_CursorStays.tab25 decklelaw04_CursorStays.bits25 (fun HT_ HW_ => ?_)
                              generalize wc.drew = w47 at BK269 HI255 HB hHeld ⊢
                              refine pure_ (i := 0) (N := some 95) (v := ?_) (a' := ?_) #[true, false, false, false, false, false, false, false, false, false, false, false, false, false, false, false, false, false, false, false, false, false, false, false, false, false, false, false, false, false] rfl rfl (any_of HT_.out (by kernel_rfl)) (fun _ _ _ h => h) (Or.inl ⟨by rfl, ?_⟩) ?_ ?_
                              rotate_left
                              · intro w'
                                go_simp
                                with_reducible rfl
                              rotate_left
                              · simp only [Act.put, List.setIfInBounds_toArray, List.set_cons_zero, List.set_cons_succ, i64_w, i32_w]
                                rfl
                              refine pure_ (i := 1) (N := some 96) (v := ?_) (a' := ?_) #[true, true, false, false, false, false, false, false, false, false, false, false, false, false, false, false, false, false, false, false, false, false, false, false, false, false, false, false, false, false] rfl rfl (any_of HT_.out (by kernel_rfl)) (fun _ _ _ h => h) (Or.inl ⟨by rfl, ?_⟩) ?_ ?_
                              rotate_left
                              · intro w'
                                go_simp
                                with_reducible rfl
                              rotate_left
                              · simp only [Act.put, List.setIfInBounds_toArray, List.set_cons_zero, List.set_cons_succ, i64_w, i32_w]
                                rfl
                              refine pure_ (i := 2) (N := some 97) (v := ?_) (a' := ?_) #[true, true, true, false, false, false, false, false, false, false, false, false, false, false, false, false, false, false, false, false, false, false, false, false, false, false, false, false, false, false] rfl rfl (any_of HT_.out (by kernel_rfl)) (fun _ _ _ h => h) (Or.inl ⟨by rfl, ?_⟩) ?_ ?_
                              rotate_left
                              · intro w'
                                go_simp
                                with_reducible rfl
                              rotate_left
                              · simp only [Act.put, List.setIfInBounds_toArray, List.set_cons_zero, List.set_cons_succ, i64_w, i32_w]
                                rfl
                              refine pure_ (i := 3) (N := some 98) (v := ?_) (a' := ?_) #[true, true, true, true, false, false, false, false, false, false, false, false, false, false, false, false, false, false, false, false, false, false, false, false, false, false, false, false, false, false] rfl rfl (any_of HT_.out (by kernel_rfl)) (fun _ _ _ h => h) (Or.inl ⟨by rfl, ?_⟩) ?_ ?_
                              rotate_left
                              · intro w'
                                go_simp
                                with_reducible rfl
                              rotate_left
                              · simp only [Act.put, List.setIfInBounds_toArray, List.set_cons_zero, List.set_cons_succ, i64_w, i32_w]
                                rfl
                              refine pure_ (i := 4) (N := some 99) (v := ?_) (a' := ?_) #[true, true, true, true, true, false, false, false, false, false, false, false, false, false, false, false, false, false, false, false, false, false, false, false, false, false, false, false, false, false] rfl rfl (any_of HT_.out (by kernel_rfl)) (fun _ _ _ h => h) (Or.inl ⟨by rfl, ?_⟩) ?_ ?_
                              rotate_left
                              · intro w'
                                go_simp
                                with_reducible rfl
                              rotate_left
                              · simp only [Act.put, List.setIfInBounds_toArray, List.set_cons_zero, List.set_cons_succ, i64_w, i32_w]
                                rfl
                              refine pure_ (i := 5) (N := some 100) (v := ?_) (a' := ?_) #[true, true, true, true, true, true, false, false, false, false, false, false, false, false, false, false, false, false, false, false, false, false, false, false, false, false, false, false, false, false] rfl rfl (any_of HT_.out (by kernel_rfl)) (fun _ _ _ h => h) (Or.inl ⟨by rfl, ?_⟩) ?_ ?_
                              rotate_left
                              · intro w'
                                go_simp
                                with_reducible rfl
                              rotate_left
                              · simp only [Act.put, List.setIfInBounds_toArray, List.set_cons_zero, List.set_cons_succ, i64_w, i32_w]
                                rfl
                              refine take_ (i := 7) (N := some 102) (v := ?_) (a' := ?_) #[true, true, true, true, true, true, false, true, false, false, false, false, false, false, false, false, false, false, false, false, false, false, false, false, false, false, false, false, false, false] rfl rfl (take_ofW HT_.out HW_.out (by kernel_rfl)) (fun _ _ _ h => h) (Or.inl ⟨by rfl, ?_⟩) hHeld ?_ ?_
                              rotate_left
                              · rintro w' ⟨s0, s1, s2⟩
                                go_simp
                                with_reducible rfl
                              rotate_left
                              · simp only [Act.put, List.setIfInBounds_toArray, List.set_cons_zero, List.set_cons_succ, i64_w, i32_w]
                                rfl
                              refine one_ (i := 6) (N := some 101) #[true, true, true, true, true, true, true, true, false, false, false, false, false, false, false, false, false, false, false, false, false, false, false, false, false, false, false, false, false, false] rfl rfl (one_of HT_.out (by kernel_rfl)) (by decide) (fun K hK => ?_)
                              refine goes_ Try.func13 (by kernel_rfl) rfl #[.pointer (some ⟨g255, 0, none⟩)] (by rfl) rfl rfl (by (try simp only [List.map_toArray, List.map_cons, List.map_nil]); first | done | rfl | (simp only [List.length_drop, List.length_take]; rfl)) ?_
                              with_reducible refine (cursor_place_Fault.calls g255 x256000_20 x256001_20 x256002_20 x256003_20 x256004_20 t313 t314 t315 t316 t317 t318 t319 t320 w _ ?side1 ?side2 A39.out).mono ?_
                              (case side1 => repeat (first | (with_reducible first | exact HI255.out | apply IsS35.alloc | apply IsS35.drewN | apply IsS35.drew | apply IsS35.set_0 | apply IsS35.set_1 | apply IsS35.set_2 | apply IsS35.set_3 | apply IsS35.set_4 | refine IsS35.far ?_ NB255_269.out (by repeat (first | exact TypeAt.mk BK269.out | apply TypeAt.set | apply TypeAt.alloc | apply TypeAt.drewN | apply TypeAt.drew)) (by decide) _) | exact HI255.out))
                              (case side2 => repeat (first | (with_reducible first | exact HB.out | apply below_alloc | apply pw_below_drewN | apply below_drew1 | refine below_set ?_ (IsS35.ge HI255.out) | refine below_set ?_ GE269.out) | exact HB.out))
                              rintro e w48 ⟨rfl, hi, hb, hk⟩
                              refine ⟨_, rfl, ?_⟩
                              have n0_ := Aside0.mk (KeepBut.blk hk (g' := gb269) (o := .cells #[.int .i64 a1, .int .i64 0, .int .i64 (wrap64 (3 + (wrap64 ((l0.length : Int) / 2))))] 31 (0, 0)) (by (with_reducible repeat (first | refine blk_drewN ?_ _ | refine blk_drew ?_ | refine blk_alloc ?_ _)); exact BK269.out) NB269_255.out (by simp))
                              have n1_ := Aside0.mk (hb)
                              have n2_ := Aside0.mk (hi)
                              clear BK269
                              clear HB
                              clear HI255
                              have BK269 := n0_
                              have HB := n1_
                              have HI255 := n2_
                              clear n0_ n1_ n2_
                              (try clear hb)
                              (try clear hb2)
                              (try clear hk)
                              (try clear hi)
                              refine hK.out _ _ ⟨(blk_cell BK269.out 0).trans rfl, (blk_cell BK269.out 1).trans rfl, (blk_cell BK269.out 2).trans rfl⟩ (fun hHeld => ?_)
                              clear hK K
                              refine norm_ (a' := ?_) ?_ ?_
                              rotate_left
                              · show Act.put _ (some 101) _ = _
                                simp only [Act.put, List.setIfInBounds_toArray, List.set_cons_zero, List.set_cons_succ, i64_w, i32_w]
                                rfl
                              refine pure_ (i := 8) (N := some 103) (v := ?_) (a' := ?_) #[true, true, true, true, true, true, true, true, true, false, false, false, false, false, false, false, false, false, false, false, false, false, false, false, false, false, false, false, false, false] rfl rfl (any_of HT_.out (by kernel_rfl)) (fun _ _ _ h => h) (Or.inl ⟨by rfl, ?_⟩) ?_ ?_
                              rotate_left
                              · intro w'
                                go_simp
                                with_reducible rfl
                              rotate_left
                              · simp only [Act.put, List.setIfInBounds_toArray, List.set_cons_zero, List.set_cons_succ, i64_w, i32_w]
                                rfl
                              refine pure_ (i := 9) (N := some 104) (v := ?_) (a' := ?_) #[true, true, true, true, true, true, true, true, true, true, false, false, false, false, false, false, false, false, false, false, false, false, false, false, false, false, false, false, false, false] rfl rfl (any_of HT_.out (by kernel_rfl)) (fun _ _ _ h => h) (Or.inl ⟨by rfl, ?_⟩) ?_ ?_
                              rotate_left
                              · intro w'
                                go_simp
                                with_reducible rfl
                              rotate_left
                              · simp only [Act.put, List.setIfInBounds_toArray, List.set_cons_zero, List.set_cons_succ, i64_w, i32_w]
                                rfl
                              refine pure_ (i := 10) (N := some 105) (v := ?_) (a' := ?_) #[true, true, true, true, true, true, true, true, true, true, true, false, false, false, false, false, false, false, false, false, false, false, false, false, false, false, false, false, false, false] rfl rfl (any_of HT_.out (by kernel_rfl)) (fun _ _ _ h => h) (Or.inl ⟨by rfl, ?_⟩) ?_ ?_
                              rotate_left
                              · intro w'
                                go_simp
                                with_reducible rfl
                              rotate_left
                              · simp only [Act.put, List.setIfInBounds_toArray, List.set_cons_zero, List.set_cons_succ, i64_w, i32_w]
                                rfl
                              refine pure_ (i := 11) (N := some 106) (v := ?_) (a' := ?_) #[true, true, true, true, true, true, true, true, true, true, true, true, false, false, false, false, false, false, false, false, false, false, false, false, false, false, false, false, false, false] rfl rfl (any_of HT_.out (by kernel_rfl)) (fun _ _ _ h => h) (Or.inl ⟨by rfl, ?_⟩) ?_ ?_
                              rotate_left
                              · intro w'
                                go_simp
                                with_reducible rfl
                              rotate_left
                              · simp only [Act.put, List.setIfInBounds_toArray, List.set_cons_zero, List.set_cons_succ, i64_w, i32_w]
                                rfl
                              refine take_ (i := 13) (N := some 108) (v := ?_) (a' := ?_) #[true, true, true, true, true, true, true, true, true, true, true, true, false, true, false, false, false, false, false, false, false, false, false, false, false, false, false, false, false, false] rfl rfl (take_ofW HT_.out HW_.out (by kernel_rfl)) (fun _ _ _ h => h) (Or.inl ⟨by rfl, ?_⟩) hHeld ?_ ?_
                              rotate_left
                              · rintro w' ⟨s0, s1, s2⟩
                                go_simp
                                with_reducible rfl
                              rotate_left
                              · simp only [Act.put, List.setIfInBounds_toArray, List.set_cons_zero, List.set_cons_succ, i64_w, i32_w]
                                rfl
                              refine one_ (i := 12) (N := some 107) #[true, true, true, true, true, true, true, true, true, true, true, true, true, true, false, false, false, false, false, false, false, false, false, false, false, false, false, false, false, false] rfl rfl (one_of HT_.out (by kernel_rfl)) (by decide) (fun K hK => ?_)
                              refine goes_ Try.func27 (by kernel_rfl) rfl #[.pointer (some ⟨g255, 0, none⟩)] (by rfl) rfl rfl (by (try simp only [List.map_toArray, List.map_cons, List.map_nil]); first | done | rfl | (simp only [List.length_drop, List.length_take]; rfl)) ?_
                              with_reducible refine (cursor_Cursor_End.calls g255 t316 t317 t318 t319 t320 t321 t322 t323 t324 t325 t326 t327 t328 w _ ?side1 ?side2 A41.out).mono ?_
                              (case side1 => repeat (first | (with_reducible first | exact HI255.out | apply IsS35.alloc | apply IsS35.drewN | apply IsS35.drew | apply IsS35.set_0 | apply IsS35.set_1 | apply IsS35.set_2 | apply IsS35.set_3 | apply IsS35.set_4 | refine IsS35.far ?_ NB255_269.out (by repeat (first | exact TypeAt.mk BK269.out | apply TypeAt.set | apply TypeAt.alloc | apply TypeAt.drewN | apply TypeAt.drew)) (by decide) _) | exact HI255.out))
                              (case side2 => repeat (first | (with_reducible first | exact HB.out | apply below_alloc | apply pw_below_drewN | apply below_drew1 | refine below_set ?_ (IsS35.ge HI255.out) | refine below_set ?_ GE269.out) | exact HB.out))
                              rintro e w49 ⟨rfl, hi, hb, hk⟩
                              refine ⟨_, rfl, ?_⟩
                              have n0_ := Aside0.mk (KeepBut.blk hk (g' := gb269) (o := .cells #[.int .i64 a1, .int .i64 0, .int .i64 (wrap64 (3 + (wrap64 ((l0.length : Int) / 2))))] 31 (0, 0)) (by (with_reducible repeat (first | refine blk_drewN ?_ _ | refine blk_drew ?_ | refine blk_alloc ?_ _)); exact BK269.out) NB269_255.out (by simp))
                              have n1_ := Aside0.mk (hb)
                              have n2_ := Aside0.mk (hi)
                              clear BK269
                              clear HB
                              clear HI255
                              have BK269 := n0_
                              have HB := n1_
                              have HI255 := n2_
                              clear n0_ n1_ n2_
                              (try clear hb)
                              (try clear hb2)
                              (try clear hk)
                              (try clear hi)
                              refine hK.out _ _ ⟨(blk_cell BK269.out 0).trans rfl, (blk_cell BK269.out 1).trans rfl, (blk_cell BK269.out 2).trans rfl⟩ (fun hHeld => ?_)
                              clear hK K
                              refine norm_ (a' := ?_) ?_ ?_
                              rotate_left
                              · show Act.put _ (some 107) _ = _
                                simp only [Act.put, List.setIfInBounds_toArray, List.set_cons_zero, List.set_cons_succ, i64_w, i32_w]
                                rfl
                              refine pure_ (i := 14) (N := some 109) (v := ?_) (a' := ?_) #[true, true, true, true, true, true, true, true, true, true, true, true, true, true, true, false, false, false, false, false, false, false, false, false, false, false, false, false, false, false] rfl rfl (any_of HT_.out (by kernel_rfl)) (fun _ _ _ h => h) (Or.inl ⟨by rfl, ?_⟩) ?_ ?_
                              rotate_left
                              · intro w'
                                go_simp
                                with_reducible rfl
                              rotate_left
                              · simp only [Act.put, List.setIfInBounds_toArray, List.set_cons_zero, List.set_cons_succ, i64_w, i32_w]
                                rfl
                              refine pure_ (i := 15) (N := some 110) (v := ?_) (a' := ?_) #[true, true, true, true, true, true, true, true, true, true, true, true, true, true, true, true, false, false, false, false, false, false, false, false, false, false, false, false, false, false] rfl rfl (any_of HT_.out (by kernel_rfl)) (fun _ _ _ h => h) (Or.inl ⟨by rfl, ?_⟩) ?_ ?_
                              rotate_left
                              · intro w'
                                go_simp
                                with_reducible rfl
                              rotate_left
                              · simp only [Act.put, List.setIfInBounds_toArray, List.set_cons_zero, List.set_cons_succ, i64_w, i32_w]
                                rfl
                              refine pure_ (i := 16) (N := some 111) (v := ?_) (a' := ?_) #[true, true, true, true, true, true, true, true, true, true, true, true, true, true, true, true, true, false, false, false, false, false, false, false, false, false, false, false, false, false] rfl rfl (any_of HT_.out (by kernel_rfl)) (fun _ _ _ h => h) (Or.inl ⟨by rfl, ?_⟩) ?_ ?_
                              rotate_left
                              · intro w'
                                go_simp
                                with_reducible rfl
                              rotate_left
                              · simp only [Act.put, List.setIfInBounds_toArray, List.set_cons_zero, List.set_cons_succ, i64_w, i32_w]
                                rfl
                              refine pure_ (i := 17) (N := some 112) (v := ?_) (a' := ?_) #[true, true, true, true, true, true, true, true, true, true, true, true, true, true, true, true, true, true, false, false, false, false, false, false, false, false, false, false, false, false] rfl rfl (any_of HT_.out (by kernel_rfl)) (fun _ _ _ h => h) (Or.inl ⟨by rfl, ?_⟩) ?_ ?_
                              rotate_left
                              · intro w'
                                go_simp
                                with_reducible rfl
                              rotate_left
                              · simp only [Act.put, List.setIfInBounds_toArray, List.set_cons_zero, List.set_cons_succ, i64_w, i32_w]
                                rfl
                              refine one_ (i := 18) (N := some 113) #[true, true, true, true, true, true, true, true, true, true, true, true, true, true, true, true, true, true, true, false, false, false, false, false, false, false, false, false, false, false] rfl rfl (one_of HT_.out (by kernel_rfl)) (by decide) (fun K hK => ?_)
                              refine goes_ Try.func10 (by kernel_rfl) rfl #[.pointer (some ⟨g255, 0, none⟩)] (by rfl) rfl rfl (by (try simp only [List.map_toArray, List.map_cons, List.map_nil]); first | done | rfl | (simp only [List.length_drop, List.length_take]; rfl)) ?_
                              with_reducible refine (cursor_Cursor_Left.calls g255 t324 t325 t326 t327 t328 t329 t330 t331 t332 t333 t334 w _ ?side1 ?side2 A43.out).mono ?_
                              (case side1 => repeat (first | (with_reducible first | exact HI255.out | apply IsS35.alloc | apply IsS35.drewN | apply IsS35.drew | apply IsS35.set_0 | apply IsS35.set_1 | apply IsS35.set_2 | apply IsS35.set_3 | apply IsS35.set_4 | refine IsS35.far ?_ NB255_269.out (by repeat (first | exact TypeAt.mk BK269.out | apply TypeAt.set | apply TypeAt.alloc | apply TypeAt.drewN | apply TypeAt.drew)) (by decide) _) | exact HI255.out))
                              (case side2 => repeat (first | (with_reducible first | exact HB.out | apply below_alloc | apply pw_below_drewN | apply below_drew1 | refine below_set ?_ (IsS35.ge HI255.out) | refine below_set ?_ GE269.out) | exact HB.out))
                              rintro e w50 ⟨rfl, hi, hb, hk⟩
                              refine ⟨_, rfl, ?_⟩
                              have n0_ := Aside0.mk (KeepBut.blk hk (g' := gb269) (o := .cells #[.int .i64 a1, .int .i64 0, .int .i64 (wrap64 (3 + (wrap64 ((l0.length : Int) / 2))))] 31 (0, 0)) (by (with_reducible repeat (first | refine blk_drewN ?_ _ | refine blk_drew ?_ | refine blk_alloc ?_ _)); exact BK269.out) NB269_255.out (by simp))
                              have n1_ := Aside0.mk (hb)
                              have n2_ := Aside0.mk (hi)
                              clear BK269
                              clear HB
                              clear HI255
                              have BK269 := n0_
                              have HB := n1_
                              have HI255 := n2_
                              clear n0_ n1_ n2_
                              (try clear hb)
                              (try clear hb2)
                              (try clear hk)
                              (try clear hi)
                              refine hK.out _ _ ⟨(blk_cell BK269.out 0).trans rfl, (blk_cell BK269.out 1).trans rfl, (blk_cell BK269.out 2).trans rfl⟩ (fun hHeld => ?_)
                              clear hK K
                              refine norm_ (a' := ?_) ?_ ?_
                              rotate_left
                              · show Act.put _ (some 113) _ = _
                                simp only [Act.put, List.setIfInBounds_toArray, List.set_cons_zero, List.set_cons_succ, i64_w, i32_w]
                                rfl
                              refine pure_ (i := 19) (N := some 114) (v := ?_) (a' := ?_) #[true, true, true, true, true, true, true, true, true, true, true, true, true, true, true, true, true, true, true, true, false, false, false, false, false, false, false, false, false, false] rfl rfl (any_of HT_.out (by kernel_rfl)) (fun _ _ _ h => h) (Or.inl ⟨by rfl, ?_⟩) ?_ ?_
                              rotate_left
                              · intro w'
                                go_simp
                                with_reducible rfl
                              rotate_left
                              · simp only [Act.put, List.setIfInBounds_toArray, List.set_cons_zero, List.set_cons_succ, i64_w, i32_w]
                                rfl
                              refine pure_ (i := 20) (N := some 115) (v := ?_) (a' := ?_) #[true, true, true, true, true, true, true, true, true, true, true, true, true, true, true, true, true, true, true, true, true, false, false, false, false, false, false, false, false, false] rfl rfl (any_of HT_.out (by kernel_rfl)) (fun _ _ _ h => h) (Or.inl ⟨by rfl, ?_⟩) ?_ ?_
                              rotate_left
                              · intro w'
                                go_simp
                                with_reducible rfl
                              rotate_left
                              · simp only [Act.put, List.setIfInBounds_toArray, List.set_cons_zero, List.set_cons_succ, i64_w, i32_w]
                                rfl
                              refine pure_ (i := 21) (N := some 116) (v := ?_) (a' := ?_) #[true, true, true, true, true, true, true, true, true, true, true, true, true, true, true, true, true, true, true, true, true, true, false, false, false, false, false, false, false, false] rfl rfl (any_of HT_.out (by kernel_rfl)) (fun _ _ _ h => h) (Or.inl ⟨by rfl, ?_⟩) ?_ ?_
                              rotate_left
                              · intro w'
                                go_simp
                                with_reducible rfl
                              rotate_left
                              · simp only [Act.put, List.setIfInBounds_toArray, List.set_cons_zero, List.set_cons_succ, i64_w, i32_w]
                                rfl
                              refine pure_ (i := 22) (N := some 117) (v := ?_) (a' := ?_) #[true, true, true, true, true, true, true, true, true, true, true, true, true, true, true, true, true, true, true, true, true, true, true, false, false, false, false, false, false, false] rfl rfl (any_of HT_.out (by kernel_rfl)) (fun _ _ _ h => h) (Or.inl ⟨by rfl, ?_⟩) ?_ ?_
                              rotate_left
                              · intro w'
                                go_simp
                                with_reducible rfl
                              rotate_left
                              · simp only [Act.put, List.setIfInBounds_toArray, List.set_cons_zero, List.set_cons_succ, i64_w, i32_w]
                                rfl
                              refine pure_ (i := 23) (N := some 118) (v := ?_) (a' := ?_) #[true, true, true, true, true, true, true, true, true, true, true, true, true, true, true, true, true, true, true, true, true, true, true, true, false, false, false, false, false, false] rfl rfl (any_of HT_.out (by kernel_rfl)) (fun _ _ _ h => h) (Or.inl ⟨by rfl, ?_⟩) ?_ ?_
                              rotate_left
                              · intro w'
                                go_simp
                                with_reducible rfl
                              rotate_left
                              · simp only [Act.put, List.setIfInBounds_toArray, List.set_cons_zero, List.set_cons_succ, i64_w, i32_w]
                                rfl
                              refine pure_ (i := 24) (N := some 119) (v := ?_) (a' := ?_) #[true, true, true, true, true, true, true, true, true, true, true, true, true, true, true, true, true, true, true, true, true, true, true, true, true, false, false, false, false, false] rfl rfl (any_of HT_.out (by kernel_rfl)) (fun _ _ _ h => h) (Or.inl ⟨by rfl, ?_⟩) ?_ ?_
                              rotate_left
                              · intro w'
                                go_simp
                                with_reducible rfl
                              rotate_left
                              · simp only [Act.put, List.setIfInBounds_toArray, List.set_cons_zero, List.set_cons_succ, i64_w, i32_w]
                                rfl
                              refine pure_ (i := 26) (N := some 121) (v := ?_) (a' := ?_) #[true, true, true, true, true, true, true, true, true, true, true, true, true, true, true, true, true, true, true, true, true, true, true, true, true, false, true, false, false, false] rfl rfl (any_of HT_.out (by kernel_rfl)) (fun _ _ _ h => h) (Or.inl ⟨by rfl, ?_⟩) ?_ ?_
                              rotate_left
                              · intro w'
                                go_simp
                                with_reducible rfl
                              rotate_left
                              · simp only [Act.put, List.setIfInBounds_toArray, List.set_cons_zero, List.set_cons_succ, i64_w, i32_w]
                                rfl
                              refine take_ (i := 27) (N := some 122) (v := ?_) (a' := ?_) #[true, true, true, true, true, true, true, true, true, true, true, true, true, true, true, true, true, true, true, true, true, true, true, true, true, false, true, true, false, false] rfl rfl (take_ofW HT_.out HW_.out (by kernel_rfl)) (fun _ _ _ h => h) (Or.inl ⟨by rfl, ?_⟩) hHeld ?_ ?_
                              rotate_left
                              · rintro w' ⟨s0, s1, s2⟩
                                go_simp
                                with_reducible rfl
                              rotate_left
                              · simp only [Act.put, List.setIfInBounds_toArray, List.set_cons_zero, List.set_cons_succ, i64_w, i32_w]
                                rfl
                              refine one_ (i := 25) (N := some 120) #[true, true, true, true, true, true, true, true, true, true, true, true, true, true, true, true, true, true, true, true, true, true, true, true, true, true, true, true, false, false] rfl rfl (one_of HT_.out (by kernel_rfl)) (by decide) (fun K hK => ?_)
                              refine goes_ Try.func12 (by kernel_rfl) rfl #[.pointer (some ⟨g255, 0, none⟩)] (by rfl) rfl rfl (by (try simp only [List.map_toArray, List.map_cons, List.map_nil]); first | done | rfl | (simp only [List.length_drop, List.length_take]; rfl)) ?_
                              with_reducible refine (cursor_place_At.calls g255 t330 t331 t332 t333 t334 t335 t336 t337 t338 t339 t340 w _ ?side1 ?side2 A45.out).mono ?_
                              (case side1 => repeat (first | (with_reducible first | exact HI255.out | apply IsS35.alloc | apply IsS35.drewN | apply IsS35.drew | apply IsS35.set_0 | apply IsS35.set_1 | apply IsS35.set_2 | apply IsS35.set_3 | apply IsS35.set_4 | refine IsS35.far ?_ NB255_269.out (by repeat (first | exact TypeAt.mk BK269.out | apply TypeAt.set | apply TypeAt.alloc | apply TypeAt.drewN | apply TypeAt.drew)) (by decide) _) | exact HI255.out))
                              (case side2 => repeat (first | (with_reducible first | exact HB.out | apply below_alloc | apply pw_below_drewN | apply below_drew1 | refine below_set ?_ (IsS35.ge HI255.out) | refine below_set ?_ GE269.out) | exact HB.out))
                              rintro e w51 ⟨rfl, hi, hb, hk⟩
                              refine ⟨_, rfl, ?_⟩
                              have n0_ := Aside0.mk (KeepBut.blk hk (g' := gb269) (o := .cells #[.int .i64 a1, .int .i64 0, .int .i64 (wrap64 (3 + (wrap64 ((l0.length : Int) / 2))))] 31 (0, 0)) (by (with_reducible repeat (first | refine blk_drewN ?_ _ | refine blk_drew ?_ | refine blk_alloc ?_ _)); exact BK269.out) NB269_255.out (by simp))
                              have n1_ := Aside0.mk (hb)
                              have n2_ := Aside0.mk (hi)
                              clear BK269
                              clear HB
                              clear HI255
                              have BK269 := n0_
                              have HB := n1_
                              have HI255 := n2_
                              clear n0_ n1_ n2_
                              (try clear hb)
                              (try clear hb2)
                              (try clear hk)
                              (try clear hi)
                              refine hK.out _ _ ⟨(blk_cell BK269.out 0).trans rfl, (blk_cell BK269.out 1).trans rfl, (blk_cell BK269.out 2).trans rfl⟩ (fun hHeld => ?_)
                              clear hK K
                              refine norm_ (a' := ?_) ?_ ?_
                              rotate_left
                              · show Act.put _ (some 120) _ = _
                                simp only [Act.put, List.setIfInBounds_toArray, List.set_cons_zero, List.set_cons_succ, i64_w, i32_w]
                                rfl
                              refine pure_ (i := 28) (N := some 123) (v := ?_) (a' := ?_) #[true, true, true, true, true, true, true, true, true, true, true, true, true, true, true, true, true, true, true, true, true, true, true, true, true, true, true, true, true, false] rfl rfl (any_of HT_.out (by kernel_rfl)) (fun _ _ _ h => h) (Or.inl ⟨by rfl, ?_⟩) ?_ ?_
                              rotate_left
                              · intro w'
                                go_simp
                                with_reducible rfl
                              rotate_left
                              · simp only [Act.put, List.setIfInBounds_toArray, List.set_cons_zero, List.set_cons_succ, i64_w, i32_w]
                                rfl
                              refine pure_ (i := 29) (N := some 124) (v := ?_) (a' := ?_) #[true, true, true, true, true, true, true, true, true, true, true, true, true, true, true, true, true, true, true, true, true, true, true, true, true, true, true, true, true, true] rfl rfl (any_of HT_.out (by kernel_rfl)) (fun _ _ _ h => h) (Or.inl ⟨by rfl, ?_⟩) ?_ ?_
                              rotate_left
                              · intro w'
                                go_simp
                                with_reducible rfl
                              rotate_left
                              · simp only [Act.put, List.setIfInBounds_toArray, List.set_cons_zero, List.set_cons_succ, i64_w, i32_w]
                                rfl
                              refine done_ (done_of HT_.out (by kernel_rfl)) ?_
                              try go_wp2
                              go_roundg kj20
                              case measure => have := HJ4.out; have := HK2.out; have := HJ20.out; omega
                              case rel => exact ⟨(wrap64 (x10_2 + 1)), (t336), (t337), (t338), (t339), (t340), (by first | rfl | (simp; done) | (simp [*]; done)), H', ⟨by have := HJ4.out; have := HK2.out; have := HJ20.out; omega⟩, ⟨by (with_reducible repeat (first | refine blk_drewN ?_ _ | refine blk_drew ?_ | refine blk_alloc ?_ _)); exact BK269.out⟩, ⟨by repeat (first | (with_reducible first | exact HI255.out | apply IsS35.alloc | apply IsS35.drewN | apply IsS35.drew | apply IsS35.set_0 | apply IsS35.set_1 | apply IsS35.set_2 | apply IsS35.set_3 | apply IsS35.set_4 | refine IsS35.far ?_ NB255_269.out (by repeat (first | exact TypeAt.mk BK269.out | apply TypeAt.set | apply TypeAt.alloc | apply TypeAt.drewN | apply TypeAt.drew)) (by decide) _) | exact HI255.out)⟩, ⟨by repeat (first | (with_reducible first | exact HB.out | apply below_alloc | apply pw_below_drewN | apply below_drew1 | refine below_set ?_ (IsS35.ge HI255.out) | refine below_set ?_ GE269.out) | exact HB.out)⟩⟩
                            · rw [if_neg c46] at H
                              exact absurd H (by simp)
                          · rw [if_neg c44] at H
                            exact absurd H (by simp)
                    · replace c38 := Bool.eq_false_iff.mpr c38
                      subst c38
                      have H1 : (none) = some r := by rw [if_neg (show ¬ (false = true) by decide)] at H; exact H
                      clear H
                      have H := H1
                      clear H1
                      exact absurd H (by simp)
              · rw [if_neg c20] at H
                exact absurd H (by simp)
            · rw [if_neg c19] at H
              have c19b0 : decide (x10_2 < (l2.length : Int)) = false := decide_eq_false c19
              clear c19
              by_cases c52 : t249 = true
              · subst c52
                have H1 : ((cursor_place_Fault.f x256000_2 x256001_2 x256002_2 x256003_2 x256004_2).bind fun bt270 => (some (bt270.1 == a1 && (bt270.2.1 == 0 && (bt270.2.2.1 == (wrap64 (3 + (wrap64 ((l0.length : Int) / 2))))))))) = some r := by rw [if_pos rfl] at H; exact H
                clear H
                have H := H1
                clear H1
                replace H := Option.bind_eq_some_iff.mp H
                obtain ⟨⟨t270, t271, t272, t273, t274, t275, t276, t277⟩, A530, H⟩ := H
                replace H : (some (t270 == a1 && (t271 == 0 && (t272 == (wrap64 (3 + (wrap64 ((l0.length : Int) / 2)))))))) = some r := H
                have A53 := Aside0.mk A530
                clear A530
                obtain rfl := Option.some.inj H
                try go_wp2
                have n0_ := Aside0.mk (blk_drew BK269.out)
                have n1_ := Aside0.mk (IsS35.drew HI255.out)
                have n2_ := Aside0.mk (below_drew1 HB.out)
                clear BK269
                clear HI255
                clear HB
                have BK269 := n0_
                have HI255 := n1_
                have HB := n2_
                clear n0_ n1_ n2_
                refine start_ (n := 10) (S := fun w' => w'.cell? ⟨gb269, 0, none⟩ = some (.int .i64 a1) ∧ w'.cell? ⟨gb269, 1, none⟩ = some (.int .i64 0) ∧ w'.cell? ⟨gb269, 2, none⟩ = some (.int .i64 (wrap64 (3 + (wrap64 ((l0.length : Int) / 2)))))) (ds := []) #[false, false, false, false, false, false, false, false, false, false] (by kernel_rfl) rfl rfl ⟨(blk_cell BK269.out 0).trans rfl, (blk_cell BK269.out 1).trans rfl, (blk_cell BK269.out 2).trans rfl⟩ (fun hHeld => ?_); refine with_tabW decklelaw04_CursorStays.tab27 decklelaw04_CursorStays.bits27 (fun HT_ HW_ => ?_)
                generalize wr.drew = w54 at BK269 HI255 HB hHeld ⊢
                refine pure_ (i := 0) (N := some 125) (v := ?_) (a' := ?_) #[true, false, false, false, false, false, false, false, false, false] rfl rfl (any_of HT_.out (by kernel_rfl)) (fun _ _ _ h => h) (Or.inl ⟨by rfl, ?_⟩) ?_ ?_
                rotate_left
                · intro w'
                  go_simp
                  with_reducible rfl
                rotate_left
                · simp only [Act.put, List.setIfInBounds_toArray, List.set_cons_zero, List.set_cons_succ, i64_w, i32_w]
                  rfl
                refine pure_ (i := 1) (N := some 126) (v := ?_) (a' := ?_) #[true, true, false, false, false, false, false, false, false, false] rfl rfl (any_of HT_.out (by kernel_rfl)) (fun _ _ _ h => h) (Or.inl ⟨by rfl, ?_⟩) ?_ ?_
                rotate_left
                · intro w'
                  go_simp
                  with_reducible rfl
                rotate_left
                · simp only [Act.put, List.setIfInBounds_toArray, List.set_cons_zero, List.set_cons_succ, i64_w, i32_w]
                  rfl
                refine pure_ (i := 2) (N := some 127) (v := ?_) (a' := ?_) #[true, true, true, false, false, false, false, false, false, false] rfl rfl (any_of HT_.out (by kernel_rfl)) (fun _ _ _ h => h) (Or.inl ⟨by rfl, ?_⟩) ?_ ?_
                rotate_left
                · intro w'
                  go_simp
                  with_reducible rfl
                rotate_left
                · simp only [Act.put, List.setIfInBounds_toArray, List.set_cons_zero, List.set_cons_succ, i64_w, i32_w]
                  rfl
                refine pure_ (i := 3) (N := some 128) (v := ?_) (a' := ?_) #[true, true, true, true, false, false, false, false, false, false] rfl rfl (any_of HT_.out (by kernel_rfl)) (fun _ _ _ h => h) (Or.inl ⟨by rfl, ?_⟩) ?_ ?_
                rotate_left
                · intro w'
                  go_simp
                  with_reducible rfl
                rotate_left
                · simp only [Act.put, List.setIfInBounds_toArray, List.set_cons_zero, List.set_cons_succ, i64_w, i32_w]
                  rfl
                refine pure_ (i := 4) (N := some 129) (v := ?_) (a' := ?_) #[true, true, true, true, true, false, false, false, false, false] rfl rfl (any_of HT_.out (by kernel_rfl)) (fun _ _ _ h => h) (Or.inl ⟨by rfl, ?_⟩) ?_ ?_
                rotate_left
                · intro w'
                  go_simp
                  with_reducible rfl
                rotate_left
                · simp only [Act.put, List.setIfInBounds_toArray, List.set_cons_zero, List.set_cons_succ, i64_w, i32_w]
                  rfl
                refine take_ (i := 6) (N := some 131) (v := ?_) (a' := ?_) #[true, true, true, true, true, false, true, false, false, false] rfl rfl (take_ofW HT_.out HW_.out (by kernel_rfl)) (fun _ _ _ h => h) (Or.inl ⟨by rfl, ?_⟩) hHeld ?_ ?_
                rotate_left
                · rintro w' ⟨s0, s1, s2⟩
                  go_simp
                  with_reducible rfl
                rotate_left
                · simp only [Act.put, List.setIfInBounds_toArray, List.set_cons_zero, List.set_cons_succ, i64_w, i32_w]
                  rfl
                refine one_ (i := 5) (N := some 130) #[true, true, true, true, true, true, true, false, false, false] rfl rfl (one_of HT_.out (by kernel_rfl)) (by decide) (fun K hK => ?_)
                refine goes_ Try.func13 (by kernel_rfl) rfl #[.pointer (some ⟨g255, 0, none⟩)] (by rfl) rfl rfl (by (try simp only [List.map_toArray, List.map_cons, List.map_nil]); first | done | rfl | (simp only [List.length_drop, List.length_take]; rfl)) ?_
                with_reducible refine (cursor_place_Fault.calls g255 x256000_2 x256001_2 x256002_2 x256003_2 x256004_2 t270 t271 t272 t273 t274 t275 t276 t277 w _ ?side1 ?side2 A53.out).mono ?_
                (case side1 => repeat (first | (with_reducible first | exact HI255.out | apply IsS35.alloc | apply IsS35.drewN | apply IsS35.drew | apply IsS35.set_0 | apply IsS35.set_1 | apply IsS35.set_2 | apply IsS35.set_3 | apply IsS35.set_4 | refine IsS35.far ?_ NB255_269.out (by repeat (first | exact TypeAt.mk BK269.out | apply TypeAt.set | apply TypeAt.alloc | apply TypeAt.drewN | apply TypeAt.drew)) (by decide) _) | exact HI255.out))
                (case side2 => repeat (first | (with_reducible first | exact HB.out | apply below_alloc | apply pw_below_drewN | apply below_drew1 | refine below_set ?_ (IsS35.ge HI255.out) | refine below_set ?_ GE269.out) | exact HB.out))
                rintro e w55 ⟨rfl, hi, hb, hk⟩
                refine ⟨_, rfl, ?_⟩
                have n0_ := Aside0.mk (KeepBut.blk hk (g' := gb269) (o := .cells #[.int .i64 a1, .int .i64 0, .int .i64 (wrap64 (3 + (wrap64 ((l0.length : Int) / 2))))] 31 (0, 0)) (by (with_reducible repeat (first | refine blk_drewN ?_ _ | refine blk_drew ?_ | refine blk_alloc ?_ _)); exact BK269.out) NB269_255.out (by simp))
                have n1_ := Aside0.mk (hb)
                have n2_ := Aside0.mk (hi)
                clear BK269
                clear HB
                clear HI255
                have BK269 := n0_
                have HB := n1_
                have HI255 := n2_
                clear n0_ n1_ n2_
                (try clear hb)
                (try clear hb2)
                (try clear hk)
                (try clear hi)
                refine hK.out _ _ ⟨(blk_cell BK269.out 0).trans rfl, (blk_cell BK269.out 1).trans rfl, (blk_cell BK269.out 2).trans rfl⟩ (fun hHeld => ?_)
                clear hK K
                refine norm_ (a' := ?_) ?_ ?_
                rotate_left
                · show Act.put _ (some 130) _ = _
                  simp only [Act.put, List.setIfInBounds_toArray, List.set_cons_zero, List.set_cons_succ, i64_w, i32_w]
                  rfl
                refine pure_ (i := 7) (N := some 132) (v := ?_) (a' := ?_) #[true, true, true, true, true, true, true, true, false, false] rfl rfl (any_of HT_.out (by kernel_rfl)) (fun _ _ _ h => h) (Or.inl ⟨by rfl, ?_⟩) ?_ ?_
                rotate_left
                · intro w'
                  go_simp
                  with_reducible rfl
                rotate_left
                · simp only [Act.put, List.setIfInBounds_toArray, List.set_cons_zero, List.set_cons_succ, i64_w, i32_w]
                  rfl
                refine pure_ (i := 8) (N := some 133) (v := ?_) (a' := ?_) #[true, true, true, true, true, true, true, true, true, false] rfl rfl (any_of HT_.out (by kernel_rfl)) (fun _ _ _ h => h) (Or.inl ⟨by rfl, ?_⟩) ?_ ?_
                rotate_left
                · intro w'
                  go_simp
                  with_reducible rfl
                rotate_left
                · simp only [Act.put, List.setIfInBounds_toArray, List.set_cons_zero, List.set_cons_succ, i64_w, i32_w]
                  rfl
                refine pure_ (i := 9) (N := some 6) (v := ?_) (a' := ?_) #[true, true, true, true, true, true, true, true, true, true] rfl rfl (any_of HT_.out (by kernel_rfl)) (fun _ _ _ h => h) (Or.inl ⟨by rfl, ?_⟩) ?_ ?_
                rotate_left
                · intro w'
                  go_simp
                  with_reducible rfl
                rotate_left
                · simp only [Act.put, List.setIfInBounds_toArray, List.set_cons_zero, List.set_cons_succ, i64_w, i32_w]
                  rfl
                refine done_ (done_of HT_.out (by kernel_rfl)) ?_
                try go_wp2
                go_ret
                exact ⟨by first | rfl | (simp [errW_none, errW_some] <;> rfl) | (simp [*, errW_none, errW_some] <;> rfl), by repeat (first | (with_reducible first | exact HB.out | apply below_alloc | apply pw_below_drewN | apply below_drew1 | refine below_set ?_ (IsS35.ge HI255.out) | refine below_set ?_ GE269.out) | exact HB.out)⟩
              · replace c52 := Bool.eq_false_iff.mpr c52
                subst c52
                have H1 : (none) = some r := by rw [if_neg (show ¬ (false = true) by decide)] at H; exact H
                clear H
                have H := H1
                clear H1
                exact absurd H (by simp)

end Go.Proofs.Ytgegbiknohjpgaa.HCursorStays
