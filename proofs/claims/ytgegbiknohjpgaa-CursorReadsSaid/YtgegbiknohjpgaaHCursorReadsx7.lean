-- Written by the session's program hy.py.
import Derived.Test.YtgegbiknohjpgaaHCursorReadsx0
import Derived.Test.YtgegbiknohjpgaaHCursorReadsx1
import Derived.Test.YtgegbiknohjpgaaHCursorReadsx2
import Derived.Test.YtgegbiknohjpgaaHCursorReadsx3
import Derived.Test.YtgegbiknohjpgaaHCursorReadsx4
import Derived.Test.YtgegbiknohjpgaaHCursorReadsx5
import Derived.Test.YtgegbiknohjpgaaHCursorReadsx6
namespace Go.Proofs.Ytgegbiknohjpgaa.HCursorReads
open Go.RowKit Go.Proofs.YtgegbiknohjpgaaW.PrintWords Go.Proofs.YtgegbiknohjpgaaW.PrintLast Go.Proofs.YtgegbiknohjpgaaW.PrintMore
attribute [local go_sem] max2_int min2_int max_two min_two max_three min_three max_four min_four   -- for this text's walks alone
set_option linter.unusedVariables false
set_option linter.unusedSimpArgs false

attribute [local go_sem high] eqA31
/-! ### decklelaw04_CursorReads: function 4 -/
mutual
def decklelaw04_CursorReads.j0 : Nat → List Int → Int → List (S42) → Bool → Bool → Option (Bool)
  | 0, _, _, _, _, _ => none
  | k + 1, x0, x1, x2, x7, x21 => if x21 = true then (some x7) else ((some (([] : List Int) : List Int)).bind fun y317 => (if y317.length + x0.length < 140737488355328 then ((some (y317 ++ x0 : List Int)).bind fun y320 => ((cursor_Open.f y320 x1).bind fun bt323 => ((deckleref04_Open.f x0 x1).bind fun bt329 => (decklelaw04_CursorReads.l0 k x0 x2 x7 y320 0 bt323.1 bt323.2.1 bt323.2.2.1 bt323.2.2.2.1 bt323.2.2.2.2 bt329.1 bt329.2.1 bt329.2.2.1 bt329.2.2.2.1 bt329.2.2.2.2)))) else (none)))
def decklelaw04_CursorReads.l0 : Nat → List Int → List (S42) → Bool → List Int → Int → Int → Int → Int → Int → (List Int) → (List Int) → Int → Int → Int → Int → Option (Bool)
  | 0, _, _, _, _, _, _, _, _, _, _, _, _, _, _, _ => none
  | k + 1, x0, x2, x7, x8, x11, x329000, x329001, x329002, x329003, x329004, x335000, x335001, x335002, x335003, x335004 => if x11 < (x2.length : Int) then (if 0 ≤ x11 then (if ((rd_T42 x2 x11).f0) = 0 then ((cursor_Cursor_Byte.f x329000 x329001 x329002 x329003 x329004).bind fun bt336 => ((deckleref04_Cursor_Byte.f x335000 x335001 x335002 x335003 x335004).bind fun bt342 => (decklelaw04_CursorReads.j2 k x0 x2 x7 x8 x11 (bt336.1 == bt342.1) bt336.2.1 bt336.2.2.1 bt336.2.2.2.1 bt336.2.2.2.2.1 bt336.2.2.2.2.2 bt342.2.1 bt342.2.2.1 bt342.2.2.2.1 bt342.2.2.2.2.1 bt342.2.2.2.2.2))) else (if ((rd_T42 x2 x11).f0) = 1 then ((cursor_Cursor_Num.f k x329000 x329001 x329002 x329003 x329004 ((rd_T42 x2 x11).f1)).bind fun bt349 => ((deckleref04_Cursor_Num.f k x335000 x335001 x335002 x335003 x335004 ((rd_T42 x2 x11).f1)).bind fun bt356 => (decklelaw04_CursorReads.j2 k x0 x2 x7 x8 x11 (bt349.1 == bt356.1) bt349.2.1 bt349.2.2.1 bt349.2.2.2.1 bt349.2.2.2.2.1 bt349.2.2.2.2.2 bt356.2.1 bt356.2.2.1 bt356.2.2.2.1 bt356.2.2.2.2.1 bt356.2.2.2.2.2))) else (if ((rd_T42 x2 x11).f0) = 2 then ((cursor_Cursor_Int.f k x329000 x329001 x329002 x329003 x329004).bind fun bt362 => ((deckleref04_Cursor_Int.f k x335000 x335001 x335002 x335003 x335004).bind fun bt368 => (decklelaw04_CursorReads.j2 k x0 x2 x7 x8 x11 (bt362.1 == bt368.1) bt362.2.1 bt362.2.2.1 bt362.2.2.2.1 bt362.2.2.2.2.1 bt362.2.2.2.2.2 bt368.2.1 bt368.2.2.1 bt368.2.2.2.1 bt368.2.2.2.2.1 bt368.2.2.2.2.2))) else (if ((rd_T42 x2 x11).f0) = 3 then ((cursor_Cursor_Take.f x329000 x329001 x329002 x329003 x329004 ((rd_T42 x2 x11).f1)).bind fun bt375 => ((deckleref04_Cursor_Take.f x335000 x335001 x335002 x335003 x335004 ((rd_T42 x2 x11).f1)).bind fun bt384 => (decklelaw04_CursorReads.j2 k x0 x2 x7 x8 x11 ((strOfNums bt375.1).toList == (strOfNums bt384.1).toList) bt375.2.1 bt375.2.2.1 bt375.2.2.2.1 bt375.2.2.2.2.1 bt375.2.2.2.2.2 bt384.2.1 bt384.2.2.1 bt384.2.2.2.1 bt384.2.2.2.2.1 bt384.2.2.2.2.2))) else (if ((rd_T42 x2 x11).f0) = 4 then ((cursor_Cursor_Fail.f x329000 x329001 x329002 x329003 x329004 ((rd_T42 x2 x11).f1)).bind fun bt393 => ((deckleref04_Cursor_Fail.f x335000 x335001 x335002 x335003 x335004 ((rd_T42 x2 x11).f1)).bind fun bt399 => (decklelaw04_CursorReads.j2 k x0 x2 x7 x8 x11 true bt393.1 bt393.2.1 bt393.2.2.1 bt393.2.2.2.1 bt393.2.2.2.2 bt399.1 bt399.2.1 bt399.2.2.1 bt399.2.2.2.1 bt399.2.2.2.2))) else (decklelaw04_CursorReads.j2 k x0 x2 x7 x8 x11 true x329000 x329001 x329002 x329003 x329004 x335000 x335001 x335002 x335003 x335004)))))) else (none)) else (if x7 = true then (some ((strOfNums x8).toList == (strOfNums x0).toList)) else (none))
def decklelaw04_CursorReads.j2 : Nat → List Int → List (S42) → Bool → List Int → Int → Bool → Int → Int → Int → Int → (List Int) → (List Int) → Int → Int → Int → Int → Option (Bool)
  | 0, _, _, _, _, _, _, _, _, _, _, _, _, _, _, _, _ => none
  | k + 1, x0, x2, x7, x8, x11, x12, x329000, x329001, x329002, x329003, x329004, x335000, x335001, x335002, x335003, x335004 => if x12 = true then ((cursor_Cursor_Left.f x329000 x329001 x329002 x329003 x329004).bind fun bt404 => ((deckleref04_Cursor_Left.f x335000 x335001 x335002 x335003 x335004).bind fun bt410 => (if bt404.1 = bt410.1 then ((cursor_place_At.f bt404.2.1 bt404.2.2.1 bt404.2.2.2.1 bt404.2.2.2.2.1 bt404.2.2.2.2.2).bind fun bt416 => ((deckleref04_Cursor_At.f bt410.2.1 bt410.2.2.1 bt410.2.2.2.1 bt410.2.2.2.2.1 bt410.2.2.2.2.2).bind fun bt422 => (if bt416.1 = bt422.1 then ((cursor_place_Fault.f bt416.2.1 bt416.2.2.1 bt416.2.2.2.1 bt416.2.2.2.2.1 bt416.2.2.2.2.2).bind fun bt428 => ((deckleref04_Cursor_Fault.f bt422.2.1 bt422.2.2.1 bt422.2.2.2.1 bt422.2.2.2.2.1 bt422.2.2.2.2.2).bind fun bt436 => (if (!(bt428.1 == bt436.1) || (!(bt428.2.1 == bt436.2.1) || (!(bt428.2.2.1 == bt436.2.2.1)))) = true then (none) else ((cursor_Cursor_End.f bt428.2.2.2.1 bt428.2.2.2.2.1 bt428.2.2.2.2.2.1 bt428.2.2.2.2.2.2.1 bt428.2.2.2.2.2.2.2).bind fun bt444 => ((deckleref04_Cursor_End.f bt436.2.2.2.1 bt436.2.2.2.2.1 bt436.2.2.2.2.2.1 bt436.2.2.2.2.2.2.1 bt436.2.2.2.2.2.2.2).bind fun bt452 => (if (!(bt444.1 == bt452.1) || (!(bt444.2.1 == bt452.2.1) || (!(bt444.2.2.1 == bt452.2.2.1)))) = true then (none) else (decklelaw04_CursorReads.l0 k x0 x2 x7 x8 (wrap64 (x11 + 1)) bt444.2.2.2.1 bt444.2.2.2.2.1 bt444.2.2.2.2.2.1 bt444.2.2.2.2.2.2.1 bt444.2.2.2.2.2.2.2 bt452.2.2.2.1 bt452.2.2.2.2.1 bt452.2.2.2.2.2.1 bt452.2.2.2.2.2.2.1 bt452.2.2.2.2.2.2.2))))))) else (none)))) else (none)))) else (none)
end
def decklelaw04_CursorReads.f (k : Nat) (l0 : List Int) (a1 : Int) (l2 : List (S42)) : Option (Bool) := (decklelaw04_small.f k).bind fun t316 => (if (l0.length : Int) > 500 then (decklelaw04_CursorReads.j0 k l0 a1 l2 t316 true) else (decklelaw04_CursorReads.j0 k l0 a1 l2 t316 (decide ((l2.length : Int) > 100))))
theorem decklelaw04_CursorReads.mono_l : ∀ k, (∀ y0 y1 y2 y3 y4, LeO (decklelaw04_CursorReads.j0 k y0 y1 y2 y3 y4) (decklelaw04_CursorReads.j0 (k + 1) y0 y1 y2 y3 y4)) ∧ (∀ y0 y1 y2 y3 y4 y5 y6 y7 y8 y9 y10 y11 y12 y13 y14, LeO (decklelaw04_CursorReads.l0 k y0 y1 y2 y3 y4 y5 y6 y7 y8 y9 y10 y11 y12 y13 y14) (decklelaw04_CursorReads.l0 (k + 1) y0 y1 y2 y3 y4 y5 y6 y7 y8 y9 y10 y11 y12 y13 y14)) ∧ (∀ y0 y1 y2 y3 y4 y5 y6 y7 y8 y9 y10 y11 y12 y13 y14 y15, LeO (decklelaw04_CursorReads.j2 k y0 y1 y2 y3 y4 y5 y6 y7 y8 y9 y10 y11 y12 y13 y14 y15) (decklelaw04_CursorReads.j2 (k + 1) y0 y1 y2 y3 y4 y5 y6 y7 y8 y9 y10 y11 y12 y13 y14 y15))
  | 0 => ⟨fun _ _ _ _ _ r h => by simp [decklelaw04_CursorReads.j0] at h, fun _ _ _ _ _ _ _ _ _ _ _ _ _ _ _ r h => by simp [decklelaw04_CursorReads.l0] at h, fun _ _ _ _ _ _ _ _ _ _ _ _ _ _ _ _ r h => by simp [decklelaw04_CursorReads.j2] at h⟩
  | k + 1 => by
    obtain ⟨ih0, ih1, ih2⟩ := decklelaw04_CursorReads.mono_l k
    refine ⟨?_, ?_, ?_⟩
    · intro y0 y1 y2 y3 y4
      unfold decklelaw04_CursorReads.j0
      repeat' first
      | (with_reducible exact ih0 _ _ _ _ _)
      | (with_reducible exact ih1 _ _ _ _ _ _ _ _ _ _ _ _ _ _ _)
      | (with_reducible exact ih2 _ _ _ _ _ _ _ _ _ _ _ _ _ _ _ _)
      | (with_reducible exact cursor_Cursor_Int.mono _ _ _ _ _ _)
      | (with_reducible exact cursor_Cursor_Num.mono _ _ _ _ _ _ _)
      | (with_reducible exact decklelaw04_small.mono _)
      | (with_reducible exact deckleref04_Cursor_Int.mono _ _ _ _ _ _)
      | (with_reducible exact deckleref04_Cursor_Num.mono _ _ _ _ _ _ _)
      | (with_reducible exact LeO.refl _)
      | (with_reducible exact LeO.none _)
      | (with_reducible refine LeO.ite ?_ ?_)
      | (with_reducible refine LeO.bind ?_ (fun _ => ?_))
      | exact ih0 _ _ _ _ _
      | exact ih1 _ _ _ _ _ _ _ _ _ _ _ _ _ _ _
      | exact ih2 _ _ _ _ _ _ _ _ _ _ _ _ _ _ _ _
      | exact cursor_Cursor_Int.mono _ _ _ _ _ _
      | exact cursor_Cursor_Num.mono _ _ _ _ _ _ _
      | exact decklelaw04_small.mono _
      | exact deckleref04_Cursor_Int.mono _ _ _ _ _ _
      | exact deckleref04_Cursor_Num.mono _ _ _ _ _ _ _
      | exact LeO.none _
      | refine LeO.ite ?_ ?_
      | refine LeO.bind ?_ (fun _ => ?_)
    · intro y0 y1 y2 y3 y4 y5 y6 y7 y8 y9 y10 y11 y12 y13 y14
      unfold decklelaw04_CursorReads.l0
      repeat' first
      | (with_reducible exact ih0 _ _ _ _ _)
      | (with_reducible exact ih1 _ _ _ _ _ _ _ _ _ _ _ _ _ _ _)
      | (with_reducible exact ih2 _ _ _ _ _ _ _ _ _ _ _ _ _ _ _ _)
      | (with_reducible exact cursor_Cursor_Int.mono _ _ _ _ _ _)
      | (with_reducible exact cursor_Cursor_Num.mono _ _ _ _ _ _ _)
      | (with_reducible exact decklelaw04_small.mono _)
      | (with_reducible exact deckleref04_Cursor_Int.mono _ _ _ _ _ _)
      | (with_reducible exact deckleref04_Cursor_Num.mono _ _ _ _ _ _ _)
      | (with_reducible exact LeO.refl _)
      | (with_reducible exact LeO.none _)
      | (with_reducible refine LeO.ite ?_ ?_)
      | (with_reducible refine LeO.bind ?_ (fun _ => ?_))
      | exact ih0 _ _ _ _ _
      | exact ih1 _ _ _ _ _ _ _ _ _ _ _ _ _ _ _
      | exact ih2 _ _ _ _ _ _ _ _ _ _ _ _ _ _ _ _
      | exact cursor_Cursor_Int.mono _ _ _ _ _ _
      | exact cursor_Cursor_Num.mono _ _ _ _ _ _ _
      | exact decklelaw04_small.mono _
      | exact deckleref04_Cursor_Int.mono _ _ _ _ _ _
      | exact deckleref04_Cursor_Num.mono _ _ _ _ _ _ _
      | exact LeO.none _
      | refine LeO.ite ?_ ?_
      | refine LeO.bind ?_ (fun _ => ?_)
    · intro y0 y1 y2 y3 y4 y5 y6 y7 y8 y9 y10 y11 y12 y13 y14 y15
      unfold decklelaw04_CursorReads.j2
      repeat' first
      | (with_reducible exact ih0 _ _ _ _ _)
      | (with_reducible exact ih1 _ _ _ _ _ _ _ _ _ _ _ _ _ _ _)
      | (with_reducible exact ih2 _ _ _ _ _ _ _ _ _ _ _ _ _ _ _ _)
      | (with_reducible exact cursor_Cursor_Int.mono _ _ _ _ _ _)
      | (with_reducible exact cursor_Cursor_Num.mono _ _ _ _ _ _ _)
      | (with_reducible exact decklelaw04_small.mono _)
      | (with_reducible exact deckleref04_Cursor_Int.mono _ _ _ _ _ _)
      | (with_reducible exact deckleref04_Cursor_Num.mono _ _ _ _ _ _ _)
      | (with_reducible exact LeO.refl _)
      | (with_reducible exact LeO.none _)
      | (with_reducible refine LeO.ite ?_ ?_)
      | (with_reducible refine LeO.bind ?_ (fun _ => ?_))
      | exact ih0 _ _ _ _ _
      | exact ih1 _ _ _ _ _ _ _ _ _ _ _ _ _ _ _
      | exact ih2 _ _ _ _ _ _ _ _ _ _ _ _ _ _ _ _
      | exact cursor_Cursor_Int.mono _ _ _ _ _ _
      | exact cursor_Cursor_Num.mono _ _ _ _ _ _ _
      | exact decklelaw04_small.mono _
      | exact deckleref04_Cursor_Int.mono _ _ _ _ _ _
      | exact deckleref04_Cursor_Num.mono _ _ _ _ _ _ _
      | exact LeO.none _
      | refine LeO.ite ?_ ?_
      | refine LeO.bind ?_ (fun _ => ?_)
theorem decklelaw04_CursorReads.mono : ∀ a0 a1 a2 k, LeO (decklelaw04_CursorReads.f k a0 a1 a2) (decklelaw04_CursorReads.f (k + 1) a0 a1 a2) := by
  intro a0 a1 a2 k
  obtain ⟨ih0, ih1, ih2⟩ := decklelaw04_CursorReads.mono_l k
  unfold decklelaw04_CursorReads.f
  repeat' first
      | (with_reducible exact ih0 _ _ _ _ _)
      | (with_reducible exact ih1 _ _ _ _ _ _ _ _ _ _ _ _ _ _ _)
      | (with_reducible exact ih2 _ _ _ _ _ _ _ _ _ _ _ _ _ _ _ _)
      | (with_reducible exact cursor_Cursor_Int.mono _ _ _ _ _ _)
      | (with_reducible exact cursor_Cursor_Num.mono _ _ _ _ _ _ _)
      | (with_reducible exact decklelaw04_small.mono _)
      | (with_reducible exact deckleref04_Cursor_Int.mono _ _ _ _ _ _)
      | (with_reducible exact deckleref04_Cursor_Num.mono _ _ _ _ _ _ _)
      | (with_reducible exact LeO.refl _)
      | (with_reducible exact LeO.none _)
      | (with_reducible refine LeO.ite ?_ ?_)
      | (with_reducible refine LeO.bind ?_ (fun _ => ?_))
      | exact ih0 _ _ _ _ _
      | exact ih1 _ _ _ _ _ _ _ _ _ _ _ _ _ _ _
      | exact ih2 _ _ _ _ _ _ _ _ _ _ _ _ _ _ _ _
      | exact cursor_Cursor_Int.mono _ _ _ _ _ _
      | exact cursor_Cursor_Num.mono _ _ _ _ _ _ _
      | exact decklelaw04_small.mono _
      | exact deckleref04_Cursor_Int.mono _ _ _ _ _ _
      | exact deckleref04_Cursor_Num.mono _ _ _ _ _ _ _
      | exact LeO.none _
      | refine LeO.ite ?_ ?_
      | refine LeO.bind ?_ (fun _ => ?_)
def decklelaw04_CursorReads.T17 : Bool × List (List Nat × List Nat) := (true, [([], []), ([], []), ([], []), ([1, 2], [1, 2]), ([3], [3]), ([4], [4]), ([0, 5], [0, 5]), ([], []), ([], []), ([], []), ([8, 9], [8, 9]), ([10], [10]), ([11], [11]), ([7, 12, 6], [7, 12]), ([6, 13], [6, 13]), ([14, 13, 0, 1, 2, 3, 4, 5, 6, 7, 8, 9, 10, 11, 12, 13, 14], [14])])
def decklelaw04_CursorReads.B17 : List Nat := [0, 0, 0, 6, 14, 30, 63, 0, 0, 0, 768, 1792, 3840, 8191, 16383, 32767]
theorem decklelaw04_CursorReads.tab17 : rtab .any (opsOf Try.f4 17) = decklelaw04_CursorReads.T17 := by kernel_rfl
theorem decklelaw04_CursorReads.bits17 : waitsOk decklelaw04_CursorReads.T17.2 decklelaw04_CursorReads.B17 = true := by kernel_rfl
def decklelaw04_CursorReads.T21 : Bool × List (List Nat × List Nat) := (true, [([], []), ([], []), ([], []), ([1, 2], [1, 2]), ([3], [3]), ([4], [4]), ([0, 5], [0, 5]), ([6], [6]), ([], []), ([], []), ([], []), ([9, 10], [9, 10]), ([11], [11]), ([12], [12]), ([8, 13, 6], [8, 13]), ([14], [14]), ([7, 15], [7, 15]), ([16, 14, 0, 1, 2, 3, 4, 5, 6, 7, 8, 9, 10, 11, 12, 13, 14, 15, 16], [16])])
def decklelaw04_CursorReads.B21 : List Nat := [0, 0, 0, 6, 14, 30, 63, 127, 0, 0, 0, 1536, 3584, 7680, 16255, 32639, 65535, 131071]
theorem decklelaw04_CursorReads.tab21 : rtab .any (opsOf Try.f4 21) = decklelaw04_CursorReads.T21 := by kernel_rfl
theorem decklelaw04_CursorReads.bits21 : waitsOk decklelaw04_CursorReads.T21.2 decklelaw04_CursorReads.B21 = true := by kernel_rfl
set_option maxHeartbeats 8000000 in
set_option maxRecDepth 100000 in
theorem decklelaw04_CursorReads.calls (k : Nat) (A0 : Option Addr) (c0 : Nat) (l0 : List Int) (a1 : Int) (A2 : Option Addr) (c2 : Nat) (l2 : List (S42)) (r : Bool) (w : World) (hr0 : Kd.C (Kd.int .u8) w A0 l0.length l0) (hc0 : l0.length ≤ c0) (hr2 : Kd.C k42 w A2 l2.length l2) (hc2 : l2.length ≤ c2) (h : decklelaw04_CursorReads.f k l0 a1 l2 = some r) :
    Calls Try.prog 4 #[.slice A0 l0.length c0, .int .i64 a1, .slice A2 l2.length c2] w fun e w' => e = .returned (.bool r) ∧ Below w.heap.size w w' := by
  have HR0 := Aside0.mk hr0
  have HC0 := Aside0.mk hc0
  clear hr0 hc0
  have HR2 := Aside0.mk hr2
  have HC2 := Aside0.mk hc2
  clear hr2 hc2
  have HB := Aside0.mk (Below.refl w.heap.size w)
  have H : ((decklelaw04_small.f k).bind fun t316 => (if (l0.length : Int) > 500 then (decklelaw04_CursorReads.j0 k l0 a1 l2 t316 true) else (decklelaw04_CursorReads.j0 k l0 a1 l2 t316 (decide ((l2.length : Int) > 100))))) = some r := h
  clear h
  replace H := Option.bind_eq_some_iff.mp H
  obtain ⟨t316, A40, H⟩ := H
  replace H : (if (l0.length : Int) > 500 then (decklelaw04_CursorReads.j0 k l0 a1 l2 t316 true) else (decklelaw04_CursorReads.j0 k l0 a1 l2 t316 (decide ((l2.length : Int) > 100)))) = some r := H
  have A4 := Aside0.mk A40
  clear A40
  have HC5 := Aside0.mk H
  clear H
  go_enter Try.func4, Try.ntmps4
  go_upto_region 2 with (first | ((with_reducible refine gate_callee (f := 8) rfl ?_); refine goesL_ (some 13) rfl rfl Try.func8 (by kernel_rfl) rfl #[] rfl (by (try simp only [List.map_toArray, List.map_cons, List.map_nil]); first | done | rfl | (simp only [List.length_drop, List.length_take]; rfl)) ?_; (with_reducible refine (decklelaw04_small.calls k  t316 _ A4.out).mono ?_); rintro e w6 ⟨rfl, hb⟩; refine ⟨_, rfl, ?_⟩; have n0_ := Aside0.mk (below_step (by repeat (first | (with_reducible first | exact HB.out | apply below_alloc | apply pw_below_drewN | apply below_drew1) | exact HB.out)) hb); clear HB; have HB := n0_; clear n0_; (try clear hb); (try clear hb2); (try clear hk); (try clear hi)))
  (try simp only [Act.put, List.setIfInBounds_toArray, List.set_cons_zero, List.set_cons_succ])
  go_cut [21] (fun v21 wc => ∃ (kq : Nat) (x21_4 : Bool), v21 = .bool x21_4 ∧ Aside0 (decklelaw04_CursorReads.j0 kq l0 a1 l2 t316 x21_4 = some r) ∧ Aside0 (kq ≤ k) ∧ Aside0 (Below w.heap.size w wc))
  case first =>
    have H := HC5.out
    clear HC5
    by_cases c7 : (l0.length : Int) > 500
    · rw [if_pos c7] at H
      have c7b0 : decide (500 < (l0.length : Int)) = true := decide_eq_true c7
      have c7b1 : decide (500 < l0.length) = true := decide_eq_true (by omega)
      clear c7
      (first | rw [c7b0] | (simp only [i64_w, i32_w]; rw [c7b0]) | skip)
      have H' := Aside0.mk H
      clear H
      go_wp2
      go_meet
      case rel => exact ⟨_, (true), (by first | rfl | (simp; done) | (simp [*]; done)), H', ⟨by first | omega | exact Nat.le_refl _⟩, ⟨by repeat (first | (with_reducible first | exact HB.out | apply below_alloc | apply pw_below_drewN | apply below_drew1) | exact HB.out)⟩⟩
    · rw [if_neg c7] at H
      have c7b0 : decide (500 < (l0.length : Int)) = false := decide_eq_false c7
      have c7b1 : decide (500 < l0.length) = false := decide_eq_false (by omega)
      clear c7
      (first | rw [c7b0] | (simp only [i64_w, i32_w]; rw [c7b0]) | skip)
      have H' := Aside0.mk H
      clear H
      go_wp2
      go_meet
      case rel => exact ⟨_, (decide ((l2.length : Int) > 100)), (by first | rfl | (simp; done) | (simp [*]; done)), H', ⟨by first | omega | exact Nat.le_refl _⟩, ⟨by repeat (first | (with_reducible first | exact HB.out | apply below_alloc | apply pw_below_drewN | apply below_drew1) | exact HB.out)⟩⟩
  case rest =>
    clear HC5
    try clear c2
    try clear p2
    try clear c4
    try clear c7
    try clear c7b0
    try clear c7b1
    obtain ⟨kq, x21_4, rfl, HA, HJ4, HB⟩ := hcut
    cases kq with
    | zero => exact absurd HA.out (by simp [decklelaw04_CursorReads.j0])
    | succ kj4 =>
      have H := HA.out
      clear HA
      simp only [decklelaw04_CursorReads.j0] at H
      by_cases c8 : x21_4 = true
      · subst c8
        have H1 : (some t316) = some r := by rw [if_pos rfl] at H; exact H
        clear H
        have H := H1
        clear H1
        obtain rfl := Option.some.inj H
        go_wp2
        go_ret
        exact ⟨by first | rfl | (simp [errW_none, errW_some] <;> rfl) | (simp [*, errW_none, errW_some] <;> rfl), by repeat (first | (with_reducible first | exact HB.out | apply below_alloc | apply pw_below_drewN | apply below_drew1) | exact HB.out)⟩
      · replace c8 := Bool.eq_false_iff.mpr c8
        subst c8
        have H1 : ((some (([] : List Int) : List Int)).bind fun y317 => (if y317.length + l0.length < 140737488355328 then ((some (y317 ++ l0 : List Int)).bind fun y320 => ((cursor_Open.f y320 a1).bind fun bt323 => ((deckleref04_Open.f l0 a1).bind fun bt329 => (decklelaw04_CursorReads.l0 kj4 l0 l2 t316 y320 0 bt323.1 bt323.2.1 bt323.2.2.1 bt323.2.2.2.1 bt323.2.2.2.2 bt329.1 bt329.2.1 bt329.2.2.1 bt329.2.2.2.1 bt329.2.2.2.2)))) else (none))) = some r := by rw [if_neg (show ¬ (false = true) by decide)] at H; exact H
        clear H
        have H := H1
        clear H1
        obtain ⟨y317, hy317⟩ : ∃ y_ : List Int, y_ = (([] : List Int)) := ⟨_, rfl⟩
        replace H : (if y317.length + l0.length < 140737488355328 then ((some (y317 ++ l0 : List Int)).bind fun y320 => ((cursor_Open.f y320 a1).bind fun bt323 => ((deckleref04_Open.f l0 a1).bind fun bt329 => (decklelaw04_CursorReads.l0 kj4 l0 l2 t316 y320 0 bt323.1 bt323.2.1 bt323.2.2.1 bt323.2.2.2.1 bt323.2.2.2.2 bt329.1 bt329.2.1 bt329.2.2.1 bt329.2.2.2.1 bt329.2.2.2.2)))) else (none)) = some r := by first | (rw [hy317]; with_reducible exact H) | (have H2_ := (Option.bind_some _ _).symm.trans H; rw [hy317]; with_reducible exact H2_) | (have H2_ := (Option.bind_some _ _).symm.trans H; with_reducible exact H2_) | with_reducible exact H | (rw [hy317]; exact H) | exact H
        have Ny317 := Aside0.mk hy317
        clear hy317
        by_cases c9 : y317.length + l0.length < 140737488355328
        · rw [if_pos c9] at H
          have LMc9 := Aside0.mk c9
          clear c9
          obtain ⟨y320, hy320⟩ : ∃ y_ : List Int, y_ = (y317 ++ l0) := ⟨_, rfl⟩
          replace H : ((cursor_Open.f y320 a1).bind fun bt323 => ((deckleref04_Open.f l0 a1).bind fun bt329 => (decklelaw04_CursorReads.l0 kj4 l0 l2 t316 y320 0 bt323.1 bt323.2.1 bt323.2.2.1 bt323.2.2.2.1 bt323.2.2.2.2 bt329.1 bt329.2.1 bt329.2.2.1 bt329.2.2.2.1 bt329.2.2.2.2))) = some r := by first | (rw [hy320]; with_reducible exact H) | (have H2_ := (Option.bind_some _ _).symm.trans H; rw [hy320]; with_reducible exact H2_) | (have H2_ := (Option.bind_some _ _).symm.trans H; with_reducible exact H2_) | with_reducible exact H | (rw [hy320]; exact H) | exact H
          have Ny320 := Aside0.mk hy320
          clear hy320
          replace H := Option.bind_eq_some_iff.mp H
          obtain ⟨⟨t323, t324, t325, t326, t327⟩, A100, H⟩ := H
          replace H : ((deckleref04_Open.f l0 a1).bind fun bt329 => (decklelaw04_CursorReads.l0 kj4 l0 l2 t316 y320 0 t323 t324 t325 t326 t327 bt329.1 bt329.2.1 bt329.2.2.1 bt329.2.2.2.1 bt329.2.2.2.2)) = some r := H
          have A10 := Aside0.mk A100
          clear A100
          replace H := Option.bind_eq_some_iff.mp H
          obtain ⟨⟨t329, t330, t331, t332, t333⟩, A110, H⟩ := H
          replace H : (decklelaw04_CursorReads.l0 kj4 l0 l2 t316 y320 0 t323 t324 t325 t326 t327 t329 t330 t331 t332 t333) = some r := H
          have A11 := Aside0.mk A110
          clear A110
          have H' := Aside0.mk H
          clear H
          go_wp2_with (first | ((with_reducible refine gate_dst (N := 23) rfl ?_); (try (refine gate_guard (by rfl) ?_; dsimp only)); refine Kd.R_lit (Kd.int .u8) _ 5 ?hg (N := 23) ?hd (xs := ([] : List Int)) (inner := []) (ok := fun _ => True) (okp := fun _ => True) ?hr ?hp (fun _ hk => hk) trivial (Below.refl _ _) (Nat.le_refl _) (by simp) ?_; (case hd => rfl); (case hg => rfl); (case hr => first | (go_simp; done) | (go_simp; rfl)); (case hp => exact (Reps.none _ _)); intro v318 w12 ho13 hb hg_ hnew_; clear hg_ hnew_; (first | rw [← Ny317.out] at ho13 | (simp only [Int.reduceToNat] at ho13; rw [← Ny317.out] at ho13)); have n0_ := Aside0.mk (Kd.R_lower ho13 (below_size (by repeat (first | (with_reducible first | exact HB.out | apply below_alloc | apply pw_below_drewN | apply below_drew1) | exact HB.out)))); have n1_ := Aside0.mk (below_step (by repeat (first | (with_reducible first | exact HB.out | apply below_alloc | apply pw_below_drewN | apply below_drew1) | exact HB.out)) hb); clear HB; have HO319 := n0_; have HB := n1_; clear n0_ n1_; clear hb ho13) | ((with_reducible refine gate_builtin (b := .append) (xs := #[.tmp 23, .tmp 24]) rfl ?_); (try (refine gate_guard (by rfl) ?_; dsimp only)); at_builtin; refine Kd.R_append_rows (Kd.int .u8) (w0 := w) w.heap.size rfl (.tmp 23) (.tmp 24) 22 5 (.int .u8 0) 1 rfl Try.underlying22 info5 rfl (by decide) (by omega) v318 y317 l0 _ _ _ (fun _ => True) (fun _ => False) rfl rfl ?aO ?aR (fun _ _ h => h) (fun _ h => h.elim) ?aF ?aB ?aS ?aL ?_; (case aR => repeat (first | exact (Kd.C_below HR0.out HB.out) | (with_reducible refine Kd.C_alloc ?_ _) | (with_reducible refine Kd.C_drewN ?_ _) | (with_reducible refine Kd.C_drew ?_))); (case aB => exact (by repeat (first | (with_reducible first | exact HB.out | apply below_alloc | apply pw_below_drewN | apply below_drew1) | exact HB.out))); (case aF => exact (fun _ _ => trivial)); (case aO => exact (by (with_reducible repeat (first | apply Kd.R_alloc | apply Kd.R_drewN | apply Kd.R_drew)); exact HO319.out)); (case aS => exact (below_size (by repeat (first | (with_reducible first | exact HB.out | apply below_alloc | apply pw_below_drewN | apply below_drew1) | exact HB.out)))); (case aL => have := LMc9.out; omega); intro v321 w14 ho hb hg hat; rw [← Ny320.out] at ho; have n0_ := Aside0.mk (hb); have n1_ := Aside0.mk (ho); clear HB; clear HO319; have HB := n0_; have HO322 := n1_; clear n0_ n1_; clear ho hb hg hat; obtain ⟨Ao15, co15, eo15⟩ := Kd.R_slice HO322.out; subst eo15) | ((with_reducible refine gate_callee (f := 9) rfl ?_); refine goesL_ (some 28) rfl rfl Try.func9 (by kernel_rfl) rfl #[.slice Ao15 y320.length co15, .int .i64 a1] rfl (by (try simp only [List.map_toArray, List.map_cons, List.map_nil]); first | done | rfl | (simp only [List.length_drop, List.length_take]; rfl)) ?_; (with_reducible refine (cursor_Open.calls _ _ y320 a1 t323 t324 t325 t326 t327 w _ ?side1 ?side2 ?side3 A10.out).mono ?_); (case side1 => repeat (first | (with_reducible first | exact HB.out | apply below_alloc | apply pw_below_drewN | apply below_drew1) | exact HB.out)); (case side2 => repeat (first | exact (Kd.R_reads' HO322.out).2.2 | (with_reducible refine Kd.C_alloc ?_ _) | (with_reducible refine Kd.C_drewN ?_ _) | (with_reducible refine Kd.C_drew ?_))); (case side3 => exact (Kd.R_reads' HO322.out).2.1); rintro e w16 ⟨g328, rfl, hi, hb, hb2⟩; refine ⟨_, rfl, ?_⟩; have n0_ := Aside0.mk (Kd.R_below (by (with_reducible repeat (first | apply Kd.R_alloc | apply Kd.R_drewN | apply Kd.R_drew)); exact HO322.out) hb2); have n1_ := Aside0.mk (hb); have n2_ := Aside0.mk (hi); clear HO322; clear HB; have HO322 := n0_; have HB := n1_; have HI328 := n2_; clear n0_ n1_ n2_; (try clear hb); (try clear hb2); (try clear hk); (try clear hi)) | ((with_reducible refine gate_callee (f := 14) rfl ?_); refine goesL_ (some 31) rfl rfl Try.func14 (by kernel_rfl) rfl #[.slice A0 l0.length c0, .int .i64 a1] rfl (by (try simp only [List.map_toArray, List.map_cons, List.map_nil]); first | done | rfl | (simp only [List.length_drop, List.length_take]; rfl)) ?_; (with_reducible refine (deckleref04_Open.calls _ _ l0 a1 t329 t330 t331 t332 t333 _ _ (Below.refl _ _) ?side1 ?side2 A11.out).mono ?_); (case side1 => repeat (first | exact (Kd.C_below HR0.out HB.out) | (with_reducible refine Kd.C_alloc ?_ _) | (with_reducible refine Kd.C_drewN ?_ _) | (with_reducible refine Kd.C_drew ?_))); (case side2 => exact HC0.out); rintro e w17 ⟨g334, rfl, hi, hb, hb2⟩; refine ⟨_, rfl, ?_⟩; have n0_ := Aside0.mk (Kd.R_below (by (with_reducible repeat (first | apply Kd.R_alloc | apply Kd.R_drewN | apply Kd.R_drew)); exact HO322.out) hb2); have n1_ := Aside0.mk (IsS35.below (by repeat (first | (with_reducible first | exact HI328.out | apply IsS35.alloc | apply IsS35.drewN | apply IsS35.drew | apply IsS35.set_0 | apply IsS35.set_1 | apply IsS35.set_2 | apply IsS35.set_3 | apply IsS35.set_4) | exact HI328.out)) hb2); have n2_ := Aside0.mk (below_step (by repeat (first | (with_reducible first | exact HB.out | apply below_alloc | apply pw_below_drewN | apply below_drew1 | refine below_set ?_ (IsS35.ge HI328.out)) | exact HB.out)) hb2); have n3_ := Aside0.mk ((show IsS55 w w17 g334 t329 t330 t331 t332 t333 from ⟨hi.1, Nat.le_trans (below_size (by repeat (first | (with_reducible first | exact HB.out | apply below_alloc | apply pw_below_drewN | apply below_drew1 | refine below_set ?_ (IsS35.ge HI328.out)) | exact HB.out))) hi.2⟩)); have n4_ := Aside0.mk (((Nat.ne_of_lt (Nat.lt_of_lt_of_le (IsS35.lt (show IsS35 w _ g328 t323 t324 t325 t326 t327 from by repeat (first | (with_reducible first | exact HI328.out | apply IsS35.alloc | apply IsS35.drewN | apply IsS35.drew | apply IsS35.set_0 | apply IsS35.set_1 | apply IsS35.set_2 | apply IsS35.set_3 | apply IsS35.set_4) | exact HI328.out))) hi.2)).symm : g334 ≠ g328)); have n5_ := Aside0.mk ((Nat.ne_of_lt (Nat.lt_of_lt_of_le (IsS35.lt (show IsS35 w _ g328 t323 t324 t325 t326 t327 from by repeat (first | (with_reducible first | exact HI328.out | apply IsS35.alloc | apply IsS35.drewN | apply IsS35.drew | apply IsS35.set_0 | apply IsS35.set_1 | apply IsS35.set_2 | apply IsS35.set_3 | apply IsS35.set_4) | exact HI328.out))) hi.2) : g328 ≠ g334)); clear HO322; clear HI328; clear HB; have HO322 := n0_; have HI328 := n1_; have HB := n2_; have HI334 := n3_; have NB334_328 := n4_; have NB328_334 := n5_; clear n0_ n1_ n2_ n3_ n4_ n5_; (try clear hb); (try clear hb2); (try clear hk); (try clear hi)))
          go_loopg [11] kj4 (fun kq v11 w' => ∃ (x11_2 : Int) (x329000_2 : Int) (x329001_2 : Int) (x329002_2 : Int) (x329003_2 : Int) (x329004_2 : (List Int)) (x335000_2 : (List Int)) (x335001_2 : Int) (x335002_2 : Int) (x335003_2 : Int) (x335004_2 : Int), v11 = .int .i64 x11_2 ∧ Aside0 (decklelaw04_CursorReads.l0 kq l0 l2 t316 y320 x11_2 x329000_2 x329001_2 x329002_2 x329003_2 x329004_2 x335000_2 x335001_2 x335002_2 x335003_2 x335004_2 = some r) ∧ Aside0 (kq ≤ kj4) ∧ Aside0 (Kd.R (Kd.int .u8) 5 w' w.heap.size (fun _ => True) (.slice Ao15 y320.length co15) y320) ∧ Aside0 (IsS35 w w' g328 x329000_2 x329001_2 x329002_2 x329003_2 x329004_2) ∧ Aside0 (IsS55 w w' g334 x335000_2 x335001_2 x335002_2 x335003_2 x335004_2) ∧ Aside0 (Below w.heap.size w w'))
          case atStart => exact ⟨(0), (t323), (t324), (t325), (t326), (t327), (t329), (t330), (t331), (t332), (t333), (by first | rfl | (simp; done) | (simp [*]; done)), H', ⟨Nat.le_refl _⟩, ⟨by (with_reducible repeat (first | apply Kd.R_alloc | apply Kd.R_drewN | apply Kd.R_drew)); exact HO322.out⟩, ⟨by repeat (first | (with_reducible first | exact HI328.out | apply IsS35.alloc | apply IsS35.drewN | apply IsS35.drew | apply IsS35.set_0 | apply IsS35.set_1 | apply IsS35.set_2 | apply IsS35.set_3 | apply IsS35.set_4) | exact HI328.out)⟩, ⟨by repeat (first | (with_reducible first | exact HI334.out | apply IsS55.alloc | apply IsS55.drewN | apply IsS55.drew | apply IsS55.set_0 | apply IsS55.set_1 | apply IsS55.set_2 | apply IsS55.set_3 | apply IsS55.set_4) | exact HI334.out)⟩, ⟨by repeat (first | (with_reducible first | exact HB.out | apply below_alloc | apply pw_below_drewN | apply below_drew1 | refine below_set ?_ (IsS35.ge HI328.out) | refine below_set ?_ (IsS55.ge HI334.out)) | exact HB.out)⟩⟩
          case round =>
            clear H'
            try clear c1
            try clear c2
            try clear p2
            try clear c4
            try clear c7
            try clear c7b0
            try clear c7b1
            try clear c8
            try clear c9
            try clear c14
            try clear p2
            obtain ⟨x11_2, x329000_2, x329001_2, x329002_2, x329003_2, x329004_2, x335000_2, x335001_2, x335002_2, x335003_2, x335004_2, rfl, HA, HK2, HO_8, HI328, HI334, HB⟩ := hrel
            cases gk with
            | zero => exact absurd HA.out (by simp [decklelaw04_CursorReads.l0])
            | succ k2 =>
              have H := HA.out
              clear HA
              simp only [decklelaw04_CursorReads.l0] at H
              by_cases c18 : x11_2 < (l2.length : Int)
              · rw [if_pos c18] at H
                have c18b0 : decide (x11_2 < (l2.length : Int)) = true := decide_eq_true c18
                clear c18
                by_cases c19 : 0 ≤ x11_2
                · rw [if_pos c19] at H
                  have c19b0 : decide (0 ≤ x11_2) = true := decide_eq_true c19
                  clear c19
                  have HC20 := Aside0.mk H
                  clear H
                  have p335 : 0 ≤ (x11_2 : Int) := of_decide_eq_true (by first | (with_reducible assumption) | assumption)
                  have q335 : x11_2 < (l2.length : Int) := of_decide_eq_true (by first | (with_reducible assumption) | assumption)
                  obtain ⟨ad335, e335, hx335_0, hx335_1⟩ := at_T42 HR2.out x11_2 p335 q335
                  cases e335
                  replace hx335_0 := (HB.out.cell (World.block_lt_of_cell? w _ hx335_0)).trans hx335_0
                  replace hx335_1 := (HB.out.cell (World.block_lt_of_cell? w _ hx335_1)).trans hx335_1
                  replace p335 := eq_true p335
                  replace q335 := eq_true q335
                  go_upto_block 2 with (fail)
                  go_cut [12] (fun v12 wc => ∃ (kq : Nat) (x12_19 : Bool) (x329000_19 : Int) (x329001_19 : Int) (x329002_19 : Int) (x329003_19 : Int) (x329004_19 : (List Int)) (x335000_19 : (List Int)) (x335001_19 : Int) (x335002_19 : Int) (x335003_19 : Int) (x335004_19 : Int), v12 = .bool x12_19 ∧ Aside0 (decklelaw04_CursorReads.j2 kq l0 l2 t316 y320 x11_2 x12_19 x329000_19 x329001_19 x329002_19 x329003_19 x329004_19 x335000_19 x335001_19 x335002_19 x335003_19 x335004_19 = some r) ∧ Aside0 (kq ≤ k2) ∧ Aside0 (Kd.R (Kd.int .u8) 5 wc w.heap.size (fun _ => True) (.slice Ao15 y320.length co15) y320) ∧ Aside0 (IsS35 w wc g328 x329000_19 x329001_19 x329002_19 x329003_19 x329004_19) ∧ Aside0 (IsS55 w wc g334 x335000_19 x335001_19 x335002_19 x335003_19 x335004_19) ∧ Aside0 (Below w.heap.size w wc))
                  case first =>
                    have H := HC20.out
                    clear HC20
                    by_cases c21 : ((rd_T42 l2 x11_2).f0) = 0
                    · rw [if_pos c21] at H
                      have c21b0 : (((rd_T42 l2 x11_2).f0) == 0) = true := beq_iff_eq.mpr c21
                      have c21b1 : (((rd_T42 l2 x11_2).f0) != 0) = false := bne_eq_false_iff_eq.mpr c21
                      clear c21
                      (first | rw [c21b0] | (simp only [i64_w, i32_w]; rw [c21b0]) | skip)
                      replace H := Option.bind_eq_some_iff.mp H
                      obtain ⟨⟨t336, t337, t338, t339, t340, t341⟩, A220, H⟩ := H
                      replace H : ((deckleref04_Cursor_Byte.f x335000_2 x335001_2 x335002_2 x335003_2 x335004_2).bind fun bt342 => (decklelaw04_CursorReads.j2 k2 l0 l2 t316 y320 x11_2 (t336 == bt342.1) t337 t338 t339 t340 t341 bt342.2.1 bt342.2.2.1 bt342.2.2.2.1 bt342.2.2.2.2.1 bt342.2.2.2.2.2)) = some r := H
                      have A22 := Aside0.mk A220
                      clear A220
                      replace H := Option.bind_eq_some_iff.mp H
                      obtain ⟨⟨t342, t343, t344, t345, t346, t347⟩, A230, H⟩ := H
                      replace H : (decklelaw04_CursorReads.j2 k2 l0 l2 t316 y320 x11_2 (t336 == t342) t337 t338 t339 t340 t341 t343 t344 t345 t346 t347) = some r := H
                      have A23 := Aside0.mk A230
                      clear A230
                      have H' := Aside0.mk H
                      clear H
                      go_wp2_with (first | ((with_reducible refine gate_callee (f := 15) rfl ?_); refine goesL_ (some 48) rfl rfl Try.func15 (by kernel_rfl) rfl #[.pointer (some ⟨g328, 0, none⟩)] rfl (by (try simp only [List.map_toArray, List.map_cons, List.map_nil]); first | done | rfl | (simp only [List.length_drop, List.length_take]; rfl)) ?_; (with_reducible refine (cursor_Cursor_Byte.calls g328 x329000_2 x329001_2 x329002_2 x329003_2 x329004_2 t336 t337 t338 t339 t340 t341 w _ ?side1 ?side2 A22.out).mono ?_); (case side1 => repeat (first | (with_reducible first | exact HI328.out | apply IsS35.alloc | apply IsS35.drewN | apply IsS35.drew | apply IsS35.set_0 | apply IsS35.set_1 | apply IsS35.set_2 | apply IsS35.set_3 | apply IsS35.set_4) | exact HI328.out)); (case side2 => repeat (first | (with_reducible first | exact HB.out | apply below_alloc | apply pw_below_drewN | apply below_drew1 | refine below_set ?_ (IsS35.ge HI328.out) | refine below_set ?_ (IsS55.ge HI334.out)) | exact HB.out)); rintro e w24 ⟨rfl, hi, hb, hk⟩; refine ⟨_, rfl, ?_⟩; have n0_ := Aside0.mk (Kd.R_mono (Kd.R_keep (IsS35.apart (show IsS35 w _ g328 x329000_2 x329001_2 x329002_2 x329003_2 x329004_2 from by repeat (first | (with_reducible first | exact HI328.out | apply IsS35.alloc | apply IsS35.drewN | apply IsS35.drew | apply IsS35.set_0 | apply IsS35.set_1 | apply IsS35.set_2 | apply IsS35.set_3 | apply IsS35.set_4) | exact HI328.out)) (by (with_reducible repeat (first | apply Kd.R_alloc | apply Kd.R_drewN | apply Kd.R_drew)); exact HO_8.out) (by decide)) hk (fun _ h => h.2)) (fun _ h => h.1)); have n1_ := Aside0.mk ((IsS55.keepS (show IsS55 w _ g334 x335000_2 x335001_2 x335002_2 x335003_2 x335004_2 from by repeat (first | (with_reducible first | exact HI334.out | apply IsS55.alloc | apply IsS55.drewN | apply IsS55.drew | apply IsS55.set_0 | apply IsS55.set_1 | apply IsS55.set_2 | apply IsS55.set_3 | apply IsS55.set_4) | exact HI334.out)) hk NB334_328.out (IsS35.cells (show IsS35 w _ g328 x329000_2 x329001_2 x329002_2 x329003_2 x329004_2 from by repeat (first | (with_reducible first | exact HI328.out | apply IsS35.alloc | apply IsS35.drewN | apply IsS35.drew | apply IsS35.set_0 | apply IsS35.set_1 | apply IsS35.set_2 | apply IsS35.set_3 | apply IsS35.set_4) | exact HI328.out))))); have n2_ := Aside0.mk (hb); have n3_ := Aside0.mk (hi); clear HO_8; clear HI334; clear HB; clear HI328; have HO_8 := n0_; have HI334 := n1_; have HB := n2_; have HI328 := n3_; clear n0_ n1_ n2_ n3_; (try clear hb); (try clear hb2); (try clear hk); (try clear hi)) | ((with_reducible refine gate_callee (f := 16) rfl ?_); refine goesL_ (some 50) rfl rfl Try.func16 (by kernel_rfl) rfl #[.pointer (some ⟨g334, 0, none⟩)] rfl (by (try simp only [List.map_toArray, List.map_cons, List.map_nil]); first | done | rfl | (simp only [List.length_drop, List.length_take]; rfl)) ?_; (with_reducible refine (deckleref04_Cursor_Byte.calls g334 x335000_2 x335001_2 x335002_2 x335003_2 x335004_2 t342 t343 t344 t345 t346 t347 w _ ?side1 ?side2 A23.out).mono ?_); (case side1 => repeat (first | (with_reducible first | exact HI334.out | apply IsS55.alloc | apply IsS55.drewN | apply IsS55.drew | apply IsS55.set_0 | apply IsS55.set_1 | apply IsS55.set_2 | apply IsS55.set_3 | apply IsS55.set_4) | exact HI334.out)); (case side2 => repeat (first | (with_reducible first | exact HB.out | apply below_alloc | apply pw_below_drewN | apply below_drew1 | refine below_set ?_ (IsS35.ge HI328.out) | refine below_set ?_ (IsS55.ge HI334.out)) | exact HB.out)); rintro e w25 ⟨rfl, hi, hb, hk⟩; refine ⟨_, rfl, ?_⟩; have n0_ := Aside0.mk (Kd.R_mono (Kd.R_keep (IsS55.apart (show IsS55 w _ g334 x335000_2 x335001_2 x335002_2 x335003_2 x335004_2 from by repeat (first | (with_reducible first | exact HI334.out | apply IsS55.alloc | apply IsS55.drewN | apply IsS55.drew | apply IsS55.set_0 | apply IsS55.set_1 | apply IsS55.set_2 | apply IsS55.set_3 | apply IsS55.set_4) | exact HI334.out)) (by (with_reducible repeat (first | apply Kd.R_alloc | apply Kd.R_drewN | apply Kd.R_drew)); exact HO_8.out) (by decide)) hk (fun _ h => h.2)) (fun _ h => h.1)); have n1_ := Aside0.mk ((IsS35.keepS (show IsS35 w _ g328 t337 t338 t339 t340 t341 from by repeat (first | (with_reducible first | exact HI328.out | apply IsS35.alloc | apply IsS35.drewN | apply IsS35.drew | apply IsS35.set_0 | apply IsS35.set_1 | apply IsS35.set_2 | apply IsS35.set_3 | apply IsS35.set_4) | exact HI328.out)) hk NB328_334.out (IsS55.cells (show IsS55 w _ g334 x335000_2 x335001_2 x335002_2 x335003_2 x335004_2 from by repeat (first | (with_reducible first | exact HI334.out | apply IsS55.alloc | apply IsS55.drewN | apply IsS55.drew | apply IsS55.set_0 | apply IsS55.set_1 | apply IsS55.set_2 | apply IsS55.set_3 | apply IsS55.set_4) | exact HI334.out))))); have n2_ := Aside0.mk (hb); have n3_ := Aside0.mk (hi); clear HO_8; clear HI328; clear HB; clear HI334; have HO_8 := n0_; have HI328 := n1_; have HB := n2_; have HI334 := n3_; clear n0_ n1_ n2_ n3_; (try clear hb); (try clear hb2); (try clear hk); (try clear hi)))
                      go_meet
                      case rel => exact ⟨_, ((t336 == t342)), (t337), (t338), (t339), (t340), (t341), (t343), (t344), (t345), (t346), (t347), (by first | rfl | (simp; done) | (simp [*]; done)), H', ⟨by have := HJ4.out; have := HK2.out; first | omega | exact Nat.le_refl _⟩, ⟨by (with_reducible repeat (first | apply Kd.R_alloc | apply Kd.R_drewN | apply Kd.R_drew)); exact HO_8.out⟩, ⟨by repeat (first | (with_reducible first | exact HI328.out | apply IsS35.alloc | apply IsS35.drewN | apply IsS35.drew | apply IsS35.set_0 | apply IsS35.set_1 | apply IsS35.set_2 | apply IsS35.set_3 | apply IsS35.set_4) | exact HI328.out)⟩, ⟨by repeat (first | (with_reducible first | exact HI334.out | apply IsS55.alloc | apply IsS55.drewN | apply IsS55.drew | apply IsS55.set_0 | apply IsS55.set_1 | apply IsS55.set_2 | apply IsS55.set_3 | apply IsS55.set_4) | exact HI334.out)⟩, ⟨by repeat (first | (with_reducible first | exact HB.out | apply below_alloc | apply pw_below_drewN | apply below_drew1 | refine below_set ?_ (IsS35.ge HI328.out) | refine below_set ?_ (IsS55.ge HI334.out)) | exact HB.out)⟩⟩
                    · rw [if_neg c21] at H
                      have c21b0 : (((rd_T42 l2 x11_2).f0) == 0) = false := beq_eq_false_iff_ne.mpr c21
                      have c21b1 : (((rd_T42 l2 x11_2).f0) != 0) = true := bne_iff_ne.mpr c21
                      (first | rw [c21b0] | (simp only [i64_w, i32_w]; rw [c21b0]) | skip)
                      by_cases c26 : ((rd_T42 l2 x11_2).f0) = 1
                      · rw [if_pos c26] at H
                        have c26b0 : (((rd_T42 l2 x11_2).f0) == 1) = true := beq_iff_eq.mpr c26
                        have c26b1 : (((rd_T42 l2 x11_2).f0) != 1) = false := bne_eq_false_iff_eq.mpr c26
                        clear c26
                        replace H := Option.bind_eq_some_iff.mp H
                        obtain ⟨⟨t349, t350, t351, t352, t353, t354⟩, A270, H⟩ := H
                        replace H : ((deckleref04_Cursor_Num.f k2 x335000_2 x335001_2 x335002_2 x335003_2 x335004_2 ((rd_T42 l2 x11_2).f1)).bind fun bt356 => (decklelaw04_CursorReads.j2 k2 l0 l2 t316 y320 x11_2 (t349 == bt356.1) t350 t351 t352 t353 t354 bt356.2.1 bt356.2.2.1 bt356.2.2.2.1 bt356.2.2.2.2.1 bt356.2.2.2.2.2)) = some r := H
                        have A27 := Aside0.mk A270
                        clear A270
                        replace H := Option.bind_eq_some_iff.mp H
                        obtain ⟨⟨t356, t357, t358, t359, t360, t361⟩, A280, H⟩ := H
                        replace H : (decklelaw04_CursorReads.j2 k2 l0 l2 t316 y320 x11_2 (t349 == t356) t350 t351 t352 t353 t354 t357 t358 t359 t360 t361) = some r := H
                        have A28 := Aside0.mk A280
                        clear A280
                        have H' := Aside0.mk H
                        clear H
                        try go_wp2
                        have n0_ := Aside0.mk (Kd.R_drew HO_8.out)
                        have n1_ := Aside0.mk (IsS35.drew HI328.out)
                        have n2_ := Aside0.mk (IsS55.drew HI334.out)
                        have n3_ := Aside0.mk (below_drew1 HB.out)
                        clear HO_8
                        clear HI328
                        clear HI334
                        clear HB
                        have HO_8 := n0_
                        have HI328 := n1_
                        have HI334 := n2_
                        have HB := n3_
                        clear n0_ n1_ n2_ n3_
                        have p348 : 0 ≤ (x11_2 : Int) := of_decide_eq_true (by first | (with_reducible assumption) | assumption)
                        have q348 : x11_2 < (l2.length : Int) := of_decide_eq_true (by first | (with_reducible assumption) | assumption)
                        obtain ⟨ad348, e348, hx348_0, hx348_1⟩ := at_T42 HR2.out x11_2 p348 q348
                        have hw348_1 := hx348_1
                        have hw348_0 := hx348_0
                        obtain rfl : ad335 = ad348 := (by injection e348)
                        replace hx348_0 := (HB.out.cell (World.block_lt_of_cell? w _ hx348_0)).trans hx348_0
                        replace hx348_1 := (HB.out.cell (World.block_lt_of_cell? w _ hx348_1)).trans hx348_1
                        replace p348 := eq_true p348
                        replace q348 := eq_true q348
                        have p355 : 0 ≤ (x11_2 : Int) := of_decide_eq_true (by first | (with_reducible assumption) | assumption)
                        have q355 : x11_2 < (l2.length : Int) := of_decide_eq_true (by first | (with_reducible assumption) | assumption)
                        obtain ⟨ad355, e355, hx355_0, hx355_1⟩ := at_T42 HR2.out x11_2 p355 q355
                        have hw355_1 := hx355_1
                        have hw355_0 := hx355_0
                        obtain rfl : ad335 = ad355 := (by injection e355)
                        replace hx355_0 := (HB.out.cell (World.block_lt_of_cell? w _ hx355_0)).trans hx355_0
                        replace hx355_1 := (HB.out.cell (World.block_lt_of_cell? w _ hx355_1)).trans hx355_1
                        replace p355 := eq_true p355
                        replace q355 := eq_true q355
                        refine start_ (n := 16) (S := fun w' => w'.cell? (ad335.add ((x11_2).toNat * 2)) = some (.int .i64 ((rd_T42 l2 x11_2).f0)) ∧ w'.cell? ⟨(ad335.add ((x11_2).toNat * 2)).block, (ad335.add ((x11_2).toNat * 2)).off + 1, none⟩ = some (.int .i64 ((rd_T42 l2 x11_2).f1)) ∧ w'.cell? (ad335.add ((x11_2).toNat * 2)) = some (.int .i64 ((rd_T42 l2 x11_2).f0)) ∧ w'.cell? ⟨(ad335.add ((x11_2).toNat * 2)).block, (ad335.add ((x11_2).toNat * 2)).off + 1, none⟩ = some (.int .i64 ((rd_T42 l2 x11_2).f1))) (ds := []) #[false, false, false, false, false, false, false, false, false, false, false, false, false, false, false, false] (by kernel_rfl) rfl rfl ⟨((HB.out.cell (World.block_lt_of_cell? w _ hw348_0)).trans hw348_0), ((HB.out.cell (World.block_lt_of_cell? w _ hw348_1)).trans hw348_1), ((HB.out.cell (World.block_lt_of_cell? w _ hw355_0)).trans hw355_0), ((HB.out.cell (World.block_lt_of_cell? w _ hw355_1)).trans hw355_1)⟩ (fun hHeld => ?_); refine with_tabW decklelaw04_CursorReads.tab17 decklelaw04_CursorReads.bits17 (fun HT_ HW_ => ?_)
                        generalize wr.drew = w29 at HO_8 HI328 HI334 HB hx348_0 hx348_1 hx355_0 hx355_1 hHeld ⊢
                        refine pure_ (i := 0) (N := some 54) (v := ?_) (a' := ?_) #[true, false, false, false, false, false, false, false, false, false, false, false, false, false, false, false] rfl rfl (any_of HT_.out (by kernel_rfl)) (fun _ _ _ h => h) (Or.inl ⟨by rfl, ?_⟩) ?_ ?_
                        rotate_left
                        · intro w'
                          go_simp
                          with_reducible rfl
                        rotate_left
                        · simp only [Act.put, List.setIfInBounds_toArray, List.set_cons_zero, List.set_cons_succ, i64_w, i32_w]
                          rfl
                        refine pure_ (i := 1) (N := some 55) (v := ?_) (a' := ?_) #[true, true, false, false, false, false, false, false, false, false, false, false, false, false, false, false] rfl rfl (any_of HT_.out (by kernel_rfl)) (fun _ _ _ h => h) (Or.inl ⟨by rfl, ?_⟩) ?_ ?_
                        rotate_left
                        · intro w'
                          go_simp
                          with_reducible rfl
                        rotate_left
                        · simp only [Act.put, List.setIfInBounds_toArray, List.set_cons_zero, List.set_cons_succ, i64_w, i32_w]
                          rfl
                        refine pure_ (i := 2) (N := some 56) (v := ?_) (a' := ?_) #[true, true, true, false, false, false, false, false, false, false, false, false, false, false, false, false] rfl rfl (any_of HT_.out (by kernel_rfl)) (fun _ _ _ h => h) (Or.inl ⟨by rfl, ?_⟩) ?_ ?_
                        rotate_left
                        · intro w'
                          go_simp
                          with_reducible rfl
                        rotate_left
                        · simp only [Act.put, List.setIfInBounds_toArray, List.set_cons_zero, List.set_cons_succ, i64_w, i32_w]
                          rfl
                        refine pure_ (i := 3) (N := some 57) (v := ?_) (a' := ?_) #[true, true, true, true, false, false, false, false, false, false, false, false, false, false, false, false] rfl rfl (any_of HT_.out (by kernel_rfl)) (fun _ _ _ h => h) (Or.inl ⟨by rfl, ?_⟩) ?_ ?_
                        rotate_left
                        · intro w'
                          go_simp
                          with_reducible rfl
                        rotate_left
                        · simp only [Act.put, List.setIfInBounds_toArray, List.set_cons_zero, List.set_cons_succ, i64_w, i32_w]
                          rfl
                        refine pure_ (i := 4) (N := some 58) (v := ?_) (a' := ?_) #[true, true, true, true, true, false, false, false, false, false, false, false, false, false, false, false] rfl rfl (any_of HT_.out (by kernel_rfl)) (fun _ _ _ h => h) (Or.inl ⟨by rfl, ?_⟩) ?_ ?_
                        rotate_left
                        · intro w'
                          go_simp
                          with_reducible rfl
                        rotate_left
                        · simp only [Act.put, List.setIfInBounds_toArray, List.set_cons_zero, List.set_cons_succ, i64_w, i32_w]
                          rfl
                        refine pure_ (i := 7) (N := some 61) (v := ?_) (a' := ?_) #[true, true, true, true, true, false, false, true, false, false, false, false, false, false, false, false] rfl rfl (any_of HT_.out (by kernel_rfl)) (fun _ _ _ h => h) (Or.inl ⟨by rfl, ?_⟩) ?_ ?_
                        rotate_left
                        · intro w'
                          go_simp
                          with_reducible rfl
                        rotate_left
                        · simp only [Act.put, List.setIfInBounds_toArray, List.set_cons_zero, List.set_cons_succ, i64_w, i32_w]
                          rfl
                        refine pure_ (i := 8) (N := some 62) (v := ?_) (a' := ?_) #[true, true, true, true, true, false, false, true, true, false, false, false, false, false, false, false] rfl rfl (any_of HT_.out (by kernel_rfl)) (fun _ _ _ h => h) (Or.inl ⟨by rfl, ?_⟩) ?_ ?_
                        rotate_left
                        · intro w'
                          go_simp
                          with_reducible rfl
                        rotate_left
                        · simp only [Act.put, List.setIfInBounds_toArray, List.set_cons_zero, List.set_cons_succ, i64_w, i32_w]
                          rfl
                        refine pure_ (i := 9) (N := some 63) (v := ?_) (a' := ?_) #[true, true, true, true, true, false, false, true, true, true, false, false, false, false, false, false] rfl rfl (any_of HT_.out (by kernel_rfl)) (fun _ _ _ h => h) (Or.inl ⟨by rfl, ?_⟩) ?_ ?_
                        rotate_left
                        · intro w'
                          go_simp
                          with_reducible rfl
                        rotate_left
                        · simp only [Act.put, List.setIfInBounds_toArray, List.set_cons_zero, List.set_cons_succ, i64_w, i32_w]
                          rfl
                        refine pure_ (i := 10) (N := some 64) (v := ?_) (a' := ?_) #[true, true, true, true, true, false, false, true, true, true, true, false, false, false, false, false] rfl rfl (any_of HT_.out (by kernel_rfl)) (fun _ _ _ h => h) (Or.inl ⟨by rfl, ?_⟩) ?_ ?_
                        rotate_left
                        · intro w'
                          go_simp
                          with_reducible rfl
                        rotate_left
                        · simp only [Act.put, List.setIfInBounds_toArray, List.set_cons_zero, List.set_cons_succ, i64_w, i32_w]
                          rfl
                        refine pure_ (i := 11) (N := some 65) (v := ?_) (a' := ?_) #[true, true, true, true, true, false, false, true, true, true, true, true, false, false, false, false] rfl rfl (any_of HT_.out (by kernel_rfl)) (fun _ _ _ h => h) (Or.inl ⟨by rfl, ?_⟩) ?_ ?_
                        rotate_left
                        · intro w'
                          go_simp
                          with_reducible rfl
                        rotate_left
                        · simp only [Act.put, List.setIfInBounds_toArray, List.set_cons_zero, List.set_cons_succ, i64_w, i32_w]
                          rfl
                        refine take_ (i := 5) (N := some 59) (v := ?_) (a' := ?_) #[true, true, true, true, true, true, false, true, true, true, true, true, false, false, false, false] rfl rfl (take_ofW HT_.out HW_.out (by kernel_rfl)) (fun _ _ _ h => h) (Or.inl ⟨by rfl, ?_⟩) hHeld ?_ ?_
                        rotate_left
                        · rintro w' ⟨s0, s1, s2, s3⟩
                          go_simp
                          with_reducible rfl
                        rotate_left
                        · simp only [Act.put, List.setIfInBounds_toArray, List.set_cons_zero, List.set_cons_succ, i64_w, i32_w]
                          rfl
                        refine take_ (i := 12) (N := some 66) (v := ?_) (a' := ?_) #[true, true, true, true, true, true, false, true, true, true, true, true, true, false, false, false] rfl rfl (take_ofW HT_.out HW_.out (by kernel_rfl)) (fun _ _ _ h => h) (Or.inl ⟨by rfl, ?_⟩) hHeld ?_ ?_
                        rotate_left
                        · rintro w' ⟨s0, s1, s2, s3⟩
                          go_simp
                          with_reducible rfl
                        rotate_left
                        · simp only [Act.put, List.setIfInBounds_toArray, List.set_cons_zero, List.set_cons_succ, i64_w, i32_w]
                          rfl
                        refine one_ (i := 6) (N := some 60) #[true, true, true, true, true, true, true, true, true, true, true, true, true, false, false, false] rfl rfl (one_of HT_.out (by kernel_rfl)) (by decide) (fun K hK => ?_)
                        refine goes_ Try.func17 (by kernel_rfl) rfl #[.pointer (some ⟨g328, 0, none⟩), .int .i64 ((rd_T42 l2 x11_2).f1)] (by rfl) rfl rfl (by (try simp only [List.map_toArray, List.map_cons, List.map_nil]); first | done | rfl | (simp only [List.length_drop, List.length_take]; rfl)) ?_
                        with_reducible refine (cursor_Cursor_Num.calls k2 g328 x329000_2 x329001_2 x329002_2 x329003_2 x329004_2 ((rd_T42 l2 x11_2).f1) t349 t350 t351 t352 t353 t354 w _ ?side1 ?side2 A27.out).mono ?_
                        (case side1 => repeat (first | (with_reducible first | exact HI328.out | apply IsS35.alloc | apply IsS35.drewN | apply IsS35.drew | apply IsS35.set_0 | apply IsS35.set_1 | apply IsS35.set_2 | apply IsS35.set_3 | apply IsS35.set_4) | exact HI328.out))
                        (case side2 => repeat (first | (with_reducible first | exact HB.out | apply below_alloc | apply pw_below_drewN | apply below_drew1 | refine below_set ?_ (IsS35.ge HI328.out) | refine below_set ?_ (IsS55.ge HI334.out)) | exact HB.out))
                        rintro e w30 ⟨rfl, hi, hb, hk⟩
                        refine ⟨_, rfl, ?_⟩
                        have n0_ := Aside0.mk (Kd.R_mono (Kd.R_keep (IsS35.apart (show IsS35 w _ g328 x329000_2 x329001_2 x329002_2 x329003_2 x329004_2 from by repeat (first | (with_reducible first | exact HI328.out | apply IsS35.alloc | apply IsS35.drewN | apply IsS35.drew | apply IsS35.set_0 | apply IsS35.set_1 | apply IsS35.set_2 | apply IsS35.set_3 | apply IsS35.set_4) | exact HI328.out)) (by (with_reducible repeat (first | apply Kd.R_alloc | apply Kd.R_drewN | apply Kd.R_drew)); exact HO_8.out) (by decide)) hk (fun _ h => h.2)) (fun _ h => h.1))
                        have n1_ := Aside0.mk ((IsS55.keepS (show IsS55 w _ g334 x335000_2 x335001_2 x335002_2 x335003_2 x335004_2 from by repeat (first | (with_reducible first | exact HI334.out | apply IsS55.alloc | apply IsS55.drewN | apply IsS55.drew | apply IsS55.set_0 | apply IsS55.set_1 | apply IsS55.set_2 | apply IsS55.set_3 | apply IsS55.set_4) | exact HI334.out)) hk NB334_328.out (IsS35.cells (show IsS35 w _ g328 x329000_2 x329001_2 x329002_2 x329003_2 x329004_2 from by repeat (first | (with_reducible first | exact HI328.out | apply IsS35.alloc | apply IsS35.drewN | apply IsS35.drew | apply IsS35.set_0 | apply IsS35.set_1 | apply IsS35.set_2 | apply IsS35.set_3 | apply IsS35.set_4) | exact HI328.out)))))
                        have n2_ := Aside0.mk (hb)
                        have n3_ := Aside0.mk (hi)
                        clear HO_8
                        clear HI334
                        clear HB
                        clear HI328
                        have HO_8 := n0_
                        have HI334 := n1_
                        have HB := n2_
                        have HI328 := n3_
                        clear n0_ n1_ n2_ n3_
                        (try clear hb)
                        (try clear hb2)
                        (try clear hk)
                        (try clear hi)
                        refine hK.out _ _ ⟨((HB.out.cell (World.block_lt_of_cell? w _ hw348_0)).trans hw348_0), ((HB.out.cell (World.block_lt_of_cell? w _ hw348_1)).trans hw348_1), ((HB.out.cell (World.block_lt_of_cell? w _ hw355_0)).trans hw355_0), ((HB.out.cell (World.block_lt_of_cell? w _ hw355_1)).trans hw355_1)⟩ (fun hHeld => ?_)
                        clear hK K
                        refine norm_ (a' := ?_) ?_ ?_
                        rotate_left
                        · show Act.put _ (some 60) _ = _
                          simp only [Act.put, List.setIfInBounds_toArray, List.set_cons_zero, List.set_cons_succ, i64_w, i32_w]
                          rfl
                        refine one_ (i := 13) (N := some 67) #[true, true, true, true, true, true, true, true, true, true, true, true, true, true, false, false] rfl rfl (one_of HT_.out (by kernel_rfl)) (by decide) (fun K hK => ?_)
                        refine goes_ Try.func18 (by kernel_rfl) rfl #[.pointer (some ⟨g334, 0, none⟩), .int .i64 ((rd_T42 l2 x11_2).f1)] (by rfl) rfl rfl (by (try simp only [List.map_toArray, List.map_cons, List.map_nil]); first | done | rfl | (simp only [List.length_drop, List.length_take]; rfl)) ?_
                        with_reducible refine (deckleref04_Cursor_Num.calls k2 g334 x335000_2 x335001_2 x335002_2 x335003_2 x335004_2 ((rd_T42 l2 x11_2).f1) t356 t357 t358 t359 t360 t361 w _ ?side1 ?side2 A28.out).mono ?_
                        (case side1 => repeat (first | (with_reducible first | exact HI334.out | apply IsS55.alloc | apply IsS55.drewN | apply IsS55.drew | apply IsS55.set_0 | apply IsS55.set_1 | apply IsS55.set_2 | apply IsS55.set_3 | apply IsS55.set_4) | exact HI334.out))
                        (case side2 => repeat (first | (with_reducible first | exact HB.out | apply below_alloc | apply pw_below_drewN | apply below_drew1 | refine below_set ?_ (IsS35.ge HI328.out) | refine below_set ?_ (IsS55.ge HI334.out)) | exact HB.out))
                        rintro e w31 ⟨rfl, hi, hb, hk⟩
                        refine ⟨_, rfl, ?_⟩
                        have n0_ := Aside0.mk (Kd.R_mono (Kd.R_keep (IsS55.apart (show IsS55 w _ g334 x335000_2 x335001_2 x335002_2 x335003_2 x335004_2 from by repeat (first | (with_reducible first | exact HI334.out | apply IsS55.alloc | apply IsS55.drewN | apply IsS55.drew | apply IsS55.set_0 | apply IsS55.set_1 | apply IsS55.set_2 | apply IsS55.set_3 | apply IsS55.set_4) | exact HI334.out)) (by (with_reducible repeat (first | apply Kd.R_alloc | apply Kd.R_drewN | apply Kd.R_drew)); exact HO_8.out) (by decide)) hk (fun _ h => h.2)) (fun _ h => h.1))
                        have n1_ := Aside0.mk ((IsS35.keepS (show IsS35 w _ g328 t350 t351 t352 t353 t354 from by repeat (first | (with_reducible first | exact HI328.out | apply IsS35.alloc | apply IsS35.drewN | apply IsS35.drew | apply IsS35.set_0 | apply IsS35.set_1 | apply IsS35.set_2 | apply IsS35.set_3 | apply IsS35.set_4) | exact HI328.out)) hk NB328_334.out (IsS55.cells (show IsS55 w _ g334 x335000_2 x335001_2 x335002_2 x335003_2 x335004_2 from by repeat (first | (with_reducible first | exact HI334.out | apply IsS55.alloc | apply IsS55.drewN | apply IsS55.drew | apply IsS55.set_0 | apply IsS55.set_1 | apply IsS55.set_2 | apply IsS55.set_3 | apply IsS55.set_4) | exact HI334.out)))))
                        have n2_ := Aside0.mk (hb)
                        have n3_ := Aside0.mk (hi)
                        clear HO_8
                        clear HI328
                        clear HB
                        clear HI334
                        have HO_8 := n0_
                        have HI328 := n1_
                        have HB := n2_
                        have HI334 := n3_
                        clear n0_ n1_ n2_ n3_
                        (try clear hb)
                        (try clear hb2)
                        (try clear hk)
                        (try clear hi)
                        refine hK.out _ _ ⟨((HB.out.cell (World.block_lt_of_cell? w _ hw348_0)).trans hw348_0), ((HB.out.cell (World.block_lt_of_cell? w _ hw348_1)).trans hw348_1), ((HB.out.cell (World.block_lt_of_cell? w _ hw355_0)).trans hw355_0), ((HB.out.cell (World.block_lt_of_cell? w _ hw355_1)).trans hw355_1)⟩ (fun hHeld => ?_)
                        clear hK K
                        refine norm_ (a' := ?_) ?_ ?_
                        rotate_left
                        · show Act.put _ (some 67) _ = _
                          simp only [Act.put, List.setIfInBounds_toArray, List.set_cons_zero, List.set_cons_succ, i64_w, i32_w]
                          rfl
                        refine pure_ (i := 14) (N := some 68) (v := ?_) (a' := ?_) #[true, true, true, true, true, true, true, true, true, true, true, true, true, true, true, false] rfl rfl (any_of HT_.out (by kernel_rfl)) (fun _ _ _ h => h) (Or.inl ⟨by rfl, ?_⟩) ?_ ?_
                        rotate_left
                        · intro w'
                          go_simp
                          with_reducible rfl
                        rotate_left
                        · simp only [Act.put, List.setIfInBounds_toArray, List.set_cons_zero, List.set_cons_succ, i64_w, i32_w]
                          rfl
                        refine pure_ (i := 15) (N := some 12) (v := ?_) (a' := ?_) #[true, true, true, true, true, true, true, true, true, true, true, true, true, true, true, true] rfl rfl (any_of HT_.out (by kernel_rfl)) (fun _ _ _ h => h) (Or.inl ⟨by rfl, ?_⟩) ?_ ?_
                        rotate_left
                        · intro w'
                          go_simp
                          with_reducible rfl
                        rotate_left
                        · simp only [Act.put, List.setIfInBounds_toArray, List.set_cons_zero, List.set_cons_succ, i64_w, i32_w]
                          rfl
                        refine done_ (done_of HT_.out (by kernel_rfl)) ?_
                        try go_wp2
                        go_meet
                        case rel => exact ⟨_, ((t349 == t356)), (t350), (t351), (t352), (t353), (t354), (t357), (t358), (t359), (t360), (t361), (by first | rfl | (simp; done) | (simp [*]; done)), H', ⟨by have := HJ4.out; have := HK2.out; first | omega | exact Nat.le_refl _⟩, ⟨by (with_reducible repeat (first | apply Kd.R_alloc | apply Kd.R_drewN | apply Kd.R_drew)); exact HO_8.out⟩, ⟨by repeat (first | (with_reducible first | exact HI328.out | apply IsS35.alloc | apply IsS35.drewN | apply IsS35.drew | apply IsS35.set_0 | apply IsS35.set_1 | apply IsS35.set_2 | apply IsS35.set_3 | apply IsS35.set_4) | exact HI328.out)⟩, ⟨by repeat (first | (with_reducible first | exact HI334.out | apply IsS55.alloc | apply IsS55.drewN | apply IsS55.drew | apply IsS55.set_0 | apply IsS55.set_1 | apply IsS55.set_2 | apply IsS55.set_3 | apply IsS55.set_4) | exact HI334.out)⟩, ⟨by repeat (first | (with_reducible first | exact HB.out | apply below_alloc | apply pw_below_drewN | apply below_drew1 | refine below_set ?_ (IsS35.ge HI328.out) | refine below_set ?_ (IsS55.ge HI334.out)) | exact HB.out)⟩⟩
                      · rw [if_neg c26] at H
                        have c26b0 : (((rd_T42 l2 x11_2).f0) == 1) = false := beq_eq_false_iff_ne.mpr c26
                        have c26b1 : (((rd_T42 l2 x11_2).f0) != 1) = true := bne_iff_ne.mpr c26
                        by_cases c32 : ((rd_T42 l2 x11_2).f0) = 2
                        · rw [if_pos c32] at H
                          have c32b0 : (((rd_T42 l2 x11_2).f0) == 2) = true := beq_iff_eq.mpr c32
                          have c32b1 : (((rd_T42 l2 x11_2).f0) != 2) = false := bne_eq_false_iff_eq.mpr c32
                          clear c32
                          replace H := Option.bind_eq_some_iff.mp H
                          obtain ⟨⟨t362, t363, t364, t365, t366, t367⟩, A330, H⟩ := H
                          replace H : ((deckleref04_Cursor_Int.f k2 x335000_2 x335001_2 x335002_2 x335003_2 x335004_2).bind fun bt368 => (decklelaw04_CursorReads.j2 k2 l0 l2 t316 y320 x11_2 (t362 == bt368.1) t363 t364 t365 t366 t367 bt368.2.1 bt368.2.2.1 bt368.2.2.2.1 bt368.2.2.2.2.1 bt368.2.2.2.2.2)) = some r := H
                          have A33 := Aside0.mk A330
                          clear A330
                          replace H := Option.bind_eq_some_iff.mp H
                          obtain ⟨⟨t368, t369, t370, t371, t372, t373⟩, A340, H⟩ := H
                          replace H : (decklelaw04_CursorReads.j2 k2 l0 l2 t316 y320 x11_2 (t362 == t368) t363 t364 t365 t366 t367 t369 t370 t371 t372 t373) = some r := H
                          have A34 := Aside0.mk A340
                          clear A340
                          have H' := Aside0.mk H
                          clear H
                          go_wp2_with (first | ((with_reducible refine gate_callee (f := 19) rfl ?_); refine goesL_ (some 72) rfl rfl Try.func19 (by kernel_rfl) rfl #[.pointer (some ⟨g328, 0, none⟩)] rfl (by (try simp only [List.map_toArray, List.map_cons, List.map_nil]); first | done | rfl | (simp only [List.length_drop, List.length_take]; rfl)) ?_; (with_reducible refine (cursor_Cursor_Int.calls k2 g328 x329000_2 x329001_2 x329002_2 x329003_2 x329004_2 t362 t363 t364 t365 t366 t367 w _ ?side1 ?side2 A33.out).mono ?_); (case side1 => repeat (first | (with_reducible first | exact HI328.out | apply IsS35.alloc | apply IsS35.drewN | apply IsS35.drew | apply IsS35.set_0 | apply IsS35.set_1 | apply IsS35.set_2 | apply IsS35.set_3 | apply IsS35.set_4) | exact HI328.out)); (case side2 => repeat (first | (with_reducible first | exact HB.out | apply below_alloc | apply pw_below_drewN | apply below_drew1 | refine below_set ?_ (IsS35.ge HI328.out) | refine below_set ?_ (IsS55.ge HI334.out)) | exact HB.out)); rintro e w35 ⟨rfl, hi, hb, hk⟩; refine ⟨_, rfl, ?_⟩; have n0_ := Aside0.mk (Kd.R_mono (Kd.R_keep (IsS35.apart (show IsS35 w _ g328 x329000_2 x329001_2 x329002_2 x329003_2 x329004_2 from by repeat (first | (with_reducible first | exact HI328.out | apply IsS35.alloc | apply IsS35.drewN | apply IsS35.drew | apply IsS35.set_0 | apply IsS35.set_1 | apply IsS35.set_2 | apply IsS35.set_3 | apply IsS35.set_4) | exact HI328.out)) (by (with_reducible repeat (first | apply Kd.R_alloc | apply Kd.R_drewN | apply Kd.R_drew)); exact HO_8.out) (by decide)) hk (fun _ h => h.2)) (fun _ h => h.1)); have n1_ := Aside0.mk ((IsS55.keepS (show IsS55 w _ g334 x335000_2 x335001_2 x335002_2 x335003_2 x335004_2 from by repeat (first | (with_reducible first | exact HI334.out | apply IsS55.alloc | apply IsS55.drewN | apply IsS55.drew | apply IsS55.set_0 | apply IsS55.set_1 | apply IsS55.set_2 | apply IsS55.set_3 | apply IsS55.set_4) | exact HI334.out)) hk NB334_328.out (IsS35.cells (show IsS35 w _ g328 x329000_2 x329001_2 x329002_2 x329003_2 x329004_2 from by repeat (first | (with_reducible first | exact HI328.out | apply IsS35.alloc | apply IsS35.drewN | apply IsS35.drew | apply IsS35.set_0 | apply IsS35.set_1 | apply IsS35.set_2 | apply IsS35.set_3 | apply IsS35.set_4) | exact HI328.out))))); have n2_ := Aside0.mk (hb); have n3_ := Aside0.mk (hi); clear HO_8; clear HI334; clear HB; clear HI328; have HO_8 := n0_; have HI334 := n1_; have HB := n2_; have HI328 := n3_; clear n0_ n1_ n2_ n3_; (try clear hb); (try clear hb2); (try clear hk); (try clear hi)) | ((with_reducible refine gate_callee (f := 20) rfl ?_); refine goesL_ (some 74) rfl rfl Try.func20 (by kernel_rfl) rfl #[.pointer (some ⟨g334, 0, none⟩)] rfl (by (try simp only [List.map_toArray, List.map_cons, List.map_nil]); first | done | rfl | (simp only [List.length_drop, List.length_take]; rfl)) ?_; (with_reducible refine (deckleref04_Cursor_Int.calls k2 g334 x335000_2 x335001_2 x335002_2 x335003_2 x335004_2 t368 t369 t370 t371 t372 t373 w _ ?side1 ?side2 A34.out).mono ?_); (case side1 => repeat (first | (with_reducible first | exact HI334.out | apply IsS55.alloc | apply IsS55.drewN | apply IsS55.drew | apply IsS55.set_0 | apply IsS55.set_1 | apply IsS55.set_2 | apply IsS55.set_3 | apply IsS55.set_4) | exact HI334.out)); (case side2 => repeat (first | (with_reducible first | exact HB.out | apply below_alloc | apply pw_below_drewN | apply below_drew1 | refine below_set ?_ (IsS35.ge HI328.out) | refine below_set ?_ (IsS55.ge HI334.out)) | exact HB.out)); rintro e w36 ⟨rfl, hi, hb, hk⟩; refine ⟨_, rfl, ?_⟩; have n0_ := Aside0.mk (Kd.R_mono (Kd.R_keep (IsS55.apart (show IsS55 w _ g334 x335000_2 x335001_2 x335002_2 x335003_2 x335004_2 from by repeat (first | (with_reducible first | exact HI334.out | apply IsS55.alloc | apply IsS55.drewN | apply IsS55.drew | apply IsS55.set_0 | apply IsS55.set_1 | apply IsS55.set_2 | apply IsS55.set_3 | apply IsS55.set_4) | exact HI334.out)) (by (with_reducible repeat (first | apply Kd.R_alloc | apply Kd.R_drewN | apply Kd.R_drew)); exact HO_8.out) (by decide)) hk (fun _ h => h.2)) (fun _ h => h.1)); have n1_ := Aside0.mk ((IsS35.keepS (show IsS35 w _ g328 t363 t364 t365 t366 t367 from by repeat (first | (with_reducible first | exact HI328.out | apply IsS35.alloc | apply IsS35.drewN | apply IsS35.drew | apply IsS35.set_0 | apply IsS35.set_1 | apply IsS35.set_2 | apply IsS35.set_3 | apply IsS35.set_4) | exact HI328.out)) hk NB328_334.out (IsS55.cells (show IsS55 w _ g334 x335000_2 x335001_2 x335002_2 x335003_2 x335004_2 from by repeat (first | (with_reducible first | exact HI334.out | apply IsS55.alloc | apply IsS55.drewN | apply IsS55.drew | apply IsS55.set_0 | apply IsS55.set_1 | apply IsS55.set_2 | apply IsS55.set_3 | apply IsS55.set_4) | exact HI334.out))))); have n2_ := Aside0.mk (hb); have n3_ := Aside0.mk (hi); clear HO_8; clear HI328; clear HB; clear HI334; have HO_8 := n0_; have HI328 := n1_; have HB := n2_; have HI334 := n3_; clear n0_ n1_ n2_ n3_; (try clear hb); (try clear hb2); (try clear hk); (try clear hi)))
                          go_meet
                          case rel => exact ⟨_, ((t362 == t368)), (t363), (t364), (t365), (t366), (t367), (t369), (t370), (t371), (t372), (t373), (by first | rfl | (simp; done) | (simp [*]; done)), H', ⟨by have := HJ4.out; have := HK2.out; first | omega | exact Nat.le_refl _⟩, ⟨by (with_reducible repeat (first | apply Kd.R_alloc | apply Kd.R_drewN | apply Kd.R_drew)); exact HO_8.out⟩, ⟨by repeat (first | (with_reducible first | exact HI328.out | apply IsS35.alloc | apply IsS35.drewN | apply IsS35.drew | apply IsS35.set_0 | apply IsS35.set_1 | apply IsS35.set_2 | apply IsS35.set_3 | apply IsS35.set_4) | exact HI328.out)⟩, ⟨by repeat (first | (with_reducible first | exact HI334.out | apply IsS55.alloc | apply IsS55.drewN | apply IsS55.drew | apply IsS55.set_0 | apply IsS55.set_1 | apply IsS55.set_2 | apply IsS55.set_3 | apply IsS55.set_4) | exact HI334.out)⟩, ⟨by repeat (first | (with_reducible first | exact HB.out | apply below_alloc | apply pw_below_drewN | apply below_drew1 | refine below_set ?_ (IsS35.ge HI328.out) | refine below_set ?_ (IsS55.ge HI334.out)) | exact HB.out)⟩⟩
                        · rw [if_neg c32] at H
                          have c32b0 : (((rd_T42 l2 x11_2).f0) == 2) = false := beq_eq_false_iff_ne.mpr c32
                          have c32b1 : (((rd_T42 l2 x11_2).f0) != 2) = true := bne_iff_ne.mpr c32
                          by_cases c37 : ((rd_T42 l2 x11_2).f0) = 3
                          · rw [if_pos c37] at H
                            have c37b0 : (((rd_T42 l2 x11_2).f0) == 3) = true := beq_iff_eq.mpr c37
                            have c37b1 : (((rd_T42 l2 x11_2).f0) != 3) = false := bne_eq_false_iff_eq.mpr c37
                            clear c37
                            replace H := Option.bind_eq_some_iff.mp H
                            obtain ⟨⟨t375, t378, t379, t380, t381, t382⟩, A380, H⟩ := H
                            replace H : ((deckleref04_Cursor_Take.f x335000_2 x335001_2 x335002_2 x335003_2 x335004_2 ((rd_T42 l2 x11_2).f1)).bind fun bt384 => (decklelaw04_CursorReads.j2 k2 l0 l2 t316 y320 x11_2 ((strOfNums t375).toList == (strOfNums bt384.1).toList) t378 t379 t380 t381 t382 bt384.2.1 bt384.2.2.1 bt384.2.2.2.1 bt384.2.2.2.2.1 bt384.2.2.2.2.2)) = some r := H
                            have A38 := Aside0.mk A380
                            clear A380
                            replace H := Option.bind_eq_some_iff.mp H
                            obtain ⟨⟨t384, t387, t388, t389, t390, t391⟩, A390, H⟩ := H
                            replace H : (decklelaw04_CursorReads.j2 k2 l0 l2 t316 y320 x11_2 ((strOfNums t375).toList == (strOfNums t384).toList) t378 t379 t380 t381 t382 t387 t388 t389 t390 t391) = some r := H
                            have A39 := Aside0.mk A390
                            clear A390
                            have H' := Aside0.mk H
                            clear H
                            try go_wp2
                            have n0_ := Aside0.mk (Kd.R_drew HO_8.out)
                            have n1_ := Aside0.mk (IsS35.drew HI328.out)
                            have n2_ := Aside0.mk (IsS55.drew HI334.out)
                            have n3_ := Aside0.mk (below_drew1 HB.out)
                            clear HO_8
                            clear HI328
                            clear HI334
                            clear HB
                            have HO_8 := n0_
                            have HI328 := n1_
                            have HI334 := n2_
                            have HB := n3_
                            clear n0_ n1_ n2_ n3_
                            have p374 : 0 ≤ (x11_2 : Int) := of_decide_eq_true (by first | (with_reducible assumption) | assumption)
                            have q374 : x11_2 < (l2.length : Int) := of_decide_eq_true (by first | (with_reducible assumption) | assumption)
                            obtain ⟨ad374, e374, hx374_0, hx374_1⟩ := at_T42 HR2.out x11_2 p374 q374
                            have hw374_1 := hx374_1
                            have hw374_0 := hx374_0
                            obtain rfl : ad335 = ad374 := (by injection e374)
                            replace hx374_0 := (HB.out.cell (World.block_lt_of_cell? w _ hx374_0)).trans hx374_0
                            replace hx374_1 := (HB.out.cell (World.block_lt_of_cell? w _ hx374_1)).trans hx374_1
                            replace p374 := eq_true p374
                            replace q374 := eq_true q374
                            have p383 : 0 ≤ (x11_2 : Int) := of_decide_eq_true (by first | (with_reducible assumption) | assumption)
                            have q383 : x11_2 < (l2.length : Int) := of_decide_eq_true (by first | (with_reducible assumption) | assumption)
                            obtain ⟨ad383, e383, hx383_0, hx383_1⟩ := at_T42 HR2.out x11_2 p383 q383
                            have hw383_1 := hx383_1
                            have hw383_0 := hx383_0
                            obtain rfl : ad335 = ad383 := (by injection e383)
                            replace hx383_0 := (HB.out.cell (World.block_lt_of_cell? w _ hx383_0)).trans hx383_0
                            replace hx383_1 := (HB.out.cell (World.block_lt_of_cell? w _ hx383_1)).trans hx383_1
                            replace p383 := eq_true p383
                            replace q383 := eq_true q383
                            refine start_ (n := 18) (S := fun w' => w'.cell? (ad335.add ((x11_2).toNat * 2)) = some (.int .i64 ((rd_T42 l2 x11_2).f0)) ∧ w'.cell? ⟨(ad335.add ((x11_2).toNat * 2)).block, (ad335.add ((x11_2).toNat * 2)).off + 1, none⟩ = some (.int .i64 ((rd_T42 l2 x11_2).f1)) ∧ w'.cell? (ad335.add ((x11_2).toNat * 2)) = some (.int .i64 ((rd_T42 l2 x11_2).f0)) ∧ w'.cell? ⟨(ad335.add ((x11_2).toNat * 2)).block, (ad335.add ((x11_2).toNat * 2)).off + 1, none⟩ = some (.int .i64 ((rd_T42 l2 x11_2).f1))) (ds := []) #[false, false, false, false, false, false, false, false, false, false, false, false, false, false, false, false, false, false] (by kernel_rfl) rfl rfl ⟨((HB.out.cell (World.block_lt_of_cell? w _ hw374_0)).trans hw374_0), ((HB.out.cell (World.block_lt_of_cell? w _ hw374_1)).trans hw374_1), ((HB.out.cell (World.block_lt_of_cell? w _ hw383_0)).trans hw383_0), ((HB.out.cell (World.block_lt_of_cell? w _ hw383_1)).trans hw383_1)⟩ (fun hHeld => ?_); refine with_tabW decklelaw04_CursorReads.tab21 decklelaw04_CursorReads.bits21 (fun HT_ HW_ => ?_)
                            generalize wr.drew = w40 at HO_8 HI328 HI334 HB hx374_0 hx374_1 hx383_0 hx383_1 hHeld ⊢
                            refine pure_ (i := 0) (N := some 78) (v := ?_) (a' := ?_) #[true, false, false, false, false, false, false, false, false, false, false, false, false, false, false, false, false, false] rfl rfl (any_of HT_.out (by kernel_rfl)) (fun _ _ _ h => h) (Or.inl ⟨by rfl, ?_⟩) ?_ ?_
                            rotate_left
                            · intro w'
                              go_simp
                              with_reducible rfl
                            rotate_left
                            · simp only [Act.put, List.setIfInBounds_toArray, List.set_cons_zero, List.set_cons_succ, i64_w, i32_w]
                              rfl
                            refine pure_ (i := 1) (N := some 79) (v := ?_) (a' := ?_) #[true, true, false, false, false, false, false, false, false, false, false, false, false, false, false, false, false, false] rfl rfl (any_of HT_.out (by kernel_rfl)) (fun _ _ _ h => h) (Or.inl ⟨by rfl, ?_⟩) ?_ ?_
                            rotate_left
                            · intro w'
                              go_simp
                              with_reducible rfl
                            rotate_left
                            · simp only [Act.put, List.setIfInBounds_toArray, List.set_cons_zero, List.set_cons_succ, i64_w, i32_w]
                              rfl
                            refine pure_ (i := 2) (N := some 80) (v := ?_) (a' := ?_) #[true, true, true, false, false, false, false, false, false, false, false, false, false, false, false, false, false, false] rfl rfl (any_of HT_.out (by kernel_rfl)) (fun _ _ _ h => h) (Or.inl ⟨by rfl, ?_⟩) ?_ ?_
                            rotate_left
                            · intro w'
                              go_simp
                              with_reducible rfl
                            rotate_left
                            · simp only [Act.put, List.setIfInBounds_toArray, List.set_cons_zero, List.set_cons_succ, i64_w, i32_w]
                              rfl
                            refine pure_ (i := 3) (N := some 81) (v := ?_) (a' := ?_) #[true, true, true, true, false, false, false, false, false, false, false, false, false, false, false, false, false, false] rfl rfl (any_of HT_.out (by kernel_rfl)) (fun _ _ _ h => h) (Or.inl ⟨by rfl, ?_⟩) ?_ ?_
                            rotate_left
                            · intro w'
                              go_simp
                              with_reducible rfl
                            rotate_left
                            · simp only [Act.put, List.setIfInBounds_toArray, List.set_cons_zero, List.set_cons_succ, i64_w, i32_w]
                              rfl
                            refine pure_ (i := 4) (N := some 82) (v := ?_) (a' := ?_) #[true, true, true, true, true, false, false, false, false, false, false, false, false, false, false, false, false, false] rfl rfl (any_of HT_.out (by kernel_rfl)) (fun _ _ _ h => h) (Or.inl ⟨by rfl, ?_⟩) ?_ ?_
                            rotate_left
                            · intro w'
                              go_simp
                              with_reducible rfl
                            rotate_left
                            · simp only [Act.put, List.setIfInBounds_toArray, List.set_cons_zero, List.set_cons_succ, i64_w, i32_w]
                              rfl
                            refine pure_ (i := 8) (N := some 86) (v := ?_) (a' := ?_) #[true, true, true, true, true, false, false, false, true, false, false, false, false, false, false, false, false, false] rfl rfl (any_of HT_.out (by kernel_rfl)) (fun _ _ _ h => h) (Or.inl ⟨by rfl, ?_⟩) ?_ ?_
                            rotate_left
                            · intro w'
                              go_simp
                              with_reducible rfl
                            rotate_left
                            · simp only [Act.put, List.setIfInBounds_toArray, List.set_cons_zero, List.set_cons_succ, i64_w, i32_w]
                              rfl
                            refine pure_ (i := 9) (N := some 87) (v := ?_) (a' := ?_) #[true, true, true, true, true, false, false, false, true, true, false, false, false, false, false, false, false, false] rfl rfl (any_of HT_.out (by kernel_rfl)) (fun _ _ _ h => h) (Or.inl ⟨by rfl, ?_⟩) ?_ ?_
                            rotate_left
                            · intro w'
                              go_simp
                              with_reducible rfl
                            rotate_left
                            · simp only [Act.put, List.setIfInBounds_toArray, List.set_cons_zero, List.set_cons_succ, i64_w, i32_w]
                              rfl
                            refine pure_ (i := 10) (N := some 88) (v := ?_) (a' := ?_) #[true, true, true, true, true, false, false, false, true, true, true, false, false, false, false, false, false, false] rfl rfl (any_of HT_.out (by kernel_rfl)) (fun _ _ _ h => h) (Or.inl ⟨by rfl, ?_⟩) ?_ ?_
                            rotate_left
                            · intro w'
                              go_simp
                              with_reducible rfl
                            rotate_left
                            · simp only [Act.put, List.setIfInBounds_toArray, List.set_cons_zero, List.set_cons_succ, i64_w, i32_w]
                              rfl
                            refine pure_ (i := 11) (N := some 89) (v := ?_) (a' := ?_) #[true, true, true, true, true, false, false, false, true, true, true, true, false, false, false, false, false, false] rfl rfl (any_of HT_.out (by kernel_rfl)) (fun _ _ _ h => h) (Or.inl ⟨by rfl, ?_⟩) ?_ ?_
                            rotate_left
                            · intro w'
                              go_simp
                              with_reducible rfl
                            rotate_left
                            · simp only [Act.put, List.setIfInBounds_toArray, List.set_cons_zero, List.set_cons_succ, i64_w, i32_w]
                              rfl
                            refine pure_ (i := 12) (N := some 90) (v := ?_) (a' := ?_) #[true, true, true, true, true, false, false, false, true, true, true, true, true, false, false, false, false, false] rfl rfl (any_of HT_.out (by kernel_rfl)) (fun _ _ _ h => h) (Or.inl ⟨by rfl, ?_⟩) ?_ ?_
                            rotate_left
                            · intro w'
                              go_simp
                              with_reducible rfl
                            rotate_left
                            · simp only [Act.put, List.setIfInBounds_toArray, List.set_cons_zero, List.set_cons_succ, i64_w, i32_w]
                              rfl
                            refine take_ (i := 5) (N := some 83) (v := ?_) (a' := ?_) #[true, true, true, true, true, true, false, false, true, true, true, true, true, false, false, false, false, false] rfl rfl (take_ofW HT_.out HW_.out (by kernel_rfl)) (fun _ _ _ h => h) (Or.inl ⟨by rfl, ?_⟩) hHeld ?_ ?_
                            rotate_left
                            · rintro w' ⟨s0, s1, s2, s3⟩
                              go_simp
                              with_reducible rfl
                            rotate_left
                            · simp only [Act.put, List.setIfInBounds_toArray, List.set_cons_zero, List.set_cons_succ, i64_w, i32_w]
                              rfl
                            refine take_ (i := 13) (N := some 91) (v := ?_) (a' := ?_) #[true, true, true, true, true, true, false, false, true, true, true, true, true, true, false, false, false, false] rfl rfl (take_ofW HT_.out HW_.out (by kernel_rfl)) (fun _ _ _ h => h) (Or.inl ⟨by rfl, ?_⟩) hHeld ?_ ?_
                            rotate_left
                            · rintro w' ⟨s0, s1, s2, s3⟩
                              go_simp
                              with_reducible rfl
                            rotate_left
                            · simp only [Act.put, List.setIfInBounds_toArray, List.set_cons_zero, List.set_cons_succ, i64_w, i32_w]
                              rfl
                            refine one_ (i := 6) (N := some 84) #[true, true, true, true, true, true, true, false, true, true, true, true, true, true, false, false, false, false] rfl rfl (one_of HT_.out (by kernel_rfl)) (by decide) (fun K hK => ?_)
                            refine goes_ Try.func11 (by kernel_rfl) rfl #[.pointer (some ⟨g328, 0, none⟩), .int .i64 ((rd_T42 l2 x11_2).f1)] (by rfl) rfl rfl (by (try simp only [List.map_toArray, List.map_cons, List.map_nil]); first | done | rfl | (simp only [List.length_drop, List.length_take]; rfl)) ?_
                            with_reducible refine (cursor_Cursor_Take.calls g328 x329000_2 x329001_2 x329002_2 x329003_2 x329004_2 ((rd_T42 l2 x11_2).f1) t375 t378 t379 t380 t381 t382 w _ ?side1 ?side2 A38.out).mono ?_
                            (case side1 => repeat (first | (with_reducible first | exact HI328.out | apply IsS35.alloc | apply IsS35.drewN | apply IsS35.drew | apply IsS35.set_0 | apply IsS35.set_1 | apply IsS35.set_2 | apply IsS35.set_3 | apply IsS35.set_4) | exact HI328.out))
                            (case side2 => repeat (first | (with_reducible first | exact HB.out | apply below_alloc | apply pw_below_drewN | apply below_drew1 | refine below_set ?_ (IsS35.ge HI328.out) | refine below_set ?_ (IsS55.ge HI334.out)) | exact HB.out))
                            rintro e w41 ⟨v376, rfl, ho0, hi, hb, hk⟩
                            refine ⟨_, rfl, ?_⟩
                            have n0_ := Aside0.mk (Kd.R_mono (Kd.R_told (Kd.R_oldK (IsS35.apart (show IsS35 w _ g328 x329000_2 x329001_2 x329002_2 x329003_2 x329004_2 from by repeat (first | (with_reducible first | exact HI328.out | apply IsS35.alloc | apply IsS35.drewN | apply IsS35.drew | apply IsS35.set_0 | apply IsS35.set_1 | apply IsS35.set_2 | apply IsS35.set_3 | apply IsS35.set_4) | exact HI328.out)) (by (with_reducible repeat (first | apply Kd.R_alloc | apply Kd.R_drewN | apply Kd.R_drew)); exact HO_8.out) (by decide)) hk) (Kd.R_base ho0)) (fun _ h_ => h_.1))
                            have n1_ := Aside0.mk ((IsS55.keepS (show IsS55 w _ g334 x335000_2 x335001_2 x335002_2 x335003_2 x335004_2 from by repeat (first | (with_reducible first | exact HI334.out | apply IsS55.alloc | apply IsS55.drewN | apply IsS55.drew | apply IsS55.set_0 | apply IsS55.set_1 | apply IsS55.set_2 | apply IsS55.set_3 | apply IsS55.set_4) | exact HI334.out)) hk NB334_328.out (IsS35.cells (show IsS35 w _ g328 x329000_2 x329001_2 x329002_2 x329003_2 x329004_2 from by repeat (first | (with_reducible first | exact HI328.out | apply IsS35.alloc | apply IsS35.drewN | apply IsS35.drew | apply IsS35.set_0 | apply IsS35.set_1 | apply IsS35.set_2 | apply IsS35.set_3 | apply IsS35.set_4) | exact HI328.out)))))
                            have n2_ := Aside0.mk (Kd.R_lower (Kd.R_new' ho0 (Kd.R_lt (by (with_reducible repeat (first | apply Kd.R_alloc | apply Kd.R_drewN | apply Kd.R_drew)); exact HO_8.out))) (below_size (by repeat (first | (with_reducible first | exact HB.out | apply below_alloc | apply pw_below_drewN | apply below_drew1 | refine below_set ?_ (IsS35.ge HI328.out) | refine below_set ?_ (IsS55.ge HI334.out)) | exact HB.out))))
                            have n3_ := Aside0.mk (hb)
                            have n4_ := Aside0.mk (hi)
                            clear HO_8
                            clear HI334
                            clear HB
                            clear HI328
                            have HO_8 := n0_
                            have HI334 := n1_
                            have HO377 := n2_
                            have HB := n3_
                            have HI328 := n4_
                            clear n0_ n1_ n2_ n3_ n4_
                            (try clear hb)
                            (try clear hb2)
                            (try clear hk)
                            (try clear hi)
                            (try clear ho0)
                            refine hK.out _ _ ⟨((HB.out.cell (World.block_lt_of_cell? w _ hw374_0)).trans hw374_0), ((HB.out.cell (World.block_lt_of_cell? w _ hw374_1)).trans hw374_1), ((HB.out.cell (World.block_lt_of_cell? w _ hw383_0)).trans hw383_0), ((HB.out.cell (World.block_lt_of_cell? w _ hw383_1)).trans hw383_1)⟩ (fun hHeld => ?_)
                            clear hK K
                            refine norm_ (a' := ?_) ?_ ?_
                            rotate_left
                            · show Act.put _ (some 84) _ = _
                              simp only [Act.put, List.setIfInBounds_toArray, List.set_cons_zero, List.set_cons_succ, i64_w, i32_w]
                              rfl
                            refine join_ (σ := Value) 2 #[true, true, true, true, true, true, true, true, true, true, true, true, true, true, true, true, false, false] (fun s_ => [(85, .string (strOfNums t375)), (92, s_), (93, .string (strOfNums t384))]) (fun s_ w' => (w'.cell? (ad335.add ((x11_2).toNat * 2)) = some (.int .i64 ((rd_T42 l2 x11_2).f0)) ∧ w'.cell? ⟨(ad335.add ((x11_2).toNat * 2)).block, (ad335.add ((x11_2).toNat * 2)).off + 1, none⟩ = some (.int .i64 ((rd_T42 l2 x11_2).f1)) ∧ w'.cell? (ad335.add ((x11_2).toNat * 2)) = some (.int .i64 ((rd_T42 l2 x11_2).f0)) ∧ w'.cell? ⟨(ad335.add ((x11_2).toNat * 2)).block, (ad335.add ((x11_2).toNat * 2)).off + 1, none⟩ = some (.int .i64 ((rd_T42 l2 x11_2).f1))) ∧ (Kd.R (Kd.int .u8) 5 w' w.heap.size (fun k_ => some k_ ≠ (s_ : Value).ownBlock ∧ some k_ ≠ (.slice Ao15 y320.length co15 : Value).ownBlock) v376 t375) ∧ (Kd.R (Kd.int .u8) 5 w' w.heap.size (fun k_ => some k_ ≠ (v376 : Value).ownBlock ∧ some k_ ≠ (.slice Ao15 y320.length co15 : Value).ownBlock) s_ t384) ∧ (Kd.R (Kd.int .u8) 5 w' w.heap.size (fun k_ => some k_ ≠ (v376 : Value).ownBlock ∧ some k_ ≠ (s_ : Value).ownBlock) (.slice Ao15 y320.length co15) y320) ∧ (IsS35 w w' g328 t378 t379 t380 t381 t382) ∧ (IsS55 w w' g334 t387 t388 t389 t390 t391) ∧ (Below w.heap.size w w')) ?_ ?_
                            rotate_left
                            · intro hCont
                              refine two_ (i := 7) (j := 14) (Ni := some 85) (Nj := some 92) #[true, true, true, true, true, true, true, true, true, true, true, true, true, true, false, false, false, false] #[true, true, true, true, true, true, true, false, true, true, true, true, true, true, true, false, false, false] rfl rfl rfl rfl (two_of HT_.out (by kernel_rfl)) (by decide) (by decide) (fun K hK => ?_) (fun K hK => ?_)
                              · skip
                                have hcv42 := own_string (P := Try.prog) Try.underlying22 Try.underlying5 Try.underlying9 (Kd.own_of_R HO377.out)
                                refine value_ (w1 := ?_) (v := ?_) (by rfl) rfl ?_ ?_
                                rotate_left 2
                                · go_simp
                                  constructor
                                  · rfl
                                  · rfl
                                clear hcv42
                                refine hK.out _ _ ⟨((HB.out.cell (World.block_lt_of_cell? w _ hw374_0)).trans hw374_0), ((HB.out.cell (World.block_lt_of_cell? w _ hw374_1)).trans hw374_1), ((HB.out.cell (World.block_lt_of_cell? w _ hw383_0)).trans hw383_0), ((HB.out.cell (World.block_lt_of_cell? w _ hw383_1)).trans hw383_1)⟩ (fun hHeld => ?_)
                                clear hK K
                                refine norm_ (a' := ?_) ?_ ?_
                                rotate_left
                                · show Act.put _ (some 85) _ = _
                                  simp only [Act.put, List.setIfInBounds_toArray, List.set_cons_zero, List.set_cons_succ, i64_w, i32_w]
                                  rfl
                                refine one_ (i := 14) (N := some 92) #[true, true, true, true, true, true, true, true, true, true, true, true, true, true, true, false, false, false] rfl rfl (one_of HT_.out (by kernel_rfl)) (by decide) (fun K hK => ?_)
                                refine goes_ Try.func21 (by kernel_rfl) rfl #[.pointer (some ⟨g334, 0, none⟩), .int .i64 ((rd_T42 l2 x11_2).f1)] (by rfl) rfl rfl (by (try simp only [List.map_toArray, List.map_cons, List.map_nil]); first | done | rfl | (simp only [List.length_drop, List.length_take]; rfl)) ?_
                                with_reducible refine (deckleref04_Cursor_Take.calls g334 x335000_2 x335001_2 x335002_2 x335003_2 x335004_2 ((rd_T42 l2 x11_2).f1) t384 t387 t388 t389 t390 t391 w _ ?side1 ?side2 A39.out).mono ?_
                                (case side1 => repeat (first | (with_reducible first | exact HI334.out | apply IsS55.alloc | apply IsS55.drewN | apply IsS55.drew | apply IsS55.set_0 | apply IsS55.set_1 | apply IsS55.set_2 | apply IsS55.set_3 | apply IsS55.set_4) | exact HI334.out))
                                (case side2 => repeat (first | (with_reducible first | exact HB.out | apply below_alloc | apply pw_below_drewN | apply below_drew1 | refine below_set ?_ (IsS35.ge HI328.out) | refine below_set ?_ (IsS55.ge HI334.out)) | exact HB.out))
                                rintro e w43 ⟨v385, rfl, ho0, hi, hb, hk⟩
                                refine ⟨_, rfl, ?_⟩
                                have n0_ := Aside0.mk (Kd.R_mono (Kd.R_told (Kd.R_oldK (IsS55.apart (show IsS55 w _ g334 x335000_2 x335001_2 x335002_2 x335003_2 x335004_2 from by repeat (first | (with_reducible first | exact HI334.out | apply IsS55.alloc | apply IsS55.drewN | apply IsS55.drew | apply IsS55.set_0 | apply IsS55.set_1 | apply IsS55.set_2 | apply IsS55.set_3 | apply IsS55.set_4) | exact HI334.out)) (by (with_reducible repeat (first | apply Kd.R_alloc | apply Kd.R_drewN | apply Kd.R_drew)); exact HO_8.out) (by decide)) hk) (Kd.R_base ho0)) (fun _ h_ => h_.1))
                                have n1_ := Aside0.mk ((IsS35.keepS (show IsS35 w _ g328 t378 t379 t380 t381 t382 from by repeat (first | (with_reducible first | exact HI328.out | apply IsS35.alloc | apply IsS35.drewN | apply IsS35.drew | apply IsS35.set_0 | apply IsS35.set_1 | apply IsS35.set_2 | apply IsS35.set_3 | apply IsS35.set_4) | exact HI328.out)) hk NB328_334.out (IsS55.cells (show IsS55 w _ g334 x335000_2 x335001_2 x335002_2 x335003_2 x335004_2 from by repeat (first | (with_reducible first | exact HI334.out | apply IsS55.alloc | apply IsS55.drewN | apply IsS55.drew | apply IsS55.set_0 | apply IsS55.set_1 | apply IsS55.set_2 | apply IsS55.set_3 | apply IsS55.set_4) | exact HI334.out)))))
                                have n2_ := Aside0.mk (Kd.R_mono (Kd.R_told (Kd.R_oldK (IsS55.apart (show IsS55 w _ g334 x335000_2 x335001_2 x335002_2 x335003_2 x335004_2 from by repeat (first | (with_reducible first | exact HI334.out | apply IsS55.alloc | apply IsS55.drewN | apply IsS55.drew | apply IsS55.set_0 | apply IsS55.set_1 | apply IsS55.set_2 | apply IsS55.set_3 | apply IsS55.set_4) | exact HI334.out)) (by (with_reducible repeat (first | apply Kd.R_alloc | apply Kd.R_drewN | apply Kd.R_drew)); exact HO377.out) (by decide)) hk) (Kd.R_base ho0)) (fun _ h_ => h_.1))
                                have n3_ := Aside0.mk (Kd.R_lower (Kd.R_new' (Kd.R_new' ho0 (Kd.R_lt (by (with_reducible repeat (first | apply Kd.R_alloc | apply Kd.R_drewN | apply Kd.R_drew)); exact HO_8.out))) (Kd.R_lt (by (with_reducible repeat (first | apply Kd.R_alloc | apply Kd.R_drewN | apply Kd.R_drew)); exact HO377.out))) (below_size (by repeat (first | (with_reducible first | exact HB.out | apply below_alloc | apply pw_below_drewN | apply below_drew1 | refine below_set ?_ (IsS35.ge HI328.out) | refine below_set ?_ (IsS55.ge HI334.out)) | exact HB.out))))
                                have n4_ := Aside0.mk (hb)
                                have n5_ := Aside0.mk (hi)
                                clear HO_8
                                clear HI328
                                clear HO377
                                clear HB
                                clear HI334
                                have HO_8 := n0_
                                have HI328 := n1_
                                have HO377 := n2_
                                have HO386 := n3_
                                have HB := n4_
                                have HI334 := n5_
                                clear n0_ n1_ n2_ n3_ n4_ n5_
                                (try clear hb)
                                (try clear hb2)
                                (try clear hk)
                                (try clear hi)
                                (try clear ho0)
                                refine hK.out _ _ ⟨((HB.out.cell (World.block_lt_of_cell? w _ hw374_0)).trans hw374_0), ((HB.out.cell (World.block_lt_of_cell? w _ hw374_1)).trans hw374_1), ((HB.out.cell (World.block_lt_of_cell? w _ hw383_0)).trans hw383_0), ((HB.out.cell (World.block_lt_of_cell? w _ hw383_1)).trans hw383_1)⟩ (fun hHeld => ?_)
                                clear hK K
                                refine norm_ (a' := ?_) ?_ ?_
                                rotate_left
                                · show Act.put _ (some 92) _ = _
                                  simp only [Act.put, List.setIfInBounds_toArray, List.set_cons_zero, List.set_cons_succ, i64_w, i32_w]
                                  rfl
                                refine one_ (i := 15) (N := some 93) #[true, true, true, true, true, true, true, true, true, true, true, true, true, true, true, true, false, false] rfl rfl (one_of HT_.out (by kernel_rfl)) (by decide) (fun K hK => ?_)
                                have hcv44 := own_string (P := Try.prog) Try.underlying22 Try.underlying5 Try.underlying9 (Kd.own_of_R HO386.out)
                                refine value_ (w1 := ?_) (v := ?_) (by rfl) rfl ?_ ?_
                                rotate_left 2
                                · go_simp
                                  constructor
                                  · rfl
                                  · rfl
                                clear hcv44
                                refine hK.out _ _ ⟨((HB.out.cell (World.block_lt_of_cell? w _ hw374_0)).trans hw374_0), ((HB.out.cell (World.block_lt_of_cell? w _ hw374_1)).trans hw374_1), ((HB.out.cell (World.block_lt_of_cell? w _ hw383_0)).trans hw383_0), ((HB.out.cell (World.block_lt_of_cell? w _ hw383_1)).trans hw383_1)⟩ (fun hHeld => ?_)
                                clear hK K
                                refine norm_ (a' := ?_) ?_ ?_
                                rotate_left
                                · show Act.put _ (some 93) _ = _
                                  simp only [Act.put, List.setIfInBounds_toArray, List.set_cons_zero, List.set_cons_succ, i64_w, i32_w]
                                  rfl
                                exact norm_ (by simp only [putAll, Act.put, List.setIfInBounds_toArray, List.set_cons_zero, List.set_cons_succ]) (hCont (v385) _ ⟨hHeld, (by (with_reducible repeat (first | apply Kd.R_alloc | apply Kd.R_drewN | apply Kd.R_drew)); exact Kd.R_mono HO377.out (fun _ hk => ⟨hk.2, hk.1.2⟩)), (by (with_reducible repeat (first | apply Kd.R_alloc | apply Kd.R_drewN | apply Kd.R_drew)); exact Kd.R_mono HO386.out (fun _ hk => ⟨hk.2, hk.1.2⟩)), (by (with_reducible repeat (first | apply Kd.R_alloc | apply Kd.R_drewN | apply Kd.R_drew)); exact Kd.R_mono HO_8.out (fun _ hk => ⟨hk.1.2, hk.2⟩)), (by repeat (first | (with_reducible first | exact HI328.out | apply IsS35.alloc | apply IsS35.drewN | apply IsS35.drew | apply IsS35.set_0 | apply IsS35.set_1 | apply IsS35.set_2 | apply IsS35.set_3 | apply IsS35.set_4) | exact HI328.out)), (by repeat (first | (with_reducible first | exact HI334.out | apply IsS55.alloc | apply IsS55.drewN | apply IsS55.drew | apply IsS55.set_0 | apply IsS55.set_1 | apply IsS55.set_2 | apply IsS55.set_3 | apply IsS55.set_4) | exact HI334.out)), (by repeat (first | (with_reducible first | exact HB.out | apply below_alloc | apply pw_below_drewN | apply below_drew1 | refine below_set ?_ (IsS35.ge HI328.out) | refine below_set ?_ (IsS55.ge HI334.out)) | exact HB.out))⟩)
                              · skip
                                refine goes_ Try.func21 (by kernel_rfl) rfl #[.pointer (some ⟨g334, 0, none⟩), .int .i64 ((rd_T42 l2 x11_2).f1)] (by rfl) rfl rfl (by (try simp only [List.map_toArray, List.map_cons, List.map_nil]); first | done | rfl | (simp only [List.length_drop, List.length_take]; rfl)) ?_
                                with_reducible refine (deckleref04_Cursor_Take.calls g334 x335000_2 x335001_2 x335002_2 x335003_2 x335004_2 ((rd_T42 l2 x11_2).f1) t384 t387 t388 t389 t390 t391 w _ ?side1 ?side2 A39.out).mono ?_
                                (case side1 => repeat (first | (with_reducible first | exact HI334.out | apply IsS55.alloc | apply IsS55.drewN | apply IsS55.drew | apply IsS55.set_0 | apply IsS55.set_1 | apply IsS55.set_2 | apply IsS55.set_3 | apply IsS55.set_4) | exact HI334.out))
                                (case side2 => repeat (first | (with_reducible first | exact HB.out | apply below_alloc | apply pw_below_drewN | apply below_drew1 | refine below_set ?_ (IsS35.ge HI328.out) | refine below_set ?_ (IsS55.ge HI334.out)) | exact HB.out))
                                rintro e w42 ⟨v385, rfl, ho0, hi, hb, hk⟩
                                refine ⟨_, rfl, ?_⟩
                                have n0_ := Aside0.mk (Kd.R_mono (Kd.R_told (Kd.R_oldK (IsS55.apart (show IsS55 w _ g334 x335000_2 x335001_2 x335002_2 x335003_2 x335004_2 from by repeat (first | (with_reducible first | exact HI334.out | apply IsS55.alloc | apply IsS55.drewN | apply IsS55.drew | apply IsS55.set_0 | apply IsS55.set_1 | apply IsS55.set_2 | apply IsS55.set_3 | apply IsS55.set_4) | exact HI334.out)) (by (with_reducible repeat (first | apply Kd.R_alloc | apply Kd.R_drewN | apply Kd.R_drew)); exact HO_8.out) (by decide)) hk) (Kd.R_base ho0)) (fun _ h_ => h_.1))
                                have n1_ := Aside0.mk ((IsS35.keepS (show IsS35 w _ g328 t378 t379 t380 t381 t382 from by repeat (first | (with_reducible first | exact HI328.out | apply IsS35.alloc | apply IsS35.drewN | apply IsS35.drew | apply IsS35.set_0 | apply IsS35.set_1 | apply IsS35.set_2 | apply IsS35.set_3 | apply IsS35.set_4) | exact HI328.out)) hk NB328_334.out (IsS55.cells (show IsS55 w _ g334 x335000_2 x335001_2 x335002_2 x335003_2 x335004_2 from by repeat (first | (with_reducible first | exact HI334.out | apply IsS55.alloc | apply IsS55.drewN | apply IsS55.drew | apply IsS55.set_0 | apply IsS55.set_1 | apply IsS55.set_2 | apply IsS55.set_3 | apply IsS55.set_4) | exact HI334.out)))))
                                have n2_ := Aside0.mk (Kd.R_mono (Kd.R_told (Kd.R_oldK (IsS55.apart (show IsS55 w _ g334 x335000_2 x335001_2 x335002_2 x335003_2 x335004_2 from by repeat (first | (with_reducible first | exact HI334.out | apply IsS55.alloc | apply IsS55.drewN | apply IsS55.drew | apply IsS55.set_0 | apply IsS55.set_1 | apply IsS55.set_2 | apply IsS55.set_3 | apply IsS55.set_4) | exact HI334.out)) (by (with_reducible repeat (first | apply Kd.R_alloc | apply Kd.R_drewN | apply Kd.R_drew)); exact HO377.out) (by decide)) hk) (Kd.R_base ho0)) (fun _ h_ => h_.1))
                                have n3_ := Aside0.mk (Kd.R_lower (Kd.R_new' (Kd.R_new' ho0 (Kd.R_lt (by (with_reducible repeat (first | apply Kd.R_alloc | apply Kd.R_drewN | apply Kd.R_drew)); exact HO_8.out))) (Kd.R_lt (by (with_reducible repeat (first | apply Kd.R_alloc | apply Kd.R_drewN | apply Kd.R_drew)); exact HO377.out))) (below_size (by repeat (first | (with_reducible first | exact HB.out | apply below_alloc | apply pw_below_drewN | apply below_drew1 | refine below_set ?_ (IsS35.ge HI328.out) | refine below_set ?_ (IsS55.ge HI334.out)) | exact HB.out))))
                                have n4_ := Aside0.mk (hb)
                                have n5_ := Aside0.mk (hi)
                                clear HO_8
                                clear HI328
                                clear HO377
                                clear HB
                                clear HI334
                                have HO_8 := n0_
                                have HI328 := n1_
                                have HO377 := n2_
                                have HO386 := n3_
                                have HB := n4_
                                have HI334 := n5_
                                clear n0_ n1_ n2_ n3_ n4_ n5_
                                (try clear hb)
                                (try clear hb2)
                                (try clear hk)
                                (try clear hi)
                                (try clear ho0)
                                refine hK.out _ _ ⟨((HB.out.cell (World.block_lt_of_cell? w _ hw374_0)).trans hw374_0), ((HB.out.cell (World.block_lt_of_cell? w _ hw374_1)).trans hw374_1), ((HB.out.cell (World.block_lt_of_cell? w _ hw383_0)).trans hw383_0), ((HB.out.cell (World.block_lt_of_cell? w _ hw383_1)).trans hw383_1)⟩ (fun hHeld => ?_)
                                clear hK K
                                refine norm_ (a' := ?_) ?_ ?_
                                rotate_left
                                · show Act.put _ (some 92) _ = _
                                  simp only [Act.put, List.setIfInBounds_toArray, List.set_cons_zero, List.set_cons_succ, i64_w, i32_w]
                                  rfl
                                refine two_ (i := 7) (j := 15) (Ni := some 85) (Nj := some 93) #[true, true, true, true, true, true, true, true, true, true, true, true, true, true, true, false, false, false] #[true, true, true, true, true, true, true, false, true, true, true, true, true, true, true, true, false, false] rfl rfl rfl rfl (two_of HT_.out (by kernel_rfl)) (by decide) (by decide) (fun K hK => ?_) (fun K hK => ?_)
                                · skip
                                  have hcv43 := own_string (P := Try.prog) Try.underlying22 Try.underlying5 Try.underlying9 (Kd.own_of_R HO377.out)
                                  refine value_ (w1 := ?_) (v := ?_) (by rfl) rfl ?_ ?_
                                  rotate_left 2
                                  · go_simp
                                    constructor
                                    · rfl
                                    · rfl
                                  clear hcv43
                                  refine hK.out _ _ ⟨((HB.out.cell (World.block_lt_of_cell? w _ hw374_0)).trans hw374_0), ((HB.out.cell (World.block_lt_of_cell? w _ hw374_1)).trans hw374_1), ((HB.out.cell (World.block_lt_of_cell? w _ hw383_0)).trans hw383_0), ((HB.out.cell (World.block_lt_of_cell? w _ hw383_1)).trans hw383_1)⟩ (fun hHeld => ?_)
                                  clear hK K
                                  refine norm_ (a' := ?_) ?_ ?_
                                  rotate_left
                                  · show Act.put _ (some 85) _ = _
                                    simp only [Act.put, List.setIfInBounds_toArray, List.set_cons_zero, List.set_cons_succ, i64_w, i32_w]
                                    rfl
                                  refine one_ (i := 15) (N := some 93) #[true, true, true, true, true, true, true, true, true, true, true, true, true, true, true, true, false, false] rfl rfl (one_of HT_.out (by kernel_rfl)) (by decide) (fun K hK => ?_)
                                  have hcv44 := own_string (P := Try.prog) Try.underlying22 Try.underlying5 Try.underlying9 (Kd.own_of_R HO386.out)
                                  refine value_ (w1 := ?_) (v := ?_) (by rfl) rfl ?_ ?_
                                  rotate_left 2
                                  · go_simp
                                    constructor
                                    · rfl
                                    · rfl
                                  clear hcv44
                                  refine hK.out _ _ ⟨((HB.out.cell (World.block_lt_of_cell? w _ hw374_0)).trans hw374_0), ((HB.out.cell (World.block_lt_of_cell? w _ hw374_1)).trans hw374_1), ((HB.out.cell (World.block_lt_of_cell? w _ hw383_0)).trans hw383_0), ((HB.out.cell (World.block_lt_of_cell? w _ hw383_1)).trans hw383_1)⟩ (fun hHeld => ?_)
                                  clear hK K
                                  refine norm_ (a' := ?_) ?_ ?_
                                  rotate_left
                                  · show Act.put _ (some 93) _ = _
                                    simp only [Act.put, List.setIfInBounds_toArray, List.set_cons_zero, List.set_cons_succ, i64_w, i32_w]
                                    rfl
                                  exact norm_ (by simp only [putAll, Act.put, List.setIfInBounds_toArray, List.set_cons_zero, List.set_cons_succ]) (hCont (v385) _ ⟨hHeld, (by (with_reducible repeat (first | apply Kd.R_alloc | apply Kd.R_drewN | apply Kd.R_drew)); exact Kd.R_mono HO377.out (fun _ hk => ⟨hk.2, hk.1.2⟩)), (by (with_reducible repeat (first | apply Kd.R_alloc | apply Kd.R_drewN | apply Kd.R_drew)); exact Kd.R_mono HO386.out (fun _ hk => ⟨hk.2, hk.1.2⟩)), (by (with_reducible repeat (first | apply Kd.R_alloc | apply Kd.R_drewN | apply Kd.R_drew)); exact Kd.R_mono HO_8.out (fun _ hk => ⟨hk.1.2, hk.2⟩)), (by repeat (first | (with_reducible first | exact HI328.out | apply IsS35.alloc | apply IsS35.drewN | apply IsS35.drew | apply IsS35.set_0 | apply IsS35.set_1 | apply IsS35.set_2 | apply IsS35.set_3 | apply IsS35.set_4) | exact HI328.out)), (by repeat (first | (with_reducible first | exact HI334.out | apply IsS55.alloc | apply IsS55.drewN | apply IsS55.drew | apply IsS55.set_0 | apply IsS55.set_1 | apply IsS55.set_2 | apply IsS55.set_3 | apply IsS55.set_4) | exact HI334.out)), (by repeat (first | (with_reducible first | exact HB.out | apply below_alloc | apply pw_below_drewN | apply below_drew1 | refine below_set ?_ (IsS35.ge HI328.out) | refine below_set ?_ (IsS55.ge HI334.out)) | exact HB.out))⟩)
                                · skip
                                  have hcv43 := own_string (P := Try.prog) Try.underlying22 Try.underlying5 Try.underlying9 (Kd.own_of_R HO386.out)
                                  refine value_ (w1 := ?_) (v := ?_) (by rfl) rfl ?_ ?_
                                  rotate_left 2
                                  · go_simp
                                    constructor
                                    · rfl
                                    · rfl
                                  clear hcv43
                                  refine hK.out _ _ ⟨((HB.out.cell (World.block_lt_of_cell? w _ hw374_0)).trans hw374_0), ((HB.out.cell (World.block_lt_of_cell? w _ hw374_1)).trans hw374_1), ((HB.out.cell (World.block_lt_of_cell? w _ hw383_0)).trans hw383_0), ((HB.out.cell (World.block_lt_of_cell? w _ hw383_1)).trans hw383_1)⟩ (fun hHeld => ?_)
                                  clear hK K
                                  refine norm_ (a' := ?_) ?_ ?_
                                  rotate_left
                                  · show Act.put _ (some 93) _ = _
                                    simp only [Act.put, List.setIfInBounds_toArray, List.set_cons_zero, List.set_cons_succ, i64_w, i32_w]
                                    rfl
                                  refine one_ (i := 7) (N := some 85) #[true, true, true, true, true, true, true, true, true, true, true, true, true, true, true, true, false, false] rfl rfl (one_of HT_.out (by kernel_rfl)) (by decide) (fun K hK => ?_)
                                  have hcv44 := own_string (P := Try.prog) Try.underlying22 Try.underlying5 Try.underlying9 (Kd.own_of_R HO377.out)
                                  refine value_ (w1 := ?_) (v := ?_) (by rfl) rfl ?_ ?_
                                  rotate_left 2
                                  · go_simp
                                    constructor
                                    · rfl
                                    · rfl
                                  clear hcv44
                                  refine hK.out _ _ ⟨((HB.out.cell (World.block_lt_of_cell? w _ hw374_0)).trans hw374_0), ((HB.out.cell (World.block_lt_of_cell? w _ hw374_1)).trans hw374_1), ((HB.out.cell (World.block_lt_of_cell? w _ hw383_0)).trans hw383_0), ((HB.out.cell (World.block_lt_of_cell? w _ hw383_1)).trans hw383_1)⟩ (fun hHeld => ?_)
                                  clear hK K
                                  refine norm_ (a' := ?_) ?_ ?_
                                  rotate_left
                                  · show Act.put _ (some 85) _ = _
                                    simp only [Act.put, List.setIfInBounds_toArray, List.set_cons_zero, List.set_cons_succ, i64_w, i32_w]
                                    rfl
                                  exact norm_ (by simp only [putAll, Act.put, List.setIfInBounds_toArray, List.set_cons_zero, List.set_cons_succ]) (hCont (v385) _ ⟨hHeld, (by (with_reducible repeat (first | apply Kd.R_alloc | apply Kd.R_drewN | apply Kd.R_drew)); exact Kd.R_mono HO377.out (fun _ hk => ⟨hk.2, hk.1.2⟩)), (by (with_reducible repeat (first | apply Kd.R_alloc | apply Kd.R_drewN | apply Kd.R_drew)); exact Kd.R_mono HO386.out (fun _ hk => ⟨hk.2, hk.1.2⟩)), (by (with_reducible repeat (first | apply Kd.R_alloc | apply Kd.R_drewN | apply Kd.R_drew)); exact Kd.R_mono HO_8.out (fun _ hk => ⟨hk.1.2, hk.2⟩)), (by repeat (first | (with_reducible first | exact HI328.out | apply IsS35.alloc | apply IsS35.drewN | apply IsS35.drew | apply IsS35.set_0 | apply IsS35.set_1 | apply IsS35.set_2 | apply IsS35.set_3 | apply IsS35.set_4) | exact HI328.out)), (by repeat (first | (with_reducible first | exact HI334.out | apply IsS55.alloc | apply IsS55.drewN | apply IsS55.drew | apply IsS55.set_0 | apply IsS55.set_1 | apply IsS55.set_2 | apply IsS55.set_3 | apply IsS55.set_4) | exact HI334.out)), (by repeat (first | (with_reducible first | exact HB.out | apply below_alloc | apply pw_below_drewN | apply below_drew1 | refine below_set ?_ (IsS35.ge HI328.out) | refine below_set ?_ (IsS55.ge HI334.out)) | exact HB.out))⟩)
                            rintro v385 w45 ⟨hS_, h0_, h1_, h2_, h3_, h4_, h5_⟩
                            have n0_ : Aside0 (Kd.R (Kd.int .u8) 5 w45 w.heap.size (fun k_ => some k_ ≠ (v385 : Value).ownBlock ∧ some k_ ≠ (.slice Ao15 y320.length co15 : Value).ownBlock) v376 t375) := ⟨h0_⟩
                            have n1_ : Aside0 (Kd.R (Kd.int .u8) 5 w45 w.heap.size (fun k_ => some k_ ≠ (v376 : Value).ownBlock ∧ some k_ ≠ (.slice Ao15 y320.length co15 : Value).ownBlock) v385 t384) := ⟨h1_⟩
                            have n2_ : Aside0 (Kd.R (Kd.int .u8) 5 w45 w.heap.size (fun k_ => some k_ ≠ (v376 : Value).ownBlock ∧ some k_ ≠ (v385 : Value).ownBlock) (.slice Ao15 y320.length co15) y320) := ⟨h2_⟩
                            have n3_ : Aside0 (IsS35 w w45 g328 t378 t379 t380 t381 t382) := ⟨h3_⟩
                            have n4_ : Aside0 (IsS55 w w45 g334 t387 t388 t389 t390 t391) := ⟨h4_⟩
                            have n5_ : Aside0 (Below w.heap.size w w45) := ⟨h5_⟩
                            clear HO_8
                            clear HI328
                            clear HI334
                            clear HB
                            clear h0_ h1_ h2_ h3_ h4_ h5_
                            have HO377 := n0_
                            have HO386 := n1_
                            have HO_8 := n2_
                            have HI328 := n3_
                            have HI334 := n4_
                            have HB := n5_
                            clear n0_ n1_ n2_ n3_ n4_ n5_
                            have hHeld : w45.cell? (ad335.add ((x11_2).toNat * 2)) = some (.int .i64 ((rd_T42 l2 x11_2).f0)) ∧ w45.cell? ⟨(ad335.add ((x11_2).toNat * 2)).block, (ad335.add ((x11_2).toNat * 2)).off + 1, none⟩ = some (.int .i64 ((rd_T42 l2 x11_2).f1)) ∧ w45.cell? (ad335.add ((x11_2).toNat * 2)) = some (.int .i64 ((rd_T42 l2 x11_2).f0)) ∧ w45.cell? ⟨(ad335.add ((x11_2).toNat * 2)).block, (ad335.add ((x11_2).toNat * 2)).off + 1, none⟩ = some (.int .i64 ((rd_T42 l2 x11_2).f1)) := hS_
                            refine norm_ (a' := ?_) ?_ ?_
                            rotate_left
                            · simp only [putAll, Act.put, List.setIfInBounds_toArray, List.set_cons_zero, List.set_cons_succ]
                              rfl
                            refine pure_ (i := 16) (N := some 94) (v := ?_) (a' := ?_) #[true, true, true, true, true, true, true, true, true, true, true, true, true, true, true, true, true, false] rfl rfl (any_of HT_.out (by kernel_rfl)) (fun _ _ _ h => h) (Or.inl ⟨by rfl, ?_⟩) ?_ ?_
                            rotate_left
                            · intro w'
                              go_simp
                              with_reducible rfl
                            rotate_left
                            · simp only [Act.put, List.setIfInBounds_toArray, List.set_cons_zero, List.set_cons_succ, i64_w, i32_w]
                              rfl
                            refine pure_ (i := 17) (N := some 12) (v := ?_) (a' := ?_) #[true, true, true, true, true, true, true, true, true, true, true, true, true, true, true, true, true, true] rfl rfl (any_of HT_.out (by kernel_rfl)) (fun _ _ _ h => h) (Or.inl ⟨by rfl, ?_⟩) ?_ ?_
                            rotate_left
                            · intro w'
                              go_simp
                              with_reducible rfl
                            rotate_left
                            · simp only [Act.put, List.setIfInBounds_toArray, List.set_cons_zero, List.set_cons_succ, i64_w, i32_w]
                              rfl
                            refine done_ (done_of HT_.out (by kernel_rfl)) ?_
                            try go_wp2
                            go_meet
                            case rel => exact ⟨_, (((strOfNums t375).toList == (strOfNums t384).toList)), (t378), (t379), (t380), (t381), (t382), (t387), (t388), (t389), (t390), (t391), (by first | rfl | (simp; done) | (simp [*]; done)), H', ⟨by have := HJ4.out; have := HK2.out; first | omega | exact Nat.le_refl _⟩, ⟨by (with_reducible repeat (first | apply Kd.R_alloc | apply Kd.R_drewN | apply Kd.R_drew)); exact Kd.R_mono HO_8.out (fun _ hk => trivial)⟩, ⟨by repeat (first | (with_reducible first | exact HI328.out | apply IsS35.alloc | apply IsS35.drewN | apply IsS35.drew | apply IsS35.set_0 | apply IsS35.set_1 | apply IsS35.set_2 | apply IsS35.set_3 | apply IsS35.set_4) | exact HI328.out)⟩, ⟨by repeat (first | (with_reducible first | exact HI334.out | apply IsS55.alloc | apply IsS55.drewN | apply IsS55.drew | apply IsS55.set_0 | apply IsS55.set_1 | apply IsS55.set_2 | apply IsS55.set_3 | apply IsS55.set_4) | exact HI334.out)⟩, ⟨by repeat (first | (with_reducible first | exact HB.out | apply below_alloc | apply pw_below_drewN | apply below_drew1 | refine below_set ?_ (IsS35.ge HI328.out) | refine below_set ?_ (IsS55.ge HI334.out)) | exact HB.out)⟩⟩
                          · rw [if_neg c37] at H
                            have c37b0 : (((rd_T42 l2 x11_2).f0) == 3) = false := beq_eq_false_iff_ne.mpr c37
                            have c37b1 : (((rd_T42 l2 x11_2).f0) != 3) = true := bne_iff_ne.mpr c37
                            by_cases c46 : ((rd_T42 l2 x11_2).f0) = 4
                            · rw [if_pos c46] at H
                              have c46b0 : (((rd_T42 l2 x11_2).f0) == 4) = true := beq_iff_eq.mpr c46
                              have c46b1 : (((rd_T42 l2 x11_2).f0) != 4) = false := bne_eq_false_iff_eq.mpr c46
                              clear c46
                              replace H := Option.bind_eq_some_iff.mp H
                              obtain ⟨⟨t393, t394, t395, t396, t397⟩, A470, H⟩ := H
                              replace H : ((deckleref04_Cursor_Fail.f x335000_2 x335001_2 x335002_2 x335003_2 x335004_2 ((rd_T42 l2 x11_2).f1)).bind fun bt399 => (decklelaw04_CursorReads.j2 k2 l0 l2 t316 y320 x11_2 true t393 t394 t395 t396 t397 bt399.1 bt399.2.1 bt399.2.2.1 bt399.2.2.2.1 bt399.2.2.2.2)) = some r := H
                              have A47 := Aside0.mk A470
                              clear A470
                              replace H := Option.bind_eq_some_iff.mp H
                              obtain ⟨⟨t399, t400, t401, t402, t403⟩, A480, H⟩ := H
                              replace H : (decklelaw04_CursorReads.j2 k2 l0 l2 t316 y320 x11_2 true t393 t394 t395 t396 t397 t399 t400 t401 t402 t403) = some r := H
                              have A48 := Aside0.mk A480
                              clear A480
                              have H' := Aside0.mk H
                              clear H
                              have p392 : 0 ≤ (x11_2 : Int) := of_decide_eq_true (by first | (with_reducible assumption) | assumption)
                              have q392 : x11_2 < (l2.length : Int) := of_decide_eq_true (by first | (with_reducible assumption) | assumption)
                              obtain ⟨ad392, e392, hx392_0, hx392_1⟩ := at_T42 HR2.out x11_2 p392 q392
                              obtain rfl : ad335 = ad392 := (by injection e392)
                              replace hx392_0 := (HB.out.cell (World.block_lt_of_cell? w _ hx392_0)).trans hx392_0
                              replace hx392_1 := (HB.out.cell (World.block_lt_of_cell? w _ hx392_1)).trans hx392_1
                              replace p392 := eq_true p392
                              replace q392 := eq_true q392
                              go_wp2_with (first | ((with_reducible refine gate_callee (f := 22) rfl ?_); refine goesL_ (some 103) rfl rfl Try.func22 (by kernel_rfl) rfl #[.pointer (some ⟨g328, 0, none⟩), .int .i64 ((rd_T42 l2 x11_2).f1)] rfl (by (try simp only [List.map_toArray, List.map_cons, List.map_nil]); first | done | rfl | (simp only [List.length_drop, List.length_take]; rfl)) ?_; (with_reducible refine (cursor_Cursor_Fail.calls g328 x329000_2 x329001_2 x329002_2 x329003_2 x329004_2 ((rd_T42 l2 x11_2).f1) t393 t394 t395 t396 t397 w _ ?side1 ?side2 A47.out).mono ?_); (case side1 => repeat (first | (with_reducible first | exact HI328.out | apply IsS35.alloc | apply IsS35.drewN | apply IsS35.drew | apply IsS35.set_0 | apply IsS35.set_1 | apply IsS35.set_2 | apply IsS35.set_3 | apply IsS35.set_4) | exact HI328.out)); (case side2 => repeat (first | (with_reducible first | exact HB.out | apply below_alloc | apply pw_below_drewN | apply below_drew1 | refine below_set ?_ (IsS35.ge HI328.out) | refine below_set ?_ (IsS55.ge HI334.out)) | exact HB.out)); rintro e w49 ⟨rfl, hi, hb, hk⟩; refine ⟨_, rfl, ?_⟩; have n0_ := Aside0.mk (Kd.R_mono (Kd.R_keep (IsS35.apart (show IsS35 w _ g328 x329000_2 x329001_2 x329002_2 x329003_2 x329004_2 from by repeat (first | (with_reducible first | exact HI328.out | apply IsS35.alloc | apply IsS35.drewN | apply IsS35.drew | apply IsS35.set_0 | apply IsS35.set_1 | apply IsS35.set_2 | apply IsS35.set_3 | apply IsS35.set_4) | exact HI328.out)) (by (with_reducible repeat (first | apply Kd.R_alloc | apply Kd.R_drewN | apply Kd.R_drew)); exact HO_8.out) (by decide)) hk (fun _ h => h.2)) (fun _ h => h.1)); have n1_ := Aside0.mk ((IsS55.keepS (show IsS55 w _ g334 x335000_2 x335001_2 x335002_2 x335003_2 x335004_2 from by repeat (first | (with_reducible first | exact HI334.out | apply IsS55.alloc | apply IsS55.drewN | apply IsS55.drew | apply IsS55.set_0 | apply IsS55.set_1 | apply IsS55.set_2 | apply IsS55.set_3 | apply IsS55.set_4) | exact HI334.out)) hk NB334_328.out (IsS35.cells (show IsS35 w _ g328 x329000_2 x329001_2 x329002_2 x329003_2 x329004_2 from by repeat (first | (with_reducible first | exact HI328.out | apply IsS35.alloc | apply IsS35.drewN | apply IsS35.drew | apply IsS35.set_0 | apply IsS35.set_1 | apply IsS35.set_2 | apply IsS35.set_3 | apply IsS35.set_4) | exact HI328.out))))); have n2_ := Aside0.mk (hb); have n3_ := Aside0.mk (hi); clear HO_8; clear HI334; clear HB; clear HI328; have HO_8 := n0_; have HI334 := n1_; have HB := n2_; have HI328 := n3_; clear n0_ n1_ n2_ n3_; (try clear hb); (try clear hb2); (try clear hk); (try clear hi); have p398 : 0 ≤ (x11_2 : Int) := of_decide_eq_true (by first | (with_reducible assumption) | assumption); have q398 : x11_2 < (l2.length : Int) := of_decide_eq_true (by first | (with_reducible assumption) | assumption); obtain ⟨ad398, e398, hx398_0, hx398_1⟩ := at_T42 HR2.out x11_2 p398 q398; obtain rfl : ad335 = ad398 := (by injection e398); replace hx398_0 := (HB.out.cell (World.block_lt_of_cell? w _ hx398_0)).trans hx398_0; replace hx398_1 := (HB.out.cell (World.block_lt_of_cell? w _ hx398_1)).trans hx398_1; replace p398 := eq_true p398; replace q398 := eq_true q398) | ((with_reducible refine gate_callee (f := 23) rfl ?_); refine goesL_ (some 110) rfl rfl Try.func23 (by kernel_rfl) rfl #[.pointer (some ⟨g334, 0, none⟩), .int .i64 ((rd_T42 l2 x11_2).f1)] rfl (by (try simp only [List.map_toArray, List.map_cons, List.map_nil]); first | done | rfl | (simp only [List.length_drop, List.length_take]; rfl)) ?_; (with_reducible refine (deckleref04_Cursor_Fail.calls g334 x335000_2 x335001_2 x335002_2 x335003_2 x335004_2 ((rd_T42 l2 x11_2).f1) t399 t400 t401 t402 t403 w _ ?side1 ?side2 A48.out).mono ?_); (case side1 => repeat (first | (with_reducible first | exact HI334.out | apply IsS55.alloc | apply IsS55.drewN | apply IsS55.drew | apply IsS55.set_0 | apply IsS55.set_1 | apply IsS55.set_2 | apply IsS55.set_3 | apply IsS55.set_4) | exact HI334.out)); (case side2 => repeat (first | (with_reducible first | exact HB.out | apply below_alloc | apply pw_below_drewN | apply below_drew1 | refine below_set ?_ (IsS35.ge HI328.out) | refine below_set ?_ (IsS55.ge HI334.out)) | exact HB.out)); rintro e w50 ⟨rfl, hi, hb, hk⟩; refine ⟨_, rfl, ?_⟩; have n0_ := Aside0.mk (Kd.R_mono (Kd.R_keep (IsS55.apart (show IsS55 w _ g334 x335000_2 x335001_2 x335002_2 x335003_2 x335004_2 from by repeat (first | (with_reducible first | exact HI334.out | apply IsS55.alloc | apply IsS55.drewN | apply IsS55.drew | apply IsS55.set_0 | apply IsS55.set_1 | apply IsS55.set_2 | apply IsS55.set_3 | apply IsS55.set_4) | exact HI334.out)) (by (with_reducible repeat (first | apply Kd.R_alloc | apply Kd.R_drewN | apply Kd.R_drew)); exact HO_8.out) (by decide)) hk (fun _ h => h.2)) (fun _ h => h.1)); have n1_ := Aside0.mk ((IsS35.keepS (show IsS35 w _ g328 t393 t394 t395 t396 t397 from by repeat (first | (with_reducible first | exact HI328.out | apply IsS35.alloc | apply IsS35.drewN | apply IsS35.drew | apply IsS35.set_0 | apply IsS35.set_1 | apply IsS35.set_2 | apply IsS35.set_3 | apply IsS35.set_4) | exact HI328.out)) hk NB328_334.out (IsS55.cells (show IsS55 w _ g334 x335000_2 x335001_2 x335002_2 x335003_2 x335004_2 from by repeat (first | (with_reducible first | exact HI334.out | apply IsS55.alloc | apply IsS55.drewN | apply IsS55.drew | apply IsS55.set_0 | apply IsS55.set_1 | apply IsS55.set_2 | apply IsS55.set_3 | apply IsS55.set_4) | exact HI334.out))))); have n2_ := Aside0.mk (hb); have n3_ := Aside0.mk (hi); clear HO_8; clear HI328; clear HB; clear HI334; have HO_8 := n0_; have HI328 := n1_; have HB := n2_; have HI334 := n3_; clear n0_ n1_ n2_ n3_; (try clear hb); (try clear hb2); (try clear hk); (try clear hi)))
                              go_meet
                              case rel => exact ⟨_, (true), (t393), (t394), (t395), (t396), (t397), (t399), (t400), (t401), (t402), (t403), (by first | rfl | (simp; done) | (simp [*]; done)), H', ⟨by have := HJ4.out; have := HK2.out; first | omega | exact Nat.le_refl _⟩, ⟨by (with_reducible repeat (first | apply Kd.R_alloc | apply Kd.R_drewN | apply Kd.R_drew)); exact HO_8.out⟩, ⟨by repeat (first | (with_reducible first | exact HI328.out | apply IsS35.alloc | apply IsS35.drewN | apply IsS35.drew | apply IsS35.set_0 | apply IsS35.set_1 | apply IsS35.set_2 | apply IsS35.set_3 | apply IsS35.set_4) | exact HI328.out)⟩, ⟨by repeat (first | (with_reducible first | exact HI334.out | apply IsS55.alloc | apply IsS55.drewN | apply IsS55.drew | apply IsS55.set_0 | apply IsS55.set_1 | apply IsS55.set_2 | apply IsS55.set_3 | apply IsS55.set_4) | exact HI334.out)⟩, ⟨by repeat (first | (with_reducible first | exact HB.out | apply below_alloc | apply pw_below_drewN | apply below_drew1 | refine below_set ?_ (IsS35.ge HI328.out) | refine below_set ?_ (IsS55.ge HI334.out)) | exact HB.out)⟩⟩
                            · rw [if_neg c46] at H
                              have c46b0 : (((rd_T42 l2 x11_2).f0) == 4) = false := beq_eq_false_iff_ne.mpr c46
                              have c46b1 : (((rd_T42 l2 x11_2).f0) != 4) = true := bne_iff_ne.mpr c46
                              have H' := Aside0.mk H
                              clear H
                              go_wp2
                              go_meet
                              case rel => exact ⟨_, (true), (x329000_2), (x329001_2), (x329002_2), (x329003_2), (x329004_2), (x335000_2), (x335001_2), (x335002_2), (x335003_2), (x335004_2), (by first | rfl | (simp; done) | (simp [*]; done)), H', ⟨by have := HJ4.out; have := HK2.out; first | omega | exact Nat.le_refl _⟩, ⟨by (with_reducible repeat (first | apply Kd.R_alloc | apply Kd.R_drewN | apply Kd.R_drew)); exact HO_8.out⟩, ⟨by repeat (first | (with_reducible first | exact HI328.out | apply IsS35.alloc | apply IsS35.drewN | apply IsS35.drew | apply IsS35.set_0 | apply IsS35.set_1 | apply IsS35.set_2 | apply IsS35.set_3 | apply IsS35.set_4) | exact HI328.out)⟩, ⟨by repeat (first | (with_reducible first | exact HI334.out | apply IsS55.alloc | apply IsS55.drewN | apply IsS55.drew | apply IsS55.set_0 | apply IsS55.set_1 | apply IsS55.set_2 | apply IsS55.set_3 | apply IsS55.set_4) | exact HI334.out)⟩, ⟨by repeat (first | (with_reducible first | exact HB.out | apply below_alloc | apply pw_below_drewN | apply below_drew1 | refine below_set ?_ (IsS35.ge HI328.out) | refine below_set ?_ (IsS55.ge HI334.out)) | exact HB.out)⟩⟩
                  case rest =>
                    clear HC20
                    try clear c1
                    try clear c2
                    try clear p2
                    try clear c3
                    try clear p3
                    try clear q3
                    try clear hx3
                    try clear c4
                    try clear hcv4
                    try clear c11
                    try clear c17
                    try clear c18
                    try clear c19
                    try clear c20
                    try clear c21
                    try clear c22
                    try clear c23
                    try clear c26
                    try clear c26b0
                    try clear c26b1
                    try clear c32
                    try clear c32b0
                    try clear c32b1
                    try clear c37
                    try clear c37b0
                    try clear c37b1
                    try clear p37
                    try clear q37
                    try clear hx37
                    try clear p38
                    try clear q38
                    try clear hx38
                    try clear p39
                    try clear q39
                    try clear hx39
                    try clear hcv42
                    try clear hcv43
                    try clear hcv44
                    try clear c46
                    try clear c46b0
                    try clear c46b1
                    try clear hx374_0
                    try clear hx374_1
                    try clear hx383_0
                    try clear hx383_1
                    try clear hx392_0
                    try clear hx392_1
                    try clear hx398_0
                    try clear hx398_1
                    try clear p374
                    try clear p383
                    try clear p392
                    try clear p398
                    try clear q374
                    try clear q383
                    try clear q392
                    try clear q398
                    obtain ⟨kq, x12_19, x329000_19, x329001_19, x329002_19, x329003_19, x329004_19, x335000_19, x335001_19, x335002_19, x335003_19, x335004_19, rfl, HA, HJ19, HO_8, HI328, HI334, HB⟩ := hcut
                    cases kq with
                    | zero => exact absurd HA.out (by simp [decklelaw04_CursorReads.j2])
                    | succ kj19 =>
                      have H := HA.out
                      clear HA
                      simp only [decklelaw04_CursorReads.j2] at H
                      by_cases c51 : x12_19 = true
                      · subst c51
                        have H1 : ((cursor_Cursor_Left.f x329000_19 x329001_19 x329002_19 x329003_19 x329004_19).bind fun bt404 => ((deckleref04_Cursor_Left.f x335000_19 x335001_19 x335002_19 x335003_19 x335004_19).bind fun bt410 => (if bt404.1 = bt410.1 then ((cursor_place_At.f bt404.2.1 bt404.2.2.1 bt404.2.2.2.1 bt404.2.2.2.2.1 bt404.2.2.2.2.2).bind fun bt416 => ((deckleref04_Cursor_At.f bt410.2.1 bt410.2.2.1 bt410.2.2.2.1 bt410.2.2.2.2.1 bt410.2.2.2.2.2).bind fun bt422 => (if bt416.1 = bt422.1 then ((cursor_place_Fault.f bt416.2.1 bt416.2.2.1 bt416.2.2.2.1 bt416.2.2.2.2.1 bt416.2.2.2.2.2).bind fun bt428 => ((deckleref04_Cursor_Fault.f bt422.2.1 bt422.2.2.1 bt422.2.2.2.1 bt422.2.2.2.2.1 bt422.2.2.2.2.2).bind fun bt436 => (if (!(bt428.1 == bt436.1) || (!(bt428.2.1 == bt436.2.1) || (!(bt428.2.2.1 == bt436.2.2.1)))) = true then (none) else ((cursor_Cursor_End.f bt428.2.2.2.1 bt428.2.2.2.2.1 bt428.2.2.2.2.2.1 bt428.2.2.2.2.2.2.1 bt428.2.2.2.2.2.2.2).bind fun bt444 => ((deckleref04_Cursor_End.f bt436.2.2.2.1 bt436.2.2.2.2.1 bt436.2.2.2.2.2.1 bt436.2.2.2.2.2.2.1 bt436.2.2.2.2.2.2.2).bind fun bt452 => (if (!(bt444.1 == bt452.1) || (!(bt444.2.1 == bt452.2.1) || (!(bt444.2.2.1 == bt452.2.2.1)))) = true then (none) else (decklelaw04_CursorReads.l0 kj19 l0 l2 t316 y320 (wrap64 (x11_2 + 1)) bt444.2.2.2.1 bt444.2.2.2.2.1 bt444.2.2.2.2.2.1 bt444.2.2.2.2.2.2.1 bt444.2.2.2.2.2.2.2 bt452.2.2.2.1 bt452.2.2.2.2.1 bt452.2.2.2.2.2.1 bt452.2.2.2.2.2.2.1 bt452.2.2.2.2.2.2.2))))))) else (none)))) else (none)))) = some r := by rw [if_pos rfl] at H; exact H
                        clear H
                        have H := H1
                        clear H1
                        replace H := Option.bind_eq_some_iff.mp H
                        obtain ⟨⟨t404, t405, t406, t407, t408, t409⟩, A520, H⟩ := H
                        replace H : ((deckleref04_Cursor_Left.f x335000_19 x335001_19 x335002_19 x335003_19 x335004_19).bind fun bt410 => (if t404 = bt410.1 then ((cursor_place_At.f t405 t406 t407 t408 t409).bind fun bt416 => ((deckleref04_Cursor_At.f bt410.2.1 bt410.2.2.1 bt410.2.2.2.1 bt410.2.2.2.2.1 bt410.2.2.2.2.2).bind fun bt422 => (if bt416.1 = bt422.1 then ((cursor_place_Fault.f bt416.2.1 bt416.2.2.1 bt416.2.2.2.1 bt416.2.2.2.2.1 bt416.2.2.2.2.2).bind fun bt428 => ((deckleref04_Cursor_Fault.f bt422.2.1 bt422.2.2.1 bt422.2.2.2.1 bt422.2.2.2.2.1 bt422.2.2.2.2.2).bind fun bt436 => (if (!(bt428.1 == bt436.1) || (!(bt428.2.1 == bt436.2.1) || (!(bt428.2.2.1 == bt436.2.2.1)))) = true then (none) else ((cursor_Cursor_End.f bt428.2.2.2.1 bt428.2.2.2.2.1 bt428.2.2.2.2.2.1 bt428.2.2.2.2.2.2.1 bt428.2.2.2.2.2.2.2).bind fun bt444 => ((deckleref04_Cursor_End.f bt436.2.2.2.1 bt436.2.2.2.2.1 bt436.2.2.2.2.2.1 bt436.2.2.2.2.2.2.1 bt436.2.2.2.2.2.2.2).bind fun bt452 => (if (!(bt444.1 == bt452.1) || (!(bt444.2.1 == bt452.2.1) || (!(bt444.2.2.1 == bt452.2.2.1)))) = true then (none) else (decklelaw04_CursorReads.l0 kj19 l0 l2 t316 y320 (wrap64 (x11_2 + 1)) bt444.2.2.2.1 bt444.2.2.2.2.1 bt444.2.2.2.2.2.1 bt444.2.2.2.2.2.2.1 bt444.2.2.2.2.2.2.2 bt452.2.2.2.1 bt452.2.2.2.2.1 bt452.2.2.2.2.2.1 bt452.2.2.2.2.2.2.1 bt452.2.2.2.2.2.2.2))))))) else (none)))) else (none))) = some r := H
                        have A52 := Aside0.mk A520
                        clear A520
                        replace H := Option.bind_eq_some_iff.mp H
                        obtain ⟨⟨t410, t411, t412, t413, t414, t415⟩, A530, H⟩ := H
                        replace H : (if t404 = t410 then ((cursor_place_At.f t405 t406 t407 t408 t409).bind fun bt416 => ((deckleref04_Cursor_At.f t411 t412 t413 t414 t415).bind fun bt422 => (if bt416.1 = bt422.1 then ((cursor_place_Fault.f bt416.2.1 bt416.2.2.1 bt416.2.2.2.1 bt416.2.2.2.2.1 bt416.2.2.2.2.2).bind fun bt428 => ((deckleref04_Cursor_Fault.f bt422.2.1 bt422.2.2.1 bt422.2.2.2.1 bt422.2.2.2.2.1 bt422.2.2.2.2.2).bind fun bt436 => (if (!(bt428.1 == bt436.1) || (!(bt428.2.1 == bt436.2.1) || (!(bt428.2.2.1 == bt436.2.2.1)))) = true then (none) else ((cursor_Cursor_End.f bt428.2.2.2.1 bt428.2.2.2.2.1 bt428.2.2.2.2.2.1 bt428.2.2.2.2.2.2.1 bt428.2.2.2.2.2.2.2).bind fun bt444 => ((deckleref04_Cursor_End.f bt436.2.2.2.1 bt436.2.2.2.2.1 bt436.2.2.2.2.2.1 bt436.2.2.2.2.2.2.1 bt436.2.2.2.2.2.2.2).bind fun bt452 => (if (!(bt444.1 == bt452.1) || (!(bt444.2.1 == bt452.2.1) || (!(bt444.2.2.1 == bt452.2.2.1)))) = true then (none) else (decklelaw04_CursorReads.l0 kj19 l0 l2 t316 y320 (wrap64 (x11_2 + 1)) bt444.2.2.2.1 bt444.2.2.2.2.1 bt444.2.2.2.2.2.1 bt444.2.2.2.2.2.2.1 bt444.2.2.2.2.2.2.2 bt452.2.2.2.1 bt452.2.2.2.2.1 bt452.2.2.2.2.2.1 bt452.2.2.2.2.2.2.1 bt452.2.2.2.2.2.2.2))))))) else (none)))) else (none)) = some r := H
                        have A53 := Aside0.mk A530
                        clear A530
                        by_cases c54 : t404 = t410
                        · rw [if_pos c54] at H
                          have c54b0 : (t404 == t410) = true := beq_iff_eq.mpr c54
                          have c54b1 : (t404 != t410) = false := bne_eq_false_iff_eq.mpr c54
                          clear c54
                          replace H := Option.bind_eq_some_iff.mp H
                          obtain ⟨⟨t416, t417, t418, t419, t420, t421⟩, A550, H⟩ := H
                          replace H : ((deckleref04_Cursor_At.f t411 t412 t413 t414 t415).bind fun bt422 => (if t416 = bt422.1 then ((cursor_place_Fault.f t417 t418 t419 t420 t421).bind fun bt428 => ((deckleref04_Cursor_Fault.f bt422.2.1 bt422.2.2.1 bt422.2.2.2.1 bt422.2.2.2.2.1 bt422.2.2.2.2.2).bind fun bt436 => (if (!(bt428.1 == bt436.1) || (!(bt428.2.1 == bt436.2.1) || (!(bt428.2.2.1 == bt436.2.2.1)))) = true then (none) else ((cursor_Cursor_End.f bt428.2.2.2.1 bt428.2.2.2.2.1 bt428.2.2.2.2.2.1 bt428.2.2.2.2.2.2.1 bt428.2.2.2.2.2.2.2).bind fun bt444 => ((deckleref04_Cursor_End.f bt436.2.2.2.1 bt436.2.2.2.2.1 bt436.2.2.2.2.2.1 bt436.2.2.2.2.2.2.1 bt436.2.2.2.2.2.2.2).bind fun bt452 => (if (!(bt444.1 == bt452.1) || (!(bt444.2.1 == bt452.2.1) || (!(bt444.2.2.1 == bt452.2.2.1)))) = true then (none) else (decklelaw04_CursorReads.l0 kj19 l0 l2 t316 y320 (wrap64 (x11_2 + 1)) bt444.2.2.2.1 bt444.2.2.2.2.1 bt444.2.2.2.2.2.1 bt444.2.2.2.2.2.2.1 bt444.2.2.2.2.2.2.2 bt452.2.2.2.1 bt452.2.2.2.2.1 bt452.2.2.2.2.2.1 bt452.2.2.2.2.2.2.1 bt452.2.2.2.2.2.2.2))))))) else (none))) = some r := H
                          have A55 := Aside0.mk A550
                          clear A550
                          replace H := Option.bind_eq_some_iff.mp H
                          obtain ⟨⟨t422, t423, t424, t425, t426, t427⟩, A560, H⟩ := H
                          replace H : (if t416 = t422 then ((cursor_place_Fault.f t417 t418 t419 t420 t421).bind fun bt428 => ((deckleref04_Cursor_Fault.f t423 t424 t425 t426 t427).bind fun bt436 => (if (!(bt428.1 == bt436.1) || (!(bt428.2.1 == bt436.2.1) || (!(bt428.2.2.1 == bt436.2.2.1)))) = true then (none) else ((cursor_Cursor_End.f bt428.2.2.2.1 bt428.2.2.2.2.1 bt428.2.2.2.2.2.1 bt428.2.2.2.2.2.2.1 bt428.2.2.2.2.2.2.2).bind fun bt444 => ((deckleref04_Cursor_End.f bt436.2.2.2.1 bt436.2.2.2.2.1 bt436.2.2.2.2.2.1 bt436.2.2.2.2.2.2.1 bt436.2.2.2.2.2.2.2).bind fun bt452 => (if (!(bt444.1 == bt452.1) || (!(bt444.2.1 == bt452.2.1) || (!(bt444.2.2.1 == bt452.2.2.1)))) = true then (none) else (decklelaw04_CursorReads.l0 kj19 l0 l2 t316 y320 (wrap64 (x11_2 + 1)) bt444.2.2.2.1 bt444.2.2.2.2.1 bt444.2.2.2.2.2.1 bt444.2.2.2.2.2.2.1 bt444.2.2.2.2.2.2.2 bt452.2.2.2.1 bt452.2.2.2.2.1 bt452.2.2.2.2.2.1 bt452.2.2.2.2.2.2.1 bt452.2.2.2.2.2.2.2))))))) else (none)) = some r := H
                          have A56 := Aside0.mk A560
                          clear A560
                          by_cases c57 : t416 = t422
                          · rw [if_pos c57] at H
                            have c57b0 : (t416 == t422) = true := beq_iff_eq.mpr c57
                            have c57b1 : (t416 != t422) = false := bne_eq_false_iff_eq.mpr c57
                            clear c57
                            replace H := Option.bind_eq_some_iff.mp H
                            obtain ⟨⟨t428, t429, t430, t431, t432, t433, t434, t435⟩, A580, H⟩ := H
                            replace H : ((deckleref04_Cursor_Fault.f t423 t424 t425 t426 t427).bind fun bt436 => (if (!(t428 == bt436.1) || (!(t429 == bt436.2.1) || (!(t430 == bt436.2.2.1)))) = true then (none) else ((cursor_Cursor_End.f t431 t432 t433 t434 t435).bind fun bt444 => ((deckleref04_Cursor_End.f bt436.2.2.2.1 bt436.2.2.2.2.1 bt436.2.2.2.2.2.1 bt436.2.2.2.2.2.2.1 bt436.2.2.2.2.2.2.2).bind fun bt452 => (if (!(bt444.1 == bt452.1) || (!(bt444.2.1 == bt452.2.1) || (!(bt444.2.2.1 == bt452.2.2.1)))) = true then (none) else (decklelaw04_CursorReads.l0 kj19 l0 l2 t316 y320 (wrap64 (x11_2 + 1)) bt444.2.2.2.1 bt444.2.2.2.2.1 bt444.2.2.2.2.2.1 bt444.2.2.2.2.2.2.1 bt444.2.2.2.2.2.2.2 bt452.2.2.2.1 bt452.2.2.2.2.1 bt452.2.2.2.2.2.1 bt452.2.2.2.2.2.2.1 bt452.2.2.2.2.2.2.2)))))) = some r := H
                            have A58 := Aside0.mk A580
                            clear A580
                            replace H := Option.bind_eq_some_iff.mp H
                            obtain ⟨⟨t436, t437, t438, t439, t440, t441, t442, t443⟩, A590, H⟩ := H
                            replace H : (if (!(t428 == t436) || (!(t429 == t437) || (!(t430 == t438)))) = true then (none) else ((cursor_Cursor_End.f t431 t432 t433 t434 t435).bind fun bt444 => ((deckleref04_Cursor_End.f t439 t440 t441 t442 t443).bind fun bt452 => (if (!(bt444.1 == bt452.1) || (!(bt444.2.1 == bt452.2.1) || (!(bt444.2.2.1 == bt452.2.2.1)))) = true then (none) else (decklelaw04_CursorReads.l0 kj19 l0 l2 t316 y320 (wrap64 (x11_2 + 1)) bt444.2.2.2.1 bt444.2.2.2.2.1 bt444.2.2.2.2.2.1 bt444.2.2.2.2.2.2.1 bt444.2.2.2.2.2.2.2 bt452.2.2.2.1 bt452.2.2.2.2.1 bt452.2.2.2.2.2.1 bt452.2.2.2.2.2.2.1 bt452.2.2.2.2.2.2.2))))) = some r := H
                            have A59 := Aside0.mk A590
                            clear A590
                            by_cases c60 : (!(t428 == t436) || (!(t429 == t437) || (!(t430 == t438)))) = true
                            · rw [if_pos c60] at H
                              exact absurd H (by simp)
                            · rw [if_neg c60] at H
                              have c60b0 : (!(t428 == t436) || (!(t429 == t437) || (!(t430 == t438)))) = false := by simpa using c60
                              clear c60
                              replace H := Option.bind_eq_some_iff.mp H
                              obtain ⟨⟨t444, t445, t446, t447, t448, t449, t450, t451⟩, A610, H⟩ := H
                              replace H : ((deckleref04_Cursor_End.f t439 t440 t441 t442 t443).bind fun bt452 => (if (!(t444 == bt452.1) || (!(t445 == bt452.2.1) || (!(t446 == bt452.2.2.1)))) = true then (none) else (decklelaw04_CursorReads.l0 kj19 l0 l2 t316 y320 (wrap64 (x11_2 + 1)) t447 t448 t449 t450 t451 bt452.2.2.2.1 bt452.2.2.2.2.1 bt452.2.2.2.2.2.1 bt452.2.2.2.2.2.2.1 bt452.2.2.2.2.2.2.2))) = some r := H
                              have A61 := Aside0.mk A610
                              clear A610
                              replace H := Option.bind_eq_some_iff.mp H
                              obtain ⟨⟨t452, t453, t454, t455, t456, t457, t458, t459⟩, A620, H⟩ := H
                              replace H : (if (!(t444 == t452) || (!(t445 == t453) || (!(t446 == t454)))) = true then (none) else (decklelaw04_CursorReads.l0 kj19 l0 l2 t316 y320 (wrap64 (x11_2 + 1)) t447 t448 t449 t450 t451 t455 t456 t457 t458 t459)) = some r := H
                              have A62 := Aside0.mk A620
                              clear A620
                              by_cases c63 : (!(t444 == t452) || (!(t445 == t453) || (!(t446 == t454)))) = true
                              · rw [if_pos c63] at H
                                exact absurd H (by simp)
                              · rw [if_neg c63] at H
                                have c63b0 : (!(t444 == t452) || (!(t445 == t453) || (!(t446 == t454)))) = false := by simpa using c63
                                clear c63
                                have H' := Aside0.mk H
                                clear H
                                go_wp2_with (first | (go_at_call 10; (with_reducible refine (cursor_Cursor_Left.calls g328 x329000_19 x329001_19 x329002_19 x329003_19 x329004_19 t404 t405 t406 t407 t408 t409 w _ ?side1 ?side2 A52.out).mono ?_); (case side1 => repeat (first | (with_reducible first | exact HI328.out | apply IsS35.alloc | apply IsS35.drewN | apply IsS35.drew | apply IsS35.set_0 | apply IsS35.set_1 | apply IsS35.set_2 | apply IsS35.set_3 | apply IsS35.set_4) | exact HI328.out)); (case side2 => repeat (first | (with_reducible first | exact HB.out | apply below_alloc | apply pw_below_drewN | apply below_drew1 | refine below_set ?_ (IsS35.ge HI328.out) | refine below_set ?_ (IsS55.ge HI334.out)) | exact HB.out)); rintro e w64 ⟨rfl, hi, hb, hk⟩; have n0_ := Aside0.mk (Kd.R_mono (Kd.R_keep (IsS35.apart (show IsS35 w _ g328 x329000_19 x329001_19 x329002_19 x329003_19 x329004_19 from by repeat (first | (with_reducible first | exact HI328.out | apply IsS35.alloc | apply IsS35.drewN | apply IsS35.drew | apply IsS35.set_0 | apply IsS35.set_1 | apply IsS35.set_2 | apply IsS35.set_3 | apply IsS35.set_4) | exact HI328.out)) (by (with_reducible repeat (first | apply Kd.R_alloc | apply Kd.R_drewN | apply Kd.R_drew)); exact HO_8.out) (by decide)) hk (fun _ h => h.2)) (fun _ h => h.1)); have n1_ := Aside0.mk ((IsS55.keepS (show IsS55 w _ g334 x335000_19 x335001_19 x335002_19 x335003_19 x335004_19 from by repeat (first | (with_reducible first | exact HI334.out | apply IsS55.alloc | apply IsS55.drewN | apply IsS55.drew | apply IsS55.set_0 | apply IsS55.set_1 | apply IsS55.set_2 | apply IsS55.set_3 | apply IsS55.set_4) | exact HI334.out)) hk NB334_328.out (IsS35.cells (show IsS35 w _ g328 x329000_19 x329001_19 x329002_19 x329003_19 x329004_19 from by repeat (first | (with_reducible first | exact HI328.out | apply IsS35.alloc | apply IsS35.drewN | apply IsS35.drew | apply IsS35.set_0 | apply IsS35.set_1 | apply IsS35.set_2 | apply IsS35.set_3 | apply IsS35.set_4) | exact HI328.out))))); have n2_ := Aside0.mk (hb); have n3_ := Aside0.mk (hi); clear HO_8; clear HI334; clear HB; clear HI328; have HO_8 := n0_; have HI334 := n1_; have HB := n2_; have HI328 := n3_; clear n0_ n1_ n2_ n3_; (try clear hb); (try clear hb2); (try clear hk); (try clear hi)) | (go_at_call 24; (with_reducible refine (deckleref04_Cursor_Left.calls g334 x335000_19 x335001_19 x335002_19 x335003_19 x335004_19 t410 t411 t412 t413 t414 t415 w _ ?side1 ?side2 A53.out).mono ?_); (case side1 => repeat (first | (with_reducible first | exact HI334.out | apply IsS55.alloc | apply IsS55.drewN | apply IsS55.drew | apply IsS55.set_0 | apply IsS55.set_1 | apply IsS55.set_2 | apply IsS55.set_3 | apply IsS55.set_4) | exact HI334.out)); (case side2 => repeat (first | (with_reducible first | exact HB.out | apply below_alloc | apply pw_below_drewN | apply below_drew1 | refine below_set ?_ (IsS35.ge HI328.out) | refine below_set ?_ (IsS55.ge HI334.out)) | exact HB.out)); rintro e w65 ⟨rfl, hi, hb, hk⟩; have n0_ := Aside0.mk (Kd.R_mono (Kd.R_keep (IsS55.apart (show IsS55 w _ g334 x335000_19 x335001_19 x335002_19 x335003_19 x335004_19 from by repeat (first | (with_reducible first | exact HI334.out | apply IsS55.alloc | apply IsS55.drewN | apply IsS55.drew | apply IsS55.set_0 | apply IsS55.set_1 | apply IsS55.set_2 | apply IsS55.set_3 | apply IsS55.set_4) | exact HI334.out)) (by (with_reducible repeat (first | apply Kd.R_alloc | apply Kd.R_drewN | apply Kd.R_drew)); exact HO_8.out) (by decide)) hk (fun _ h => h.2)) (fun _ h => h.1)); have n1_ := Aside0.mk ((IsS35.keepS (show IsS35 w _ g328 t405 t406 t407 t408 t409 from by repeat (first | (with_reducible first | exact HI328.out | apply IsS35.alloc | apply IsS35.drewN | apply IsS35.drew | apply IsS35.set_0 | apply IsS35.set_1 | apply IsS35.set_2 | apply IsS35.set_3 | apply IsS35.set_4) | exact HI328.out)) hk NB328_334.out (IsS55.cells (show IsS55 w _ g334 x335000_19 x335001_19 x335002_19 x335003_19 x335004_19 from by repeat (first | (with_reducible first | exact HI334.out | apply IsS55.alloc | apply IsS55.drewN | apply IsS55.drew | apply IsS55.set_0 | apply IsS55.set_1 | apply IsS55.set_2 | apply IsS55.set_3 | apply IsS55.set_4) | exact HI334.out))))); have n2_ := Aside0.mk (hb); have n3_ := Aside0.mk (hi); clear HO_8; clear HI328; clear HB; clear HI334; have HO_8 := n0_; have HI328 := n1_; have HB := n2_; have HI334 := n3_; clear n0_ n1_ n2_ n3_; (try clear hb); (try clear hb2); (try clear hk); (try clear hi)) | (go_at_call 12; (with_reducible refine (cursor_place_At.calls g328 t405 t406 t407 t408 t409 t416 t417 t418 t419 t420 t421 w _ ?side1 ?side2 A55.out).mono ?_); (case side1 => repeat (first | (with_reducible first | exact HI328.out | apply IsS35.alloc | apply IsS35.drewN | apply IsS35.drew | apply IsS35.set_0 | apply IsS35.set_1 | apply IsS35.set_2 | apply IsS35.set_3 | apply IsS35.set_4) | exact HI328.out)); (case side2 => repeat (first | (with_reducible first | exact HB.out | apply below_alloc | apply pw_below_drewN | apply below_drew1 | refine below_set ?_ (IsS35.ge HI328.out) | refine below_set ?_ (IsS55.ge HI334.out)) | exact HB.out)); rintro e w66 ⟨rfl, hi, hb, hk⟩; have n0_ := Aside0.mk (Kd.R_mono (Kd.R_keep (IsS35.apart (show IsS35 w _ g328 t405 t406 t407 t408 t409 from by repeat (first | (with_reducible first | exact HI328.out | apply IsS35.alloc | apply IsS35.drewN | apply IsS35.drew | apply IsS35.set_0 | apply IsS35.set_1 | apply IsS35.set_2 | apply IsS35.set_3 | apply IsS35.set_4) | exact HI328.out)) (by (with_reducible repeat (first | apply Kd.R_alloc | apply Kd.R_drewN | apply Kd.R_drew)); exact HO_8.out) (by decide)) hk (fun _ h => h.2)) (fun _ h => h.1)); have n1_ := Aside0.mk ((IsS55.keepS (show IsS55 w _ g334 t411 t412 t413 t414 t415 from by repeat (first | (with_reducible first | exact HI334.out | apply IsS55.alloc | apply IsS55.drewN | apply IsS55.drew | apply IsS55.set_0 | apply IsS55.set_1 | apply IsS55.set_2 | apply IsS55.set_3 | apply IsS55.set_4) | exact HI334.out)) hk NB334_328.out (IsS35.cells (show IsS35 w _ g328 t405 t406 t407 t408 t409 from by repeat (first | (with_reducible first | exact HI328.out | apply IsS35.alloc | apply IsS35.drewN | apply IsS35.drew | apply IsS35.set_0 | apply IsS35.set_1 | apply IsS35.set_2 | apply IsS35.set_3 | apply IsS35.set_4) | exact HI328.out))))); have n2_ := Aside0.mk (hb); have n3_ := Aside0.mk (hi); clear HO_8; clear HI334; clear HB; clear HI328; have HO_8 := n0_; have HI334 := n1_; have HB := n2_; have HI328 := n3_; clear n0_ n1_ n2_ n3_; (try clear hb); (try clear hb2); (try clear hk); (try clear hi)) | (go_at_call 25; (with_reducible refine (deckleref04_Cursor_At.calls g334 t411 t412 t413 t414 t415 t422 t423 t424 t425 t426 t427 w _ ?side1 ?side2 A56.out).mono ?_); (case side1 => repeat (first | (with_reducible first | exact HI334.out | apply IsS55.alloc | apply IsS55.drewN | apply IsS55.drew | apply IsS55.set_0 | apply IsS55.set_1 | apply IsS55.set_2 | apply IsS55.set_3 | apply IsS55.set_4) | exact HI334.out)); (case side2 => repeat (first | (with_reducible first | exact HB.out | apply below_alloc | apply pw_below_drewN | apply below_drew1 | refine below_set ?_ (IsS35.ge HI328.out) | refine below_set ?_ (IsS55.ge HI334.out)) | exact HB.out)); rintro e w67 ⟨rfl, hi, hb, hk⟩; have n0_ := Aside0.mk (Kd.R_mono (Kd.R_keep (IsS55.apart (show IsS55 w _ g334 t411 t412 t413 t414 t415 from by repeat (first | (with_reducible first | exact HI334.out | apply IsS55.alloc | apply IsS55.drewN | apply IsS55.drew | apply IsS55.set_0 | apply IsS55.set_1 | apply IsS55.set_2 | apply IsS55.set_3 | apply IsS55.set_4) | exact HI334.out)) (by (with_reducible repeat (first | apply Kd.R_alloc | apply Kd.R_drewN | apply Kd.R_drew)); exact HO_8.out) (by decide)) hk (fun _ h => h.2)) (fun _ h => h.1)); have n1_ := Aside0.mk ((IsS35.keepS (show IsS35 w _ g328 t417 t418 t419 t420 t421 from by repeat (first | (with_reducible first | exact HI328.out | apply IsS35.alloc | apply IsS35.drewN | apply IsS35.drew | apply IsS35.set_0 | apply IsS35.set_1 | apply IsS35.set_2 | apply IsS35.set_3 | apply IsS35.set_4) | exact HI328.out)) hk NB328_334.out (IsS55.cells (show IsS55 w _ g334 t411 t412 t413 t414 t415 from by repeat (first | (with_reducible first | exact HI334.out | apply IsS55.alloc | apply IsS55.drewN | apply IsS55.drew | apply IsS55.set_0 | apply IsS55.set_1 | apply IsS55.set_2 | apply IsS55.set_3 | apply IsS55.set_4) | exact HI334.out))))); have n2_ := Aside0.mk (hb); have n3_ := Aside0.mk (hi); clear HO_8; clear HI328; clear HB; clear HI334; have HO_8 := n0_; have HI328 := n1_; have HB := n2_; have HI334 := n3_; clear n0_ n1_ n2_ n3_; (try clear hb); (try clear hb2); (try clear hk); (try clear hi)) | (go_at_call 13; (with_reducible refine (cursor_place_Fault.calls g328 t417 t418 t419 t420 t421 t428 t429 t430 t431 t432 t433 t434 t435 w _ ?side1 ?side2 A58.out).mono ?_); (case side1 => repeat (first | (with_reducible first | exact HI328.out | apply IsS35.alloc | apply IsS35.drewN | apply IsS35.drew | apply IsS35.set_0 | apply IsS35.set_1 | apply IsS35.set_2 | apply IsS35.set_3 | apply IsS35.set_4) | exact HI328.out)); (case side2 => repeat (first | (with_reducible first | exact HB.out | apply below_alloc | apply pw_below_drewN | apply below_drew1 | refine below_set ?_ (IsS35.ge HI328.out) | refine below_set ?_ (IsS55.ge HI334.out)) | exact HB.out)); rintro e w68 ⟨rfl, hi, hb, hk⟩; have n0_ := Aside0.mk (Kd.R_mono (Kd.R_keep (IsS35.apart (show IsS35 w _ g328 t417 t418 t419 t420 t421 from by repeat (first | (with_reducible first | exact HI328.out | apply IsS35.alloc | apply IsS35.drewN | apply IsS35.drew | apply IsS35.set_0 | apply IsS35.set_1 | apply IsS35.set_2 | apply IsS35.set_3 | apply IsS35.set_4) | exact HI328.out)) (by (with_reducible repeat (first | apply Kd.R_alloc | apply Kd.R_drewN | apply Kd.R_drew)); exact HO_8.out) (by decide)) hk (fun _ h => h.2)) (fun _ h => h.1)); have n1_ := Aside0.mk ((IsS55.keepS (show IsS55 w _ g334 t423 t424 t425 t426 t427 from by repeat (first | (with_reducible first | exact HI334.out | apply IsS55.alloc | apply IsS55.drewN | apply IsS55.drew | apply IsS55.set_0 | apply IsS55.set_1 | apply IsS55.set_2 | apply IsS55.set_3 | apply IsS55.set_4) | exact HI334.out)) hk NB334_328.out (IsS35.cells (show IsS35 w _ g328 t417 t418 t419 t420 t421 from by repeat (first | (with_reducible first | exact HI328.out | apply IsS35.alloc | apply IsS35.drewN | apply IsS35.drew | apply IsS35.set_0 | apply IsS35.set_1 | apply IsS35.set_2 | apply IsS35.set_3 | apply IsS35.set_4) | exact HI328.out))))); have n2_ := Aside0.mk (hb); have n3_ := Aside0.mk (hi); clear HO_8; clear HI334; clear HB; clear HI328; have HO_8 := n0_; have HI334 := n1_; have HB := n2_; have HI328 := n3_; clear n0_ n1_ n2_ n3_; (try clear hb); (try clear hb2); (try clear hk); (try clear hi)) | (go_at_call 26; (with_reducible refine (deckleref04_Cursor_Fault.calls g334 t423 t424 t425 t426 t427 t436 t437 t438 t439 t440 t441 t442 t443 w _ ?side1 ?side2 A59.out).mono ?_); (case side1 => repeat (first | (with_reducible first | exact HI334.out | apply IsS55.alloc | apply IsS55.drewN | apply IsS55.drew | apply IsS55.set_0 | apply IsS55.set_1 | apply IsS55.set_2 | apply IsS55.set_3 | apply IsS55.set_4) | exact HI334.out)); (case side2 => repeat (first | (with_reducible first | exact HB.out | apply below_alloc | apply pw_below_drewN | apply below_drew1 | refine below_set ?_ (IsS35.ge HI328.out) | refine below_set ?_ (IsS55.ge HI334.out)) | exact HB.out)); rintro e w69 ⟨rfl, hi, hb, hk⟩; have n0_ := Aside0.mk (Kd.R_mono (Kd.R_keep (IsS55.apart (show IsS55 w _ g334 t423 t424 t425 t426 t427 from by repeat (first | (with_reducible first | exact HI334.out | apply IsS55.alloc | apply IsS55.drewN | apply IsS55.drew | apply IsS55.set_0 | apply IsS55.set_1 | apply IsS55.set_2 | apply IsS55.set_3 | apply IsS55.set_4) | exact HI334.out)) (by (with_reducible repeat (first | apply Kd.R_alloc | apply Kd.R_drewN | apply Kd.R_drew)); exact HO_8.out) (by decide)) hk (fun _ h => h.2)) (fun _ h => h.1)); have n1_ := Aside0.mk ((IsS35.keepS (show IsS35 w _ g328 t431 t432 t433 t434 t435 from by repeat (first | (with_reducible first | exact HI328.out | apply IsS35.alloc | apply IsS35.drewN | apply IsS35.drew | apply IsS35.set_0 | apply IsS35.set_1 | apply IsS35.set_2 | apply IsS35.set_3 | apply IsS35.set_4) | exact HI328.out)) hk NB328_334.out (IsS55.cells (show IsS55 w _ g334 t423 t424 t425 t426 t427 from by repeat (first | (with_reducible first | exact HI334.out | apply IsS55.alloc | apply IsS55.drewN | apply IsS55.drew | apply IsS55.set_0 | apply IsS55.set_1 | apply IsS55.set_2 | apply IsS55.set_3 | apply IsS55.set_4) | exact HI334.out))))); have n2_ := Aside0.mk (hb); have n3_ := Aside0.mk (hi); clear HO_8; clear HI328; clear HB; clear HI334; have HO_8 := n0_; have HI328 := n1_; have HB := n2_; have HI334 := n3_; clear n0_ n1_ n2_ n3_; (try clear hb); (try clear hb2); (try clear hk); (try clear hi)) | (go_at_call 27; (with_reducible refine (cursor_Cursor_End.calls g328 t431 t432 t433 t434 t435 t444 t445 t446 t447 t448 t449 t450 t451 w _ ?side1 ?side2 A61.out).mono ?_); (case side1 => repeat (first | (with_reducible first | exact HI328.out | apply IsS35.alloc | apply IsS35.drewN | apply IsS35.drew | apply IsS35.set_0 | apply IsS35.set_1 | apply IsS35.set_2 | apply IsS35.set_3 | apply IsS35.set_4) | exact HI328.out)); (case side2 => repeat (first | (with_reducible first | exact HB.out | apply below_alloc | apply pw_below_drewN | apply below_drew1 | refine below_set ?_ (IsS35.ge HI328.out) | refine below_set ?_ (IsS55.ge HI334.out)) | exact HB.out)); rintro e w70 ⟨rfl, hi, hb, hk⟩; have n0_ := Aside0.mk (Kd.R_mono (Kd.R_keep (IsS35.apart (show IsS35 w _ g328 t431 t432 t433 t434 t435 from by repeat (first | (with_reducible first | exact HI328.out | apply IsS35.alloc | apply IsS35.drewN | apply IsS35.drew | apply IsS35.set_0 | apply IsS35.set_1 | apply IsS35.set_2 | apply IsS35.set_3 | apply IsS35.set_4) | exact HI328.out)) (by (with_reducible repeat (first | apply Kd.R_alloc | apply Kd.R_drewN | apply Kd.R_drew)); exact HO_8.out) (by decide)) hk (fun _ h => h.2)) (fun _ h => h.1)); have n1_ := Aside0.mk ((IsS55.keepS (show IsS55 w _ g334 t439 t440 t441 t442 t443 from by repeat (first | (with_reducible first | exact HI334.out | apply IsS55.alloc | apply IsS55.drewN | apply IsS55.drew | apply IsS55.set_0 | apply IsS55.set_1 | apply IsS55.set_2 | apply IsS55.set_3 | apply IsS55.set_4) | exact HI334.out)) hk NB334_328.out (IsS35.cells (show IsS35 w _ g328 t431 t432 t433 t434 t435 from by repeat (first | (with_reducible first | exact HI328.out | apply IsS35.alloc | apply IsS35.drewN | apply IsS35.drew | apply IsS35.set_0 | apply IsS35.set_1 | apply IsS35.set_2 | apply IsS35.set_3 | apply IsS35.set_4) | exact HI328.out))))); have n2_ := Aside0.mk (hb); have n3_ := Aside0.mk (hi); clear HO_8; clear HI334; clear HB; clear HI328; have HO_8 := n0_; have HI334 := n1_; have HB := n2_; have HI328 := n3_; clear n0_ n1_ n2_ n3_; (try clear hb); (try clear hb2); (try clear hk); (try clear hi)) | (go_at_call 28; (with_reducible refine (deckleref04_Cursor_End.calls g334 t439 t440 t441 t442 t443 t452 t453 t454 t455 t456 t457 t458 t459 w _ ?side1 ?side2 A62.out).mono ?_); (case side1 => repeat (first | (with_reducible first | exact HI334.out | apply IsS55.alloc | apply IsS55.drewN | apply IsS55.drew | apply IsS55.set_0 | apply IsS55.set_1 | apply IsS55.set_2 | apply IsS55.set_3 | apply IsS55.set_4) | exact HI334.out)); (case side2 => repeat (first | (with_reducible first | exact HB.out | apply below_alloc | apply pw_below_drewN | apply below_drew1 | refine below_set ?_ (IsS35.ge HI328.out) | refine below_set ?_ (IsS55.ge HI334.out)) | exact HB.out)); rintro e w71 ⟨rfl, hi, hb, hk⟩; have n0_ := Aside0.mk (Kd.R_mono (Kd.R_keep (IsS55.apart (show IsS55 w _ g334 t439 t440 t441 t442 t443 from by repeat (first | (with_reducible first | exact HI334.out | apply IsS55.alloc | apply IsS55.drewN | apply IsS55.drew | apply IsS55.set_0 | apply IsS55.set_1 | apply IsS55.set_2 | apply IsS55.set_3 | apply IsS55.set_4) | exact HI334.out)) (by (with_reducible repeat (first | apply Kd.R_alloc | apply Kd.R_drewN | apply Kd.R_drew)); exact HO_8.out) (by decide)) hk (fun _ h => h.2)) (fun _ h => h.1)); have n1_ := Aside0.mk ((IsS35.keepS (show IsS35 w _ g328 t447 t448 t449 t450 t451 from by repeat (first | (with_reducible first | exact HI328.out | apply IsS35.alloc | apply IsS35.drewN | apply IsS35.drew | apply IsS35.set_0 | apply IsS35.set_1 | apply IsS35.set_2 | apply IsS35.set_3 | apply IsS35.set_4) | exact HI328.out)) hk NB328_334.out (IsS55.cells (show IsS55 w _ g334 t439 t440 t441 t442 t443 from by repeat (first | (with_reducible first | exact HI334.out | apply IsS55.alloc | apply IsS55.drewN | apply IsS55.drew | apply IsS55.set_0 | apply IsS55.set_1 | apply IsS55.set_2 | apply IsS55.set_3 | apply IsS55.set_4) | exact HI334.out))))); have n2_ := Aside0.mk (hb); have n3_ := Aside0.mk (hi); clear HO_8; clear HI328; clear HB; clear HI334; have HO_8 := n0_; have HI328 := n1_; have HB := n2_; have HI334 := n3_; clear n0_ n1_ n2_ n3_; (try clear hb); (try clear hb2); (try clear hk); (try clear hi)))
                                go_roundg kj19
                                case measure => have := HJ4.out; have := HK2.out; have := HJ19.out; omega
                                case rel => exact ⟨(wrap64 (x11_2 + 1)), (t447), (t448), (t449), (t450), (t451), (t455), (t456), (t457), (t458), (t459), (by first | rfl | (simp; done) | (simp [*]; done)), H', ⟨by have := HJ4.out; have := HK2.out; have := HJ19.out; omega⟩, ⟨by (with_reducible repeat (first | apply Kd.R_alloc | apply Kd.R_drewN | apply Kd.R_drew)); exact HO_8.out⟩, ⟨by repeat (first | (with_reducible first | exact HI328.out | apply IsS35.alloc | apply IsS35.drewN | apply IsS35.drew | apply IsS35.set_0 | apply IsS35.set_1 | apply IsS35.set_2 | apply IsS35.set_3 | apply IsS35.set_4) | exact HI328.out)⟩, ⟨by repeat (first | (with_reducible first | exact HI334.out | apply IsS55.alloc | apply IsS55.drewN | apply IsS55.drew | apply IsS55.set_0 | apply IsS55.set_1 | apply IsS55.set_2 | apply IsS55.set_3 | apply IsS55.set_4) | exact HI334.out)⟩, ⟨by repeat (first | (with_reducible first | exact HB.out | apply below_alloc | apply pw_below_drewN | apply below_drew1 | refine below_set ?_ (IsS35.ge HI328.out) | refine below_set ?_ (IsS55.ge HI334.out)) | exact HB.out)⟩⟩
                          · rw [if_neg c57] at H
                            exact absurd H (by simp)
                        · rw [if_neg c54] at H
                          exact absurd H (by simp)
                      · replace c51 := Bool.eq_false_iff.mpr c51
                        subst c51
                        have H1 : (none) = some r := by rw [if_neg (show ¬ (false = true) by decide)] at H; exact H
                        clear H
                        have H := H1
                        clear H1
                        exact absurd H (by simp)
                · rw [if_neg c19] at H
                  exact absurd H (by simp)
              · rw [if_neg c18] at H
                have c18b0 : decide (x11_2 < (l2.length : Int)) = false := decide_eq_false c18
                clear c18
                by_cases c72 : t316 = true
                · subst c72
                  have H1 : (some ((strOfNums y320).toList == (strOfNums l0).toList)) = some r := by rw [if_pos rfl] at H; exact H
                  clear H
                  have H := H1
                  clear H1
                  obtain rfl := Option.some.inj H
                  have hcv73 := own_string (P := Try.prog) Try.underlying22 Try.underlying5 Try.underlying9 (Kd.own_of_R HO_8.out)
                  have hcv74 := Kd.C_string (P := Try.prog) (A := A0) (c := c0) Try.underlying22 Try.underlying5 Try.underlying9 (Kd.C_below HR0.out HB.out)
                  go_wp2
                  go_ret
                  exact ⟨by first | rfl | (simp [errW_none, errW_some] <;> rfl) | (simp [*, errW_none, errW_some] <;> rfl), by repeat (first | (with_reducible first | exact HB.out | apply below_alloc | apply pw_below_drewN | apply below_drew1 | refine below_set ?_ (IsS35.ge HI328.out) | refine below_set ?_ (IsS55.ge HI334.out)) | exact HB.out)⟩
                · replace c72 := Bool.eq_false_iff.mpr c72
                  subst c72
                  have H1 : (none) = some r := by rw [if_neg (show ¬ (false = true) by decide)] at H; exact H
                  clear H
                  have H := H1
                  clear H1
                  exact absurd H (by simp)
        · rw [if_neg c9] at H
          exact absurd H (by simp)

end Go.Proofs.Ytgegbiknohjpgaa.HCursorReads
