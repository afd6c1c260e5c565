-- Written by the session's program hy.py.
import Derived.Test.YtgegbiknohjpgaaHCursorPlacesx0
import Derived.Test.YtgegbiknohjpgaaHCursorPlacesx1
import Derived.Test.YtgegbiknohjpgaaHCursorPlacesx2
import Derived.Test.YtgegbiknohjpgaaHCursorPlacesx3
import Derived.Test.YtgegbiknohjpgaaHCursorPlacesx4
namespace Go.Proofs.Ytgegbiknohjpgaa.HCursorPlaces
open Go.RowKit Go.Proofs.YtgegbiknohjpgaaW.PrintWords Go.Proofs.YtgegbiknohjpgaaW.PrintLast Go.Proofs.YtgegbiknohjpgaaW.PrintMore
attribute [local go_sem] max2_int min2_int max_two min_two max_three min_three max_four min_four   -- for this text's walks alone
set_option linter.unusedVariables false
set_option linter.unusedSimpArgs false

attribute [local go_sem high] eqA31
/-! ### decklelaw04_CursorPlaces: function 6 -/
mutual
def decklelaw04_CursorPlaces.j0 : Nat → List Int → Int → List (S42) → Bool → Bool → Option (Bool)
  | 0, _, _, _, _, _ => none
  | k + 1, x0, x1, x2, x7, x30 => if x30 = true then (some x7) else ((cursor_Open.f x0 0).bind fun bt250 => ((cursor_Open.f x0 x1).bind fun bt256 => (decklelaw04_CursorPlaces.l0 k x1 x2 x7 0 bt250.1 bt250.2.1 bt250.2.2.1 bt250.2.2.2.1 bt250.2.2.2.2 bt256.1 bt256.2.1 bt256.2.2.1 bt256.2.2.2.1 bt256.2.2.2.2)))
def decklelaw04_CursorPlaces.l0 : Nat → Int → List (S42) → Bool → Int → Int → Int → Int → Int → (List Int) → Int → Int → Int → Int → (List Int) → Option (Bool)
  | 0, _, _, _, _, _, _, _, _, _, _, _, _, _, _ => none
  | k + 1, x1, x2, x7, x10, x256000, x256001, x256002, x256003, x256004, x262000, x262001, x262002, x262003, x262004 => if x10 < (x2.length : Int) then (if 0 ≤ x10 then (if ((rd_T42 x2 x10).f0) = 0 then ((cursor_Cursor_Byte.f x256000 x256001 x256002 x256003 x256004).bind fun bt263 => ((cursor_Cursor_Byte.f x262000 x262001 x262002 x262003 x262004).bind fun bt269 => (decklelaw04_CursorPlaces.j2 k x1 x2 x7 x10 (bt263.1 == bt269.1) bt263.2.1 bt263.2.2.1 bt263.2.2.2.1 bt263.2.2.2.2.1 bt263.2.2.2.2.2 bt269.2.1 bt269.2.2.1 bt269.2.2.2.1 bt269.2.2.2.2.1 bt269.2.2.2.2.2))) else (if ((rd_T42 x2 x10).f0) = 1 then ((cursor_Cursor_Num.f k x256000 x256001 x256002 x256003 x256004 ((rd_T42 x2 x10).f1)).bind fun bt276 => ((cursor_Cursor_Num.f k x262000 x262001 x262002 x262003 x262004 ((rd_T42 x2 x10).f1)).bind fun bt283 => (decklelaw04_CursorPlaces.j2 k x1 x2 x7 x10 (bt276.1 == bt283.1) bt276.2.1 bt276.2.2.1 bt276.2.2.2.1 bt276.2.2.2.2.1 bt276.2.2.2.2.2 bt283.2.1 bt283.2.2.1 bt283.2.2.2.1 bt283.2.2.2.2.1 bt283.2.2.2.2.2))) else (if ((rd_T42 x2 x10).f0) = 2 then ((cursor_Cursor_Int.f k x256000 x256001 x256002 x256003 x256004).bind fun bt289 => ((cursor_Cursor_Int.f k x262000 x262001 x262002 x262003 x262004).bind fun bt295 => (decklelaw04_CursorPlaces.j2 k x1 x2 x7 x10 (bt289.1 == bt295.1) bt289.2.1 bt289.2.2.1 bt289.2.2.2.1 bt289.2.2.2.2.1 bt289.2.2.2.2.2 bt295.2.1 bt295.2.2.1 bt295.2.2.2.1 bt295.2.2.2.2.1 bt295.2.2.2.2.2))) else (if ((rd_T42 x2 x10).f0) = 3 then ((cursor_Cursor_Take.f x256000 x256001 x256002 x256003 x256004 ((rd_T42 x2 x10).f1)).bind fun bt302 => ((cursor_Cursor_Take.f x262000 x262001 x262002 x262003 x262004 ((rd_T42 x2 x10).f1)).bind fun bt311 => (decklelaw04_CursorPlaces.j2 k x1 x2 x7 x10 ((strOfNums bt302.1).toList == (strOfNums bt311.1).toList) bt302.2.1 bt302.2.2.1 bt302.2.2.2.1 bt302.2.2.2.2.1 bt302.2.2.2.2.2 bt311.2.1 bt311.2.2.1 bt311.2.2.2.1 bt311.2.2.2.2.1 bt311.2.2.2.2.2))) else (decklelaw04_CursorPlaces.j2 k x1 x2 x7 x10 true x256000 x256001 x256002 x256003 x256004 x262000 x262001 x262002 x262003 x262004))))) else (none)) else (some x7)
def decklelaw04_CursorPlaces.j2 : Nat → Int → List (S42) → Bool → Int → Bool → Int → Int → Int → Int → (List Int) → Int → Int → Int → Int → (List Int) → Option (Bool)
  | 0, _, _, _, _, _, _, _, _, _, _, _, _, _, _, _ => none
  | k + 1, x1, x2, x7, x10, x11, x256000, x256001, x256002, x256003, x256004, x262000, x262001, x262002, x262003, x262004 => (cursor_place_Fault.f x256000 x256001 x256002 x256003 x256004).bind fun bt319 => ((cursor_place_Fault.f x262000 x262001 x262002 x262003 x262004).bind fun bt328 => (if bt319.1 = 0 then (decklelaw04_CursorPlaces.j3 k x1 x2 x7 x10 x11 bt319.2.2.2.1 bt319.2.2.2.2.1 bt319.2.2.2.2.2.1 bt319.2.2.2.2.2.2.1 bt319.2.2.2.2.2.2.2 bt328.2.2.2.1 bt328.2.2.2.2.1 bt328.2.2.2.2.2.1 bt328.2.2.2.2.2.2.1 bt328.2.2.2.2.2.2.2 bt319.1 bt319.2.1 bt319.2.2.1 bt328.1 bt328.2.1 bt328.2.2.1) else (decklelaw04_CursorPlaces.j3 k x1 x2 x7 x10 x11 bt319.2.2.2.1 bt319.2.2.2.2.1 bt319.2.2.2.2.2.1 bt319.2.2.2.2.2.2.1 bt319.2.2.2.2.2.2.2 bt328.2.2.2.1 bt328.2.2.2.2.1 bt328.2.2.2.2.2.1 bt328.2.2.2.2.2.2.1 bt328.2.2.2.2.2.2.2 bt319.1 bt319.2.1 (wrap64 (bt319.2.2.1 + x1)) bt328.1 bt328.2.1 bt328.2.2.1)))
def decklelaw04_CursorPlaces.j3 : Nat → Int → List (S42) → Bool → Int → Bool → Int → Int → Int → Int → (List Int) → Int → Int → Int → Int → (List Int) → Int → Int → Int → Int → Int → Int → Option (Bool)
  | 0, _, _, _, _, _, _, _, _, _, _, _, _, _, _, _, _, _, _, _, _, _ => none
  | k + 1, x1, x2, x7, x10, x11, x256000, x256001, x256002, x256003, x256004, x262000, x262001, x262002, x262003, x262004, x328000, x328001, x328002, x337000, x337001, x337002 => if x11 = true then (if (!(x328000 == x337000) || (!(x328001 == x337001) || (!(x328002 == x337002)))) = true then (none) else ((cursor_Cursor_Left.f x256000 x256001 x256002 x256003 x256004).bind fun bt337 => ((cursor_Cursor_Left.f x262000 x262001 x262002 x262003 x262004).bind fun bt343 => (if bt337.1 = bt343.1 then ((cursor_place_At.f bt337.2.1 bt337.2.2.1 bt337.2.2.2.1 bt337.2.2.2.2.1 bt337.2.2.2.2.2).bind fun bt349 => ((cursor_place_At.f bt343.2.1 bt343.2.2.1 bt343.2.2.2.1 bt343.2.2.2.2.1 bt343.2.2.2.2.2).bind fun bt355 => (if (wrap64 (bt349.1 + x1)) = bt355.1 then (decklelaw04_CursorPlaces.l0 k x1 x2 x7 (wrap64 (x10 + 1)) bt349.2.1 bt349.2.2.1 bt349.2.2.2.1 bt349.2.2.2.2.1 bt349.2.2.2.2.2 bt355.2.1 bt355.2.2.1 bt355.2.2.2.1 bt355.2.2.2.2.1 bt355.2.2.2.2.2) else (none)))) else (none))))) else (none)
end
def decklelaw04_CursorPlaces.f (k : Nat) (l0 : List Int) (a1 : Int) (l2 : List (S42)) : Option (Bool) := (decklelaw04_small.f k).bind fun t249 => (if (l0.length : Int) > 500 then (decklelaw04_CursorPlaces.j0 k l0 a1 l2 t249 true) else (if (l2.length : Int) > 100 then (decklelaw04_CursorPlaces.j0 k l0 a1 l2 t249 true) else (if a1 < 0 then (decklelaw04_CursorPlaces.j0 k l0 a1 l2 t249 true) else (decklelaw04_CursorPlaces.j0 k l0 a1 l2 t249 (decide (a1 > 549755813888))))))
theorem decklelaw04_CursorPlaces.mono_l : ∀ k, (∀ y0 y1 y2 y3 y4, LeO (decklelaw04_CursorPlaces.j0 k y0 y1 y2 y3 y4) (decklelaw04_CursorPlaces.j0 (k + 1) y0 y1 y2 y3 y4)) ∧ (∀ y0 y1 y2 y3 y4 y5 y6 y7 y8 y9 y10 y11 y12 y13, LeO (decklelaw04_CursorPlaces.l0 k y0 y1 y2 y3 y4 y5 y6 y7 y8 y9 y10 y11 y12 y13) (decklelaw04_CursorPlaces.l0 (k + 1) y0 y1 y2 y3 y4 y5 y6 y7 y8 y9 y10 y11 y12 y13)) ∧ (∀ y0 y1 y2 y3 y4 y5 y6 y7 y8 y9 y10 y11 y12 y13 y14, LeO (decklelaw04_CursorPlaces.j2 k y0 y1 y2 y3 y4 y5 y6 y7 y8 y9 y10 y11 y12 y13 y14) (decklelaw04_CursorPlaces.j2 (k + 1) y0 y1 y2 y3 y4 y5 y6 y7 y8 y9 y10 y11 y12 y13 y14)) ∧ (∀ y0 y1 y2 y3 y4 y5 y6 y7 y8 y9 y10 y11 y12 y13 y14 y15 y16 y17 y18 y19 y20, LeO (decklelaw04_CursorPlaces.j3 k y0 y1 y2 y3 y4 y5 y6 y7 y8 y9 y10 y11 y12 y13 y14 y15 y16 y17 y18 y19 y20) (decklelaw04_CursorPlaces.j3 (k + 1) y0 y1 y2 y3 y4 y5 y6 y7 y8 y9 y10 y11 y12 y13 y14 y15 y16 y17 y18 y19 y20))
  | 0 => ⟨fun _ _ _ _ _ r h => by simp [decklelaw04_CursorPlaces.j0] at h, fun _ _ _ _ _ _ _ _ _ _ _ _ _ _ r h => by simp [decklelaw04_CursorPlaces.l0] at h, fun _ _ _ _ _ _ _ _ _ _ _ _ _ _ _ r h => by simp [decklelaw04_CursorPlaces.j2] at h, fun _ _ _ _ _ _ _ _ _ _ _ _ _ _ _ _ _ _ _ _ _ r h => by simp [decklelaw04_CursorPlaces.j3] at h⟩
  | k + 1 => by
    obtain ⟨ih0, ih1, ih2, ih3⟩ := decklelaw04_CursorPlaces.mono_l k
    refine ⟨?_, ?_, ?_, ?_⟩
    · intro y0 y1 y2 y3 y4
      unfold decklelaw04_CursorPlaces.j0
      repeat' first
      | (with_reducible exact ih0 _ _ _ _ _)
      | (with_reducible exact ih1 _ _ _ _ _ _ _ _ _ _ _ _ _ _)
      | (with_reducible exact ih2 _ _ _ _ _ _ _ _ _ _ _ _ _ _ _)
      | (with_reducible exact ih3 _ _ _ _ _ _ _ _ _ _ _ _ _ _ _ _ _ _ _ _ _)
      | (with_reducible exact cursor_Cursor_Int.mono _ _ _ _ _ _)
      | (with_reducible exact cursor_Cursor_Num.mono _ _ _ _ _ _ _)
      | (with_reducible exact decklelaw04_small.mono _)
      | (with_reducible exact LeO.refl _)
      | (with_reducible exact LeO.none _)
      | (with_reducible refine LeO.ite ?_ ?_)
      | (with_reducible refine LeO.bind ?_ (fun _ => ?_))
      | exact ih0 _ _ _ _ _
      | exact ih1 _ _ _ _ _ _ _ _ _ _ _ _ _ _
      | exact ih2 _ _ _ _ _ _ _ _ _ _ _ _ _ _ _
      | exact ih3 _ _ _ _ _ _ _ _ _ _ _ _ _ _ _ _ _ _ _ _ _
      | exact cursor_Cursor_Int.mono _ _ _ _ _ _
      | exact cursor_Cursor_Num.mono _ _ _ _ _ _ _
      | exact decklelaw04_small.mono _
      | exact LeO.none _
      | refine LeO.ite ?_ ?_
      | refine LeO.bind ?_ (fun _ => ?_)
    · intro y0 y1 y2 y3 y4 y5 y6 y7 y8 y9 y10 y11 y12 y13
      unfold decklelaw04_CursorPlaces.l0
      repeat' first
      | (with_reducible exact ih0 _ _ _ _ _)
      | (with_reducible exact ih1 _ _ _ _ _ _ _ _ _ _ _ _ _ _)
      | (with_reducible exact ih2 _ _ _ _ _ _ _ _ _ _ _ _ _ _ _)
      | (with_reducible exact ih3 _ _ _ _ _ _ _ _ _ _ _ _ _ _ _ _ _ _ _ _ _)
      | (with_reducible exact cursor_Cursor_Int.mono _ _ _ _ _ _)
      | (with_reducible exact cursor_Cursor_Num.mono _ _ _ _ _ _ _)
      | (with_reducible exact decklelaw04_small.mono _)
      | (with_reducible exact LeO.refl _)
      | (with_reducible exact LeO.none _)
      | (with_reducible refine LeO.ite ?_ ?_)
      | (with_reducible refine LeO.bind ?_ (fun _ => ?_))
      | exact ih0 _ _ _ _ _
      | exact ih1 _ _ _ _ _ _ _ _ _ _ _ _ _ _
      | exact ih2 _ _ _ _ _ _ _ _ _ _ _ _ _ _ _
      | exact ih3 _ _ _ _ _ _ _ _ _ _ _ _ _ _ _ _ _ _ _ _ _
      | exact cursor_Cursor_Int.mono _ _ _ _ _ _
      | exact cursor_Cursor_Num.mono _ _ _ _ _ _ _
      | exact decklelaw04_small.mono _
      | exact LeO.none _
      | refine LeO.ite ?_ ?_
      | refine LeO.bind ?_ (fun _ => ?_)
    · intro y0 y1 y2 y3 y4 y5 y6 y7 y8 y9 y10 y11 y12 y13 y14
      unfold decklelaw04_CursorPlaces.j2
      repeat' first
      | (with_reducible exact ih0 _ _ _ _ _)
      | (with_reducible exact ih1 _ _ _ _ _ _ _ _ _ _ _ _ _ _)
      | (with_reducible exact ih2 _ _ _ _ _ _ _ _ _ _ _ _ _ _ _)
      | (with_reducible exact ih3 _ _ _ _ _ _ _ _ _ _ _ _ _ _ _ _ _ _ _ _ _)
      | (with_reducible exact cursor_Cursor_Int.mono _ _ _ _ _ _)
      | (with_reducible exact cursor_Cursor_Num.mono _ _ _ _ _ _ _)
      | (with_reducible exact decklelaw04_small.mono _)
      | (with_reducible exact LeO.refl _)
      | (with_reducible exact LeO.none _)
      | (with_reducible refine LeO.ite ?_ ?_)
      | (with_reducible refine LeO.bind ?_ (fun _ => ?_))
      | exact ih0 _ _ _ _ _
      | exact ih1 _ _ _ _ _ _ _ _ _ _ _ _ _ _
      | exact ih2 _ _ _ _ _ _ _ _ _ _ _ _ _ _ _
      | exact ih3 _ _ _ _ _ _ _ _ _ _ _ _ _ _ _ _ _ _ _ _ _
      | exact cursor_Cursor_Int.mono _ _ _ _ _ _
      | exact cursor_Cursor_Num.mono _ _ _ _ _ _ _
      | exact decklelaw04_small.mono _
      | exact LeO.none _
      | refine LeO.ite ?_ ?_
      | refine LeO.bind ?_ (fun _ => ?_)
    · intro y0 y1 y2 y3 y4 y5 y6 y7 y8 y9 y10 y11 y12 y13 y14 y15 y16 y17 y18 y19 y20
      unfold decklelaw04_CursorPlaces.j3
      repeat' first
      | (with_reducible exact ih0 _ _ _ _ _)
      | (with_reducible exact ih1 _ _ _ _ _ _ _ _ _ _ _ _ _ _)
      | (with_reducible exact ih2 _ _ _ _ _ _ _ _ _ _ _ _ _ _ _)
      | (with_reducible exact ih3 _ _ _ _ _ _ _ _ _ _ _ _ _ _ _ _ _ _ _ _ _)
      | (with_reducible exact cursor_Cursor_Int.mono _ _ _ _ _ _)
      | (with_reducible exact cursor_Cursor_Num.mono _ _ _ _ _ _ _)
      | (with_reducible exact decklelaw04_small.mono _)
      | (with_reducible exact LeO.refl _)
      | (with_reducible exact LeO.none _)
      | (with_reducible refine LeO.ite ?_ ?_)
      | (with_reducible refine LeO.bind ?_ (fun _ => ?_))
      | exact ih0 _ _ _ _ _
      | exact ih1 _ _ _ _ _ _ _ _ _ _ _ _ _ _
      | exact ih2 _ _ _ _ _ _ _ _ _ _ _ _ _ _ _
      | exact ih3 _ _ _ _ _ _ _ _ _ _ _ _ _ _ _ _ _ _ _ _ _
      | exact cursor_Cursor_Int.mono _ _ _ _ _ _
      | exact cursor_Cursor_Num.mono _ _ _ _ _ _ _
      | exact decklelaw04_small.mono _
      | exact LeO.none _
      | refine LeO.ite ?_ ?_
      | refine LeO.bind ?_ (fun _ => ?_)
theorem decklelaw04_CursorPlaces.mono : ∀ a0 a1 a2 k, LeO (decklelaw04_CursorPlaces.f k a0 a1 a2) (decklelaw04_CursorPlaces.f (k + 1) a0 a1 a2) := by
  intro a0 a1 a2 k
  obtain ⟨ih0, ih1, ih2, ih3⟩ := decklelaw04_CursorPlaces.mono_l k
  unfold decklelaw04_CursorPlaces.f
  repeat' first
      | (with_reducible exact ih0 _ _ _ _ _)
      | (with_reducible exact ih1 _ _ _ _ _ _ _ _ _ _ _ _ _ _)
      | (with_reducible exact ih2 _ _ _ _ _ _ _ _ _ _ _ _ _ _ _)
      | (with_reducible exact ih3 _ _ _ _ _ _ _ _ _ _ _ _ _ _ _ _ _ _ _ _ _)
      | (with_reducible exact cursor_Cursor_Int.mono _ _ _ _ _ _)
      | (with_reducible exact cursor_Cursor_Num.mono _ _ _ _ _ _ _)
      | (with_reducible exact decklelaw04_small.mono _)
      | (with_reducible exact LeO.refl _)
      | (with_reducible exact LeO.none _)
      | (with_reducible refine LeO.ite ?_ ?_)
      | (with_reducible refine LeO.bind ?_ (fun _ => ?_))
      | exact ih0 _ _ _ _ _
      | exact ih1 _ _ _ _ _ _ _ _ _ _ _ _ _ _
      | exact ih2 _ _ _ _ _ _ _ _ _ _ _ _ _ _ _
      | exact ih3 _ _ _ _ _ _ _ _ _ _ _ _ _ _ _ _ _ _ _ _ _
      | exact cursor_Cursor_Int.mono _ _ _ _ _ _
      | exact cursor_Cursor_Num.mono _ _ _ _ _ _ _
      | exact decklelaw04_small.mono _
      | exact LeO.none _
      | refine LeO.ite ?_ ?_
      | refine LeO.bind ?_ (fun _ => ?_)
def decklelaw04_CursorPlaces.T16 : Bool × List (List Nat × List Nat) := (true, [([], []), ([], []), ([], []), ([1, 2], [1, 2]), ([3], [3]), ([4], [4]), ([0, 5], [0, 5]), ([], []), ([], []), ([], []), ([8, 9], [8, 9]), ([10], [10]), ([11], [11]), ([7, 12, 6], [7, 12]), ([6, 13], [6, 13]), ([14, 13, 0, 1, 2, 3, 4, 5, 6, 7, 8, 9, 10, 11, 12, 13, 14], [14])])
def decklelaw04_CursorPlaces.B16 : List Nat := [0, 0, 0, 6, 14, 30, 63, 0, 0, 0, 768, 1792, 3840, 8191, 16383, 32767]
theorem decklelaw04_CursorPlaces.tab16 : rtab .any (opsOf Try.f6 16) = decklelaw04_CursorPlaces.T16 := by kernel_rfl
theorem decklelaw04_CursorPlaces.bits16 : waitsOk decklelaw04_CursorPlaces.T16.2 decklelaw04_CursorPlaces.B16 = true := by kernel_rfl
def decklelaw04_CursorPlaces.T20 : Bool × List (List Nat × List Nat) := (true, [([], []), ([], []), ([], []), ([1, 2], [1, 2]), ([3], [3]), ([4], [4]), ([0, 5], [0, 5]), ([6], [6]), ([], []), ([], []), ([], []), ([9, 10], [9, 10]), ([11], [11]), ([12], [12]), ([8, 13, 6], [8, 13]), ([14], [14]), ([7, 15], [7, 15]), ([16, 14, 0, 1, 2, 3, 4, 5, 6, 7, 8, 9, 10, 11, 12, 13, 14, 15, 16], [16])])
def decklelaw04_CursorPlaces.B20 : List Nat := [0, 0, 0, 6, 14, 30, 63, 127, 0, 0, 0, 1536, 3584, 7680, 16255, 32639, 65535, 131071]
theorem decklelaw04_CursorPlaces.tab20 : rtab .any (opsOf Try.f6 20) = decklelaw04_CursorPlaces.T20 := by kernel_rfl
theorem decklelaw04_CursorPlaces.bits20 : waitsOk decklelaw04_CursorPlaces.T20.2 decklelaw04_CursorPlaces.B20 = true := by kernel_rfl
def decklelaw04_CursorPlaces.T25 : Bool × List (List Nat × List Nat) := (true, [([], []), ([0], [0]), ([1], [1]), ([2], [2]), ([2], [2]), ([3, 4, 2], [2, 3, 4]), ([2, 5], [2, 5]), ([6, 2], [6]), ([7], [7]), ([8, 7, 7], [7, 8]), ([7], [7]), ([10, 9, 7], [7, 10]), ([9, 11, 7], [7, 9, 11]), ([7, 12], [7, 12]), ([13, 11], [13]), ([14], [14]), ([15, 14], [14, 15]), ([16, 14], [14, 16]), ([17, 14, 14], [14, 17]), ([14], [14]), ([18, 19, 14], [14, 18, 19]), ([14], [14]), ([21, 14], [14, 21]), ([22, 14], [14, 22]), ([23, 18, 14], [14, 23]), ([20, 24, 14], [14, 20, 24]), ([14, 25], [14, 25])])
def decklelaw04_CursorPlaces.B25 : List Nat := [0, 1, 3, 7, 7, 31, 63, 127, 255, 511, 255, 2047, 4095, 8191, 16383, 32767, 65535, 131071, 262143, 32767, 1048575, 32767, 2129919, 6324223, 15204351, 33554431, 67108863]
theorem decklelaw04_CursorPlaces.tab25 : rtab .any (opsOf Try.f6 25) = decklelaw04_CursorPlaces.T25 := by kernel_rfl
theorem decklelaw04_CursorPlaces.bits25 : waitsOk decklelaw04_CursorPlaces.T25.2 decklelaw04_CursorPlaces.B25 = true := by kernel_rfl
set_option maxHeartbeats 8000000 in
set_option maxRecDepth 100000 in
theorem decklelaw04_CursorPlaces.calls (k : Nat) (A0 : Option Addr) (c0 : Nat) (l0 : List Int) (a1 : Int) (A2 : Option Addr) (c2 : Nat) (l2 : List (S42)) (r : Bool) (w : World) (hr0 : Kd.C (Kd.int .u8) w A0 l0.length l0) (hc0 : l0.length ≤ c0) (hr2 : Kd.C k42 w A2 l2.length l2) (hc2 : l2.length ≤ c2) (h : decklelaw04_CursorPlaces.f k l0 a1 l2 = some r) :
    Calls Try.prog 6 #[.slice A0 l0.length c0, .int .i64 a1, .slice A2 l2.length c2] w fun e w' => e = .returned (.bool r) ∧ Below w.heap.size w w' := by
  have hu31 := Try.underlying31
  have HR0 := Aside0.mk hr0
  have HC0 := Aside0.mk hc0
  clear hr0 hc0
  have HR2 := Aside0.mk hr2
  have HC2 := Aside0.mk hc2
  clear hr2 hc2
  have HB := Aside0.mk (Below.refl w.heap.size w)
  have H : ((decklelaw04_small.f k).bind fun t249 => (if (l0.length : Int) > 500 then (decklelaw04_CursorPlaces.j0 k l0 a1 l2 t249 true) else (if (l2.length : Int) > 100 then (decklelaw04_CursorPlaces.j0 k l0 a1 l2 t249 true) else (if a1 < 0 then (decklelaw04_CursorPlaces.j0 k l0 a1 l2 t249 true) else (decklelaw04_CursorPlaces.j0 k l0 a1 l2 t249 (decide (a1 > 549755813888))))))) = some r := h
  clear h
  replace H := Option.bind_eq_some_iff.mp H
  obtain ⟨t249, A40, H⟩ := H
  replace H : (if (l0.length : Int) > 500 then (decklelaw04_CursorPlaces.j0 k l0 a1 l2 t249 true) else (if (l2.length : Int) > 100 then (decklelaw04_CursorPlaces.j0 k l0 a1 l2 t249 true) else (if a1 < 0 then (decklelaw04_CursorPlaces.j0 k l0 a1 l2 t249 true) else (decklelaw04_CursorPlaces.j0 k l0 a1 l2 t249 (decide (a1 > 549755813888)))))) = some r := H
  have A4 := Aside0.mk A40
  clear A40
  have HC5 := Aside0.mk H
  clear H
  go_enter Try.func6, Try.ntmps6
  go_upto_region 2 with (first | ((with_reducible refine gate_callee (f := 8) rfl ?_); refine goesL_ (some 14) rfl rfl Try.func8 (by kernel_rfl) rfl #[] rfl (by (try simp only [List.map_toArray, List.map_cons, List.map_nil]); first | done | rfl | (simp only [List.length_drop, List.length_take]; rfl)) ?_; (with_reducible refine (decklelaw04_small.calls k  t249 _ A4.out).mono ?_); rintro e w6 ⟨rfl, hb⟩; refine ⟨_, rfl, ?_⟩; have n0_ := Aside0.mk (below_step (by repeat (first | (with_reducible first | exact HB.out | apply below_alloc | apply pw_below_drewN | apply below_drew1) | exact HB.out)) hb); clear HB; have HB := n0_; clear n0_; (try clear hb); (try clear hb2); (try clear hk); (try clear hi)))
  (try simp only [Act.put, List.setIfInBounds_toArray, List.set_cons_zero, List.set_cons_succ])
  go_cut [30] (fun v30 wc => ∃ (kq : Nat) (x30_4 : Bool), v30 = .bool x30_4 ∧ Aside0 (decklelaw04_CursorPlaces.j0 kq l0 a1 l2 t249 x30_4 = some r) ∧ Aside0 (kq ≤ k) ∧ Aside0 (Below w.heap.size w wc))
  case first =>
    have H := HC5.out
    clear HC5
    by_cases c7 : (l0.length : Int) > 500
    · rw [if_pos c7] at H
      have c7b0 : decide (500 < (l0.length : Int)) = true := decide_eq_true c7
      have c7b1 : decide (500 < l0.length) = true := decide_eq_true (by omega)
      clear c7
      (first | rw [c7b0] | (simp only [i64_w, i32_w]; rw [c7b0]) | skip)
      have H' := Aside0.mk H
      clear H
      go_wp2
      go_meet
      case rel => exact ⟨_, (true), (by first | rfl | (simp; done) | (simp [*]; done)), H', ⟨by first | omega | exact Nat.le_refl _⟩, ⟨by repeat (first | (with_reducible first | exact HB.out | apply below_alloc | apply pw_below_drewN | apply below_drew1) | exact HB.out)⟩⟩
    · rw [if_neg c7] at H
      have c7b0 : decide (500 < (l0.length : Int)) = false := decide_eq_false c7
      have c7b1 : decide (500 < l0.length) = false := decide_eq_false (by omega)
      clear c7
      (first | rw [c7b0] | (simp only [i64_w, i32_w]; rw [c7b0]) | skip)
      by_cases c8 : (l2.length : Int) > 100
      · rw [if_pos c8] at H
        have c8b0 : decide (100 < (l2.length : Int)) = true := decide_eq_true c8
        have c8b1 : decide (100 < l2.length) = true := decide_eq_true (by omega)
        clear c8
        have H' := Aside0.mk H
        clear H
        go_wp2
        go_meet
        case rel => exact ⟨_, (true), (by first | rfl | (simp; done) | (simp [*]; done)), H', ⟨by first | omega | exact Nat.le_refl _⟩, ⟨by repeat (first | (with_reducible first | exact HB.out | apply below_alloc | apply pw_below_drewN | apply below_drew1) | exact HB.out)⟩⟩
      · rw [if_neg c8] at H
        have c8b0 : decide (100 < (l2.length : Int)) = false := decide_eq_false c8
        have c8b1 : decide (100 < l2.length) = false := decide_eq_false (by omega)
        clear c8
        by_cases c9 : a1 < 0
        · rw [if_pos c9] at H
          have c9b0 : decide (a1 < 0) = true := decide_eq_true c9
          clear c9
          have H' := Aside0.mk H
          clear H
          go_wp2
          go_meet
          case rel => exact ⟨_, (true), (by first | rfl | (simp; done) | (simp [*]; done)), H', ⟨by first | omega | exact Nat.le_refl _⟩, ⟨by repeat (first | (with_reducible first | exact HB.out | apply below_alloc | apply pw_below_drewN | apply below_drew1) | exact HB.out)⟩⟩
        · rw [if_neg c9] at H
          have c9b0 : decide (a1 < 0) = false := decide_eq_false c9
          clear c9
          have H' := Aside0.mk H
          clear H
          go_wp2
          go_meet
          case rel => exact ⟨_, (decide (a1 > 549755813888)), (by first | rfl | (simp; done) | (simp [*]; done)), H', ⟨by first | omega | exact Nat.le_refl _⟩, ⟨by repeat (first | (with_reducible first | exact HB.out | apply below_alloc | apply pw_below_drewN | apply below_drew1) | exact HB.out)⟩⟩
  case rest =>
    clear HC5
    try clear c2
    try clear p2
    try clear c6
    try clear c7
    try clear c7b0
    try clear c7b1
    try clear c8
    try clear c8b0
    try clear c8b1
    try clear c9
    try clear c9b0
    obtain ⟨kq, x30_4, rfl, HA, HJ4, HB⟩ := hcut
    cases kq with
    | zero => exact absurd HA.out (by simp [decklelaw04_CursorPlaces.j0])
    | succ kj4 =>
      have H := HA.out
      clear HA
      simp only [decklelaw04_CursorPlaces.j0] at H
      by_cases c10 : x30_4 = true
      · subst c10
        have H1 : (some t249) = some r := by rw [if_pos rfl] at H; exact H
        clear H
        have H := H1
        clear H1
        obtain rfl := Option.some.inj H
        go_wp2
        go_ret
        exact ⟨by first | rfl | (simp [errW_none, errW_some] <;> rfl) | (simp [*, errW_none, errW_some] <;> rfl), by repeat (first | (with_reducible first | exact HB.out | apply below_alloc | apply pw_below_drewN | apply below_drew1) | exact HB.out)⟩
      · replace c10 := Bool.eq_false_iff.mpr c10
        subst c10
        have H1 : ((cursor_Open.f l0 0).bind fun bt250 => ((cursor_Open.f l0 a1).bind fun bt256 => (decklelaw04_CursorPlaces.l0 kj4 a1 l2 t249 0 bt250.1 bt250.2.1 bt250.2.2.1 bt250.2.2.2.1 bt250.2.2.2.2 bt256.1 bt256.2.1 bt256.2.2.1 bt256.2.2.2.1 bt256.2.2.2.2))) = some r := by rw [if_neg (show ¬ (false = true) by decide)] at H; exact H
        clear H
        have H := H1
        clear H1
        replace H := Option.bind_eq_some_iff.mp H
        obtain ⟨⟨t250, t251, t252, t253, t254⟩, A110, H⟩ := H
        replace H : ((cursor_Open.f l0 a1).bind fun bt256 => (decklelaw04_CursorPlaces.l0 kj4 a1 l2 t249 0 t250 t251 t252 t253 t254 bt256.1 bt256.2.1 bt256.2.2.1 bt256.2.2.2.1 bt256.2.2.2.2)) = some r := H
        have A11 := Aside0.mk A110
        clear A110
        replace H := Option.bind_eq_some_iff.mp H
        obtain ⟨⟨t256, t257, t258, t259, t260⟩, A120, H⟩ := H
        replace H : (decklelaw04_CursorPlaces.l0 kj4 a1 l2 t249 0 t250 t251 t252 t253 t254 t256 t257 t258 t259 t260) = some r := H
        have A12 := Aside0.mk A120
        clear A120
        have H' := Aside0.mk H
        clear H
        go_wp2_with (first | ((with_reducible refine gate_callee (f := 9) rfl ?_); refine goesL_ (some 33) rfl rfl Try.func9 (by kernel_rfl) rfl #[.slice A0 l0.length c0, .int .i64 0] rfl (by (try simp only [List.map_toArray, List.map_cons, List.map_nil]); first | done | rfl | (simp only [List.length_drop, List.length_take]; rfl)) ?_; (with_reducible refine (cursor_Open.calls _ _ l0 0 t250 t251 t252 t253 t254 w _ ?side1 ?side2 ?side3 A11.out).mono ?_); (case side1 => repeat (first | (with_reducible first | exact HB.out | apply below_alloc | apply pw_below_drewN | apply below_drew1) | exact HB.out)); (case side2 => repeat (first | exact (Kd.C_below HR0.out HB.out) | (with_reducible refine Kd.C_alloc ?_ _) | (with_reducible refine Kd.C_drewN ?_ _) | (with_reducible refine Kd.C_drew ?_))); (case side3 => exact HC0.out); rintro e w13 ⟨g255, rfl, hi, hb, hb2⟩; refine ⟨_, rfl, ?_⟩; have n0_ := Aside0.mk (hb); have n1_ := Aside0.mk (hi); clear HB; have HB := n0_; have HI255 := n1_; clear n0_ n1_; (try clear hb); (try clear hb2); (try clear hk); (try clear hi)) | ((with_reducible refine gate_callee (f := 9) rfl ?_); refine goesL_ (some 36) rfl rfl Try.func9 (by kernel_rfl) rfl #[.slice A0 l0.length c0, .int .i64 a1] rfl (by (try simp only [List.map_toArray, List.map_cons, List.map_nil]); first | done | rfl | (simp only [List.length_drop, List.length_take]; rfl)) ?_; (with_reducible refine (cursor_Open.calls _ _ l0 a1 t256 t257 t258 t259 t260 _ _ (Below.refl _ _) ?side1 ?side2 A12.out).mono ?_); (case side1 => repeat (first | exact (Kd.C_below HR0.out HB.out) | (with_reducible refine Kd.C_alloc ?_ _) | (with_reducible refine Kd.C_drewN ?_ _) | (with_reducible refine Kd.C_drew ?_))); (case side2 => exact HC0.out); rintro e w14 ⟨g261, rfl, hi, hb, hb2⟩; refine ⟨_, rfl, ?_⟩; have n0_ := Aside0.mk (IsS35.below (by repeat (first | (with_reducible first | exact HI255.out | apply IsS35.alloc | apply IsS35.drewN | apply IsS35.drew | apply IsS35.set_0 | apply IsS35.set_1 | apply IsS35.set_2 | apply IsS35.set_3 | apply IsS35.set_4) | exact HI255.out)) hb2); have n1_ := Aside0.mk (below_step (by repeat (first | (with_reducible first | exact HB.out | apply below_alloc | apply pw_below_drewN | apply below_drew1 | refine below_set ?_ (IsS35.ge HI255.out)) | exact HB.out)) hb2); have n2_ := Aside0.mk ((show IsS35 w w14 g261 t256 t257 t258 t259 t260 from ⟨hi.1, Nat.le_trans (below_size (by repeat (first | (with_reducible first | exact HB.out | apply below_alloc | apply pw_below_drewN | apply below_drew1 | refine below_set ?_ (IsS35.ge HI255.out)) | exact HB.out))) hi.2⟩)); have n3_ := Aside0.mk (((Nat.ne_of_lt (Nat.lt_of_lt_of_le (IsS35.lt (show IsS35 w _ g255 t250 t251 t252 t253 t254 from by repeat (first | (with_reducible first | exact HI255.out | apply IsS35.alloc | apply IsS35.drewN | apply IsS35.drew | apply IsS35.set_0 | apply IsS35.set_1 | apply IsS35.set_2 | apply IsS35.set_3 | apply IsS35.set_4) | exact HI255.out))) hi.2)).symm : g261 ≠ g255)); have n4_ := Aside0.mk ((Nat.ne_of_lt (Nat.lt_of_lt_of_le (IsS35.lt (show IsS35 w _ g255 t250 t251 t252 t253 t254 from by repeat (first | (with_reducible first | exact HI255.out | apply IsS35.alloc | apply IsS35.drewN | apply IsS35.drew | apply IsS35.set_0 | apply IsS35.set_1 | apply IsS35.set_2 | apply IsS35.set_3 | apply IsS35.set_4) | exact HI255.out))) hi.2) : g255 ≠ g261)); clear HI255; clear HB; have HI255 := n0_; have HB := n1_; have HI261 := n2_; have NB261_255 := n3_; have NB255_261 := n4_; clear n0_ n1_ n2_ n3_ n4_; (try clear hb); (try clear hb2); (try clear hk); (try clear hi)))
        go_loopg [10] kj4 (fun kq v10 w' => ∃ (x10_2 : Int) (x256000_2 : Int) (x256001_2 : Int) (x256002_2 : Int) (x256003_2 : Int) (x256004_2 : (List Int)) (x262000_2 : Int) (x262001_2 : Int) (x262002_2 : Int) (x262003_2 : Int) (x262004_2 : (List Int)), v10 = .int .i64 x10_2 ∧ Aside0 (decklelaw04_CursorPlaces.l0 kq a1 l2 t249 x10_2 x256000_2 x256001_2 x256002_2 x256003_2 x256004_2 x262000_2 x262001_2 x262002_2 x262003_2 x262004_2 = some r) ∧ Aside0 (kq ≤ kj4) ∧ Aside0 (IsS35 w w' g255 x256000_2 x256001_2 x256002_2 x256003_2 x256004_2) ∧ Aside0 (IsS35 w w' g261 x262000_2 x262001_2 x262002_2 x262003_2 x262004_2) ∧ Aside0 (Below w.heap.size w w'))
        case atStart => exact ⟨(0), (t250), (t251), (t252), (t253), (t254), (t256), (t257), (t258), (t259), (t260), (by first | rfl | (simp; done) | (simp [*]; done)), H', ⟨Nat.le_refl _⟩, ⟨by repeat (first | (with_reducible first | exact HI255.out | apply IsS35.alloc | apply IsS35.drewN | apply IsS35.drew | apply IsS35.set_0 | apply IsS35.set_1 | apply IsS35.set_2 | apply IsS35.set_3 | apply IsS35.set_4) | exact HI255.out)⟩, ⟨by repeat (first | (with_reducible first | exact HI261.out | apply IsS35.alloc | apply IsS35.drewN | apply IsS35.drew | apply IsS35.set_0 | apply IsS35.set_1 | apply IsS35.set_2 | apply IsS35.set_3 | apply IsS35.set_4) | exact HI261.out)⟩, ⟨by repeat (first | (with_reducible first | exact HB.out | apply below_alloc | apply pw_below_drewN | apply below_drew1 | refine below_set ?_ (IsS35.ge HI255.out) | refine below_set ?_ (IsS35.ge HI261.out)) | exact HB.out)⟩⟩
        case round =>
          clear H'
          try clear c1
          try clear c2
          try clear p2
          try clear c6
          try clear c7
          try clear c7b0
          try clear c7b1
          try clear c8
          try clear c8b0
          try clear c8b1
          try clear c9
          try clear c9b0
          try clear c10
          try clear p2
          obtain ⟨x10_2, x256000_2, x256001_2, x256002_2, x256003_2, x256004_2, x262000_2, x262001_2, x262002_2, x262003_2, x262004_2, rfl, HA, HK2, HI255, HI261, HB⟩ := hrel
          cases gk with
          | zero => exact absurd HA.out (by simp [decklelaw04_CursorPlaces.l0])
          | succ k2 =>
            have H := HA.out
            clear HA
            simp only [decklelaw04_CursorPlaces.l0] at H
            by_cases c15 : x10_2 < (l2.length : Int)
            · rw [if_pos c15] at H
              have c15b0 : decide (x10_2 < (l2.length : Int)) = true := decide_eq_true c15
              clear c15
              by_cases c16 : 0 ≤ x10_2
              · rw [if_pos c16] at H
                have c16b0 : decide (0 ≤ x10_2) = true := decide_eq_true c16
                clear c16
                have HC17 := Aside0.mk H
                clear H
                have p262 : 0 ≤ (x10_2 : Int) := of_decide_eq_true (by first | (with_reducible assumption) | assumption)
                have q262 : x10_2 < (l2.length : Int) := of_decide_eq_true (by first | (with_reducible assumption) | assumption)
                obtain ⟨ad262, e262, hx262_0, hx262_1⟩ := at_T42 HR2.out x10_2 p262 q262
                cases e262
                replace hx262_0 := (HB.out.cell (World.block_lt_of_cell? w _ hx262_0)).trans hx262_0
                replace hx262_1 := (HB.out.cell (World.block_lt_of_cell? w _ hx262_1)).trans hx262_1
                replace p262 := eq_true p262
                replace q262 := eq_true q262
                go_upto_block 2 with (fail)
                go_cut [11] (fun v11 wc => ∃ (kq : Nat) (x11_16 : Bool) (x256000_16 : Int) (x256001_16 : Int) (x256002_16 : Int) (x256003_16 : Int) (x256004_16 : (List Int)) (x262000_16 : Int) (x262001_16 : Int) (x262002_16 : Int) (x262003_16 : Int) (x262004_16 : (List Int)), v11 = .bool x11_16 ∧ Aside0 (decklelaw04_CursorPlaces.j2 kq a1 l2 t249 x10_2 x11_16 x256000_16 x256001_16 x256002_16 x256003_16 x256004_16 x262000_16 x262001_16 x262002_16 x262003_16 x262004_16 = some r) ∧ Aside0 (kq ≤ k2) ∧ Aside0 (IsS35 w wc g255 x256000_16 x256001_16 x256002_16 x256003_16 x256004_16) ∧ Aside0 (IsS35 w wc g261 x262000_16 x262001_16 x262002_16 x262003_16 x262004_16) ∧ Aside0 (Below w.heap.size w wc))
                case first =>
                  have H := HC17.out
                  clear HC17
                  by_cases c18 : ((rd_T42 l2 x10_2).f0) = 0
                  · rw [if_pos c18] at H
                    have c18b0 : (((rd_T42 l2 x10_2).f0) == 0) = true := beq_iff_eq.mpr c18
                    have c18b1 : (((rd_T42 l2 x10_2).f0) != 0) = false := bne_eq_false_iff_eq.mpr c18
                    clear c18
                    (first | rw [c18b0] | (simp only [i64_w, i32_w]; rw [c18b0]) | skip)
                    replace H := Option.bind_eq_some_iff.mp H
                    obtain ⟨⟨t263, t264, t265, t266, t267, t268⟩, A190, H⟩ := H
                    replace H : ((cursor_Cursor_Byte.f x262000_2 x262001_2 x262002_2 x262003_2 x262004_2).bind fun bt269 => (decklelaw04_CursorPlaces.j2 k2 a1 l2 t249 x10_2 (t263 == bt269.1) t264 t265 t266 t267 t268 bt269.2.1 bt269.2.2.1 bt269.2.2.2.1 bt269.2.2.2.2.1 bt269.2.2.2.2.2)) = some r := H
                    have A19 := Aside0.mk A190
                    clear A190
                    replace H := Option.bind_eq_some_iff.mp H
                    obtain ⟨⟨t269, t270, t271, t272, t273, t274⟩, A200, H⟩ := H
                    replace H : (decklelaw04_CursorPlaces.j2 k2 a1 l2 t249 x10_2 (t263 == t269) t264 t265 t266 t267 t268 t270 t271 t272 t273 t274) = some r := H
                    have A20 := Aside0.mk A200
                    clear A200
                    have H' := Aside0.mk H
                    clear H
                    go_wp2_with (first | ((with_reducible refine gate_callee (f := 15) rfl ?_); refine goesL_ (some 57) rfl rfl Try.func15 (by kernel_rfl) rfl #[.pointer (some ⟨g255, 0, none⟩)] rfl (by (try simp only [List.map_toArray, List.map_cons, List.map_nil]); first | done | rfl | (simp only [List.length_drop, List.length_take]; rfl)) ?_; (with_reducible refine (cursor_Cursor_Byte.calls g255 x256000_2 x256001_2 x256002_2 x256003_2 x256004_2 t263 t264 t265 t266 t267 t268 w _ ?side1 ?side2 A19.out).mono ?_); (case side1 => repeat (first | (with_reducible first | exact HI255.out | apply IsS35.alloc | apply IsS35.drewN | apply IsS35.drew | apply IsS35.set_0 | apply IsS35.set_1 | apply IsS35.set_2 | apply IsS35.set_3 | apply IsS35.set_4) | exact HI255.out)); (case side2 => repeat (first | (with_reducible first | exact HB.out | apply below_alloc | apply pw_below_drewN | apply below_drew1 | refine below_set ?_ (IsS35.ge HI255.out) | refine below_set ?_ (IsS35.ge HI261.out)) | exact HB.out)); rintro e w21 ⟨rfl, hi, hb, hk⟩; refine ⟨_, rfl, ?_⟩; have n0_ := Aside0.mk ((IsS35.keepS (show IsS35 w _ g261 x262000_2 x262001_2 x262002_2 x262003_2 x262004_2 from by repeat (first | (with_reducible first | exact HI261.out | apply IsS35.alloc | apply IsS35.drewN | apply IsS35.drew | apply IsS35.set_0 | apply IsS35.set_1 | apply IsS35.set_2 | apply IsS35.set_3 | apply IsS35.set_4) | exact HI261.out)) hk NB261_255.out (IsS35.cells (show IsS35 w _ g255 x256000_2 x256001_2 x256002_2 x256003_2 x256004_2 from by repeat (first | (with_reducible first | exact HI255.out | apply IsS35.alloc | apply IsS35.drewN | apply IsS35.drew | apply IsS35.set_0 | apply IsS35.set_1 | apply IsS35.set_2 | apply IsS35.set_3 | apply IsS35.set_4) | exact HI255.out))))); have n1_ := Aside0.mk (hb); have n2_ := Aside0.mk (hi); clear HI261; clear HB; clear HI255; have HI261 := n0_; have HB := n1_; have HI255 := n2_; clear n0_ n1_ n2_; (try clear hb); (try clear hb2); (try clear hk); (try clear hi)) | ((with_reducible refine gate_callee (f := 15) rfl ?_); refine goesL_ (some 59) rfl rfl Try.func15 (by kernel_rfl) rfl #[.pointer (some ⟨g261, 0, none⟩)] rfl (by (try simp only [List.map_toArray, List.map_cons, List.map_nil]); first | done | rfl | (simp only [List.length_drop, List.length_take]; rfl)) ?_; (with_reducible refine (cursor_Cursor_Byte.calls g261 x262000_2 x262001_2 x262002_2 x262003_2 x262004_2 t269 t270 t271 t272 t273 t274 w _ ?side1 ?side2 A20.out).mono ?_); (case side1 => repeat (first | (with_reducible first | exact HI261.out | apply IsS35.alloc | apply IsS35.drewN | apply IsS35.drew | apply IsS35.set_0 | apply IsS35.set_1 | apply IsS35.set_2 | apply IsS35.set_3 | apply IsS35.set_4) | exact HI261.out)); (case side2 => repeat (first | (with_reducible first | exact HB.out | apply below_alloc | apply pw_below_drewN | apply below_drew1 | refine below_set ?_ (IsS35.ge HI255.out) | refine below_set ?_ (IsS35.ge HI261.out)) | exact HB.out)); rintro e w22 ⟨rfl, hi, hb, hk⟩; refine ⟨_, rfl, ?_⟩; have n0_ := Aside0.mk ((IsS35.keepS (show IsS35 w _ g255 t264 t265 t266 t267 t268 from by repeat (first | (with_reducible first | exact HI255.out | apply IsS35.alloc | apply IsS35.drewN | apply IsS35.drew | apply IsS35.set_0 | apply IsS35.set_1 | apply IsS35.set_2 | apply IsS35.set_3 | apply IsS35.set_4) | exact HI255.out)) hk NB255_261.out (IsS35.cells (show IsS35 w _ g261 x262000_2 x262001_2 x262002_2 x262003_2 x262004_2 from by repeat (first | (with_reducible first | exact HI261.out | apply IsS35.alloc | apply IsS35.drewN | apply IsS35.drew | apply IsS35.set_0 | apply IsS35.set_1 | apply IsS35.set_2 | apply IsS35.set_3 | apply IsS35.set_4) | exact HI261.out))))); have n1_ := Aside0.mk (hb); have n2_ := Aside0.mk (hi); clear HI255; clear HB; clear HI261; have HI255 := n0_; have HB := n1_; have HI261 := n2_; clear n0_ n1_ n2_; (try clear hb); (try clear hb2); (try clear hk); (try clear hi)))
                    go_meet
                    case rel => exact ⟨_, ((t263 == t269)), (t264), (t265), (t266), (t267), (t268), (t270), (t271), (t272), (t273), (t274), (by first | rfl | (simp; done) | (simp [*]; done)), H', ⟨by have := HJ4.out; have := HK2.out; first | omega | exact Nat.le_refl _⟩, ⟨by repeat (first | (with_reducible first | exact HI255.out | apply IsS35.alloc | apply IsS35.drewN | apply IsS35.drew | apply IsS35.set_0 | apply IsS35.set_1 | apply IsS35.set_2 | apply IsS35.set_3 | apply IsS35.set_4) | exact HI255.out)⟩, ⟨by repeat (first | (with_reducible first | exact HI261.out | apply IsS35.alloc | apply IsS35.drewN | apply IsS35.drew | apply IsS35.set_0 | apply IsS35.set_1 | apply IsS35.set_2 | apply IsS35.set_3 | apply IsS35.set_4) | exact HI261.out)⟩, ⟨by repeat (first | (with_reducible first | exact HB.out | apply below_alloc | apply pw_below_drewN | apply below_drew1 | refine below_set ?_ (IsS35.ge HI255.out) | refine below_set ?_ (IsS35.ge HI261.out)) | exact HB.out)⟩⟩
                  · rw [if_neg c18] at H
                    have c18b0 : (((rd_T42 l2 x10_2).f0) == 0) = false := beq_eq_false_iff_ne.mpr c18
                    have c18b1 : (((rd_T42 l2 x10_2).f0) != 0) = true := bne_iff_ne.mpr c18
                    (first | rw [c18b0] | (simp only [i64_w, i32_w]; rw [c18b0]) | skip)
                    by_cases c23 : ((rd_T42 l2 x10_2).f0) = 1
                    · rw [if_pos c23] at H
                      have c23b0 : (((rd_T42 l2 x10_2).f0) == 1) = true := beq_iff_eq.mpr c23
                      have c23b1 : (((rd_T42 l2 x10_2).f0) != 1) = false := bne_eq_false_iff_eq.mpr c23
                      clear c23
                      replace H := Option.bind_eq_some_iff.mp H
                      obtain ⟨⟨t276, t277, t278, t279, t280, t281⟩, A240, H⟩ := H
                      replace H : ((cursor_Cursor_Num.f k2 x262000_2 x262001_2 x262002_2 x262003_2 x262004_2 ((rd_T42 l2 x10_2).f1)).bind fun bt283 => (decklelaw04_CursorPlaces.j2 k2 a1 l2 t249 x10_2 (t276 == bt283.1) t277 t278 t279 t280 t281 bt283.2.1 bt283.2.2.1 bt283.2.2.2.1 bt283.2.2.2.2.1 bt283.2.2.2.2.2)) = some r := H
                      have A24 := Aside0.mk A240
                      clear A240
                      replace H := Option.bind_eq_some_iff.mp H
                      obtain ⟨⟨t283, t284, t285, t286, t287, t288⟩, A250, H⟩ := H
                      replace H : (decklelaw04_CursorPlaces.j2 k2 a1 l2 t249 x10_2 (t276 == t283) t277 t278 t279 t280 t281 t284 t285 t286 t287 t288) = some r := H
                      have A25 := Aside0.mk A250
                      clear A250
                      have H' := Aside0.mk H
                      clear H
                      try go_wp2
                      have n0_ := Aside0.mk (IsS35.drew HI255.out)
                      have n1_ := Aside0.mk (IsS35.drew HI261.out)
                      have n2_ := Aside0.mk (below_drew1 HB.out)
                      clear HI255
                      clear HI261
                      clear HB
                      have HI255 := n0_
                      have HI261 := n1_
                      have HB := n2_
                      clear n0_ n1_ n2_
                      have p275 : 0 ≤ (x10_2 : Int) := of_decide_eq_true (by first | (with_reducible assumption) | assumption)
                      have q275 : x10_2 < (l2.length : Int) := of_decide_eq_true (by first | (with_reducible assumption) | assumption)
                      obtain ⟨ad275, e275, hx275_0, hx275_1⟩ := at_T42 HR2.out x10_2 p275 q275
                      have hw275_1 := hx275_1
                      have hw275_0 := hx275_0
                      obtain rfl : ad262 = ad275 := (by injection e275)
                      replace hx275_0 := (HB.out.cell (World.block_lt_of_cell? w _ hx275_0)).trans hx275_0
                      replace hx275_1 := (HB.out.cell (World.block_lt_of_cell? w _ hx275_1)).trans hx275_1
                      replace p275 := eq_true p275
                      replace q275 := eq_true q275
                      have p282 : 0 ≤ (x10_2 : Int) := of_decide_eq_true (by first | (with_reducible assumption) | assumption)
                      have q282 : x10_2 < (l2.length : Int) := of_decide_eq_true (by first | (with_reducible assumption) | assumption)
                      obtain ⟨ad282, e282, hx282_0, hx282_1⟩ := at_T42 HR2.out x10_2 p282 q282
                      have hw282_1 := hx282_1
                      have hw282_0 := hx282_0
                      obtain rfl : ad262 = ad282 := (by injection e282)
                      replace hx282_0 := (HB.out.cell (World.block_lt_of_cell? w _ hx282_0)).trans hx282_0
                      replace hx282_1 := (HB.out.cell (World.block_lt_of_cell? w _ hx282_1)).trans hx282_1
                      replace p282 := eq_true p282
                      replace q282 := eq_true q282
                      refine start_ (n := 16) (S := fun w' => w'.cell? (ad262.add ((x10_2).toNat * 2)) = some (.int .i64 ((rd_T42 l2 x10_2).f0)) ∧ w'.cell? ⟨(ad262.add ((x10_2).toNat * 2)).block, (ad262.add ((x10_2).toNat * 2)).off + 1, none⟩ = some (.int .i64 ((rd_T42 l2 x10_2).f1)) ∧ w'.cell? (ad262.add ((x10_2).toNat * 2)) = some (.int .i64 ((rd_T42 l2 x10_2).f0)) ∧ w'.cell? ⟨(ad262.add ((x10_2).toNat * 2)).block, (ad262.add ((x10_2).toNat * 2)).off + 1, none⟩ = some (.int .i64 ((rd_T42 l2 x10_2).f1))) (ds := []) #[false, false, false, false, false, false, false, false, false, false, false, false, false, false, false, false] (by kernel_rfl) rfl rfl ⟨((HB.out.cell (World.block_lt_of_cell? w _ hw275_0)).trans hw275_0), ((HB.out.cell (World.block_lt_of_cell? w _ hw275_1)).trans hw275_1), ((HB.out.cell (World.block_lt_of_cell? w _ hw282_0)).trans hw282_0), ((HB.out.cell (World.block_lt_of_cell? w _ hw282_1)).trans hw282_1)⟩ (fun hHeld => ?_); refine with_tabW decklelaw04_CursorPlaces.tab16 decklelaw04_CursorPlaces.bits16 (fun HT_ HW_ => ?_)
                      generalize wr.drew = w26 at HI255 HI261 HB hx275_0 hx275_1 hx282_0 hx282_1 hHeld ⊢
                      refine pure_ (i := 0) (N := some 63) (v := ?_) (a' := ?_) #[true, false, false, false, false, false, false, false, false, false, false, false, false, false, false, false] rfl rfl (any_of HT_.out (by kernel_rfl)) (fun _ _ _ h => h) (Or.inl ⟨by rfl, ?_⟩) ?_ ?_
                      rotate_left
                      · intro w'
                        go_simp
                        with_reducible rfl
                      rotate_left
                      · simp only [Act.put, List.setIfInBounds_toArray, List.set_cons_zero, List.set_cons_succ, i64_w, i32_w]
                        rfl
                      refine pure_ (i := 1) (N := some 64) (v := ?_) (a' := ?_) #[true, true, false, false, false, false, false, false, false, false, false, false, false, false, false, false] rfl rfl (any_of HT_.out (by kernel_rfl)) (fun _ _ _ h => h) (Or.inl ⟨by rfl, ?_⟩) ?_ ?_
                      rotate_left
                      · intro w'
                        go_simp
                        with_reducible rfl
                      rotate_left
                      · simp only [Act.put, List.setIfInBounds_toArray, List.set_cons_zero, List.set_cons_succ, i64_w, i32_w]
                        rfl
                      refine pure_ (i := 2) (N := some 65) (v := ?_) (a' := ?_) #[true, true, true, false, false, false, false, false, false, false, false, false, false, false, false, false] rfl rfl (any_of HT_.out (by kernel_rfl)) (fun _ _ _ h => h) (Or.inl ⟨by rfl, ?_⟩) ?_ ?_
                      rotate_left
                      · intro w'
                        go_simp
                        with_reducible rfl
                      rotate_left
                      · simp only [Act.put, List.setIfInBounds_toArray, List.set_cons_zero, List.set_cons_succ, i64_w, i32_w]
                        rfl
                      refine pure_ (i := 3) (N := some 66) (v := ?_) (a' := ?_) #[true, true, true, true, false, false, false, false, false, false, false, false, false, false, false, false] rfl rfl (any_of HT_.out (by kernel_rfl)) (fun _ _ _ h => h) (Or.inl ⟨by rfl, ?_⟩) ?_ ?_
                      rotate_left
                      · intro w'
                        go_simp
                        with_reducible rfl
                      rotate_left
                      · simp only [Act.put, List.setIfInBounds_toArray, List.set_cons_zero, List.set_cons_succ, i64_w, i32_w]
                        rfl
                      refine pure_ (i := 4) (N := some 67) (v := ?_) (a' := ?_) #[true, true, true, true, true, false, false, false, false, false, false, false, false, false, false, false] rfl rfl (any_of HT_.out (by kernel_rfl)) (fun _ _ _ h => h) (Or.inl ⟨by rfl, ?_⟩) ?_ ?_
                      rotate_left
                      · intro w'
                        go_simp
                        with_reducible rfl
                      rotate_left
                      · simp only [Act.put, List.setIfInBounds_toArray, List.set_cons_zero, List.set_cons_succ, i64_w, i32_w]
                        rfl
                      refine pure_ (i := 7) (N := some 70) (v := ?_) (a' := ?_) #[true, true, true, true, true, false, false, true, false, false, false, false, false, false, false, false] rfl rfl (any_of HT_.out (by kernel_rfl)) (fun _ _ _ h => h) (Or.inl ⟨by rfl, ?_⟩) ?_ ?_
                      rotate_left
                      · intro w'
                        go_simp
                        with_reducible rfl
                      rotate_left
                      · simp only [Act.put, List.setIfInBounds_toArray, List.set_cons_zero, List.set_cons_succ, i64_w, i32_w]
                        rfl
                      refine pure_ (i := 8) (N := some 71) (v := ?_) (a' := ?_) #[true, true, true, true, true, false, false, true, true, false, false, false, false, false, false, false] rfl rfl (any_of HT_.out (by kernel_rfl)) (fun _ _ _ h => h) (Or.inl ⟨by rfl, ?_⟩) ?_ ?_
                      rotate_left
                      · intro w'
                        go_simp
                        with_reducible rfl
                      rotate_left
                      · simp only [Act.put, List.setIfInBounds_toArray, List.set_cons_zero, List.set_cons_succ, i64_w, i32_w]
                        rfl
                      refine pure_ (i := 9) (N := some 72) (v := ?_) (a' := ?_) #[true, true, true, true, true, false, false, true, true, true, false, false, false, false, false, false] rfl rfl (any_of HT_.out (by kernel_rfl)) (fun _ _ _ h => h) (Or.inl ⟨by rfl, ?_⟩) ?_ ?_
                      rotate_left
                      · intro w'
                        go_simp
                        with_reducible rfl
                      rotate_left
                      · simp only [Act.put, List.setIfInBounds_toArray, List.set_cons_zero, List.set_cons_succ, i64_w, i32_w]
                        rfl
                      refine pure_ (i := 10) (N := some 73) (v := ?_) (a' := ?_) #[true, true, true, true, true, false, false, true, true, true, true, false, false, false, false, false] rfl rfl (any_of HT_.out (by kernel_rfl)) (fun _ _ _ h => h) (Or.inl ⟨by rfl, ?_⟩) ?_ ?_
                      rotate_left
                      · intro w'
                        go_simp
                        with_reducible rfl
                      rotate_left
                      · simp only [Act.put, List.setIfInBounds_toArray, List.set_cons_zero, List.set_cons_succ, i64_w, i32_w]
                        rfl
                      refine pure_ (i := 11) (N := some 74) (v := ?_) (a' := ?_) #[true, true, true, true, true, false, false, true, true, true, true, true, false, false, false, false] rfl rfl (any_of HT_.out (by kernel_rfl)) (fun _ _ _ h => h) (Or.inl ⟨by rfl, ?_⟩) ?_ ?_
                      rotate_left
                      · intro w'
                        go_simp
                        with_reducible rfl
                      rotate_left
                      · simp only [Act.put, List.setIfInBounds_toArray, List.set_cons_zero, List.set_cons_succ, i64_w, i32_w]
                        rfl
                      refine take_ (i := 5) (N := some 68) (v := ?_) (a' := ?_) #[true, true, true, true, true, true, false, true, true, true, true, true, false, false, false, false] rfl rfl (take_ofW HT_.out HW_.out (by kernel_rfl)) (fun _ _ _ h => h) (Or.inl ⟨by rfl, ?_⟩) hHeld ?_ ?_
                      rotate_left
                      · rintro w' ⟨s0, s1, s2, s3⟩
                        go_simp
                        with_reducible rfl
                      rotate_left
                      · simp only [Act.put, List.setIfInBounds_toArray, List.set_cons_zero, List.set_cons_succ, i64_w, i32_w]
                        rfl
                      refine take_ (i := 12) (N := some 75) (v := ?_) (a' := ?_) #[true, true, true, true, true, true, false, true, true, true, true, true, true, false, false, false] rfl rfl (take_ofW HT_.out HW_.out (by kernel_rfl)) (fun _ _ _ h => h) (Or.inl ⟨by rfl, ?_⟩) hHeld ?_ ?_
                      rotate_left
                      · rintro w' ⟨s0, s1, s2, s3⟩
                        go_simp
                        with_reducible rfl
                      rotate_left
                      · simp only [Act.put, List.setIfInBounds_toArray, List.set_cons_zero, List.set_cons_succ, i64_w, i32_w]
                        rfl
                      refine one_ (i := 6) (N := some 69) #[true, true, true, true, true, true, true, true, true, true, true, true, true, false, false, false] rfl rfl (one_of HT_.out (by kernel_rfl)) (by decide) (fun K hK => ?_)
                      refine goes_ Try.func17 (by kernel_rfl) rfl #[.pointer (some ⟨g255, 0, none⟩), .int .i64 ((rd_T42 l2 x10_2).f1)] (by rfl) rfl rfl (by (try simp only [List.map_toArray, List.map_cons, List.map_nil]); first | done | rfl | (simp only [List.length_drop, List.length_take]; rfl)) ?_
                      with_reducible refine (cursor_Cursor_Num.calls k2 g255 x256000_2 x256001_2 x256002_2 x256003_2 x256004_2 ((rd_T42 l2 x10_2).f1) t276 t277 t278 t279 t280 t281 w _ ?side1 ?side2 A24.out).mono ?_
                      (case side1 => repeat (first | (with_reducible first | exact HI255.out | apply IsS35.alloc | apply IsS35.drewN | apply IsS35.drew | apply IsS35.set_0 | apply IsS35.set_1 | apply IsS35.set_2 | apply IsS35.set_3 | apply IsS35.set_4) | exact HI255.out))
                      (case side2 => repeat (first | (with_reducible first | exact HB.out | apply below_alloc | apply pw_below_drewN | apply below_drew1 | refine below_set ?_ (IsS35.ge HI255.out) | refine below_set ?_ (IsS35.ge HI261.out)) | exact HB.out))
                      rintro e w27 ⟨rfl, hi, hb, hk⟩
                      refine ⟨_, rfl, ?_⟩
                      have n0_ := Aside0.mk ((IsS35.keepS (show IsS35 w _ g261 x262000_2 x262001_2 x262002_2 x262003_2 x262004_2 from by repeat (first | (with_reducible first | exact HI261.out | apply IsS35.alloc | apply IsS35.drewN | apply IsS35.drew | apply IsS35.set_0 | apply IsS35.set_1 | apply IsS35.set_2 | apply IsS35.set_3 | apply IsS35.set_4) | exact HI261.out)) hk NB261_255.out (IsS35.cells (show IsS35 w _ g255 x256000_2 x256001_2 x256002_2 x256003_2 x256004_2 from by repeat (first | (with_reducible first | exact HI255.out | apply IsS35.alloc | apply IsS35.drewN | apply IsS35.drew | apply IsS35.set_0 | apply IsS35.set_1 | apply IsS35.set_2 | apply IsS35.set_3 | apply IsS35.set_4) | exact HI255.out)))))
                      have n1_ := Aside0.mk (hb)
                      have n2_ := Aside0.mk (hi)
                      clear HI261
                      clear HB
                      clear HI255
                      have HI261 := n0_
                      have HB := n1_
                      have HI255 := n2_
                      clear n0_ n1_ n2_
                      (try clear hb)
                      (try clear hb2)
                      (try clear hk)
                      (try clear hi)
                      refine hK.out _ _ ⟨((HB.out.cell (World.block_lt_of_cell? w _ hw275_0)).trans hw275_0), ((HB.out.cell (World.block_lt_of_cell? w _ hw275_1)).trans hw275_1), ((HB.out.cell (World.block_lt_of_cell? w _ hw282_0)).trans hw282_0), ((HB.out.cell (World.block_lt_of_cell? w _ hw282_1)).trans hw282_1)⟩ (fun hHeld => ?_)
                      clear hK K
                      refine norm_ (a' := ?_) ?_ ?_
                      rotate_left
                      · show Act.put _ (some 69) _ = _
                        simp only [Act.put, List.setIfInBounds_toArray, List.set_cons_zero, List.set_cons_succ, i64_w, i32_w]
                        rfl
                      refine one_ (i := 13) (N := some 76) #[true, true, true, true, true, true, true, true, true, true, true, true, true, true, false, false] rfl rfl (one_of HT_.out (by kernel_rfl)) (by decide) (fun K hK => ?_)
                      refine goes_ Try.func17 (by kernel_rfl) rfl #[.pointer (some ⟨g261, 0, none⟩), .int .i64 ((rd_T42 l2 x10_2).f1)] (by rfl) rfl rfl (by (try simp only [List.map_toArray, List.map_cons, List.map_nil]); first | done | rfl | (simp only [List.length_drop, List.length_take]; rfl)) ?_
                      with_reducible refine (cursor_Cursor_Num.calls k2 g261 x262000_2 x262001_2 x262002_2 x262003_2 x262004_2 ((rd_T42 l2 x10_2).f1) t283 t284 t285 t286 t287 t288 w _ ?side1 ?side2 A25.out).mono ?_
                      (case side1 => repeat (first | (with_reducible first | exact HI261.out | apply IsS35.alloc | apply IsS35.drewN | apply IsS35.drew | apply IsS35.set_0 | apply IsS35.set_1 | apply IsS35.set_2 | apply IsS35.set_3 | apply IsS35.set_4) | exact HI261.out))
                      (case side2 => repeat (first | (with_reducible first | exact HB.out | apply below_alloc | apply pw_below_drewN | apply below_drew1 | refine below_set ?_ (IsS35.ge HI255.out) | refine below_set ?_ (IsS35.ge HI261.out)) | exact HB.out))
                      rintro e w28 ⟨rfl, hi, hb, hk⟩
                      refine ⟨_, rfl, ?_⟩
                      have n0_ := Aside0.mk ((IsS35.keepS (show IsS35 w _ g255 t277 t278 t279 t280 t281 from by repeat (first | (with_reducible first | exact HI255.out | apply IsS35.alloc | apply IsS35.drewN | apply IsS35.drew | apply IsS35.set_0 | apply IsS35.set_1 | apply IsS35.set_2 | apply IsS35.set_3 | apply IsS35.set_4) | exact HI255.out)) hk NB255_261.out (IsS35.cells (show IsS35 w _ g261 x262000_2 x262001_2 x262002_2 x262003_2 x262004_2 from by repeat (first | (with_reducible first | exact HI261.out | apply IsS35.alloc | apply IsS35.drewN | apply IsS35.drew | apply IsS35.set_0 | apply IsS35.set_1 | apply IsS35.set_2 | apply IsS35.set_3 | apply IsS35.set_4) | exact HI261.out)))))
                      have n1_ := Aside0.mk (hb)
                      have n2_ := Aside0.mk (hi)
                      clear HI255
                      clear HB
                      clear HI261
                      have HI255 := n0_
                      have HB := n1_
                      have HI261 := n2_
                      clear n0_ n1_ n2_
                      (try clear hb)
                      (try clear hb2)
                      (try clear hk)
                      (try clear hi)
                      refine hK.out _ _ ⟨((HB.out.cell (World.block_lt_of_cell? w _ hw275_0)).trans hw275_0), ((HB.out.cell (World.block_lt_of_cell? w _ hw275_1)).trans hw275_1), ((HB.out.cell (World.block_lt_of_cell? w _ hw282_0)).trans hw282_0), ((HB.out.cell (World.block_lt_of_cell? w _ hw282_1)).trans hw282_1)⟩ (fun hHeld => ?_)
                      clear hK K
                      refine norm_ (a' := ?_) ?_ ?_
                      rotate_left
                      · show Act.put _ (some 76) _ = _
                        simp only [Act.put, List.setIfInBounds_toArray, List.set_cons_zero, List.set_cons_succ, i64_w, i32_w]
                        rfl
                      refine pure_ (i := 14) (N := some 77) (v := ?_) (a' := ?_) #[true, true, true, true, true, true, true, true, true, true, true, true, true, true, true, false] rfl rfl (any_of HT_.out (by kernel_rfl)) (fun _ _ _ h => h) (Or.inl ⟨by rfl, ?_⟩) ?_ ?_
                      rotate_left
                      · intro w'
                        go_simp
                        with_reducible rfl
                      rotate_left
                      · simp only [Act.put, List.setIfInBounds_toArray, List.set_cons_zero, List.set_cons_succ, i64_w, i32_w]
                        rfl
                      refine pure_ (i := 15) (N := some 11) (v := ?_) (a' := ?_) #[true, true, true, true, true, true, true, true, true, true, true, true, true, true, true, true] rfl rfl (any_of HT_.out (by kernel_rfl)) (fun _ _ _ h => h) (Or.inl ⟨by rfl, ?_⟩) ?_ ?_
                      rotate_left
                      · intro w'
                        go_simp
                        with_reducible rfl
                      rotate_left
                      · simp only [Act.put, List.setIfInBounds_toArray, List.set_cons_zero, List.set_cons_succ, i64_w, i32_w]
                        rfl
                      refine done_ (done_of HT_.out (by kernel_rfl)) ?_
                      try go_wp2
                      go_meet
                      case rel => exact ⟨_, ((t276 == t283)), (t277), (t278), (t279), (t280), (t281), (t284), (t285), (t286), (t287), (t288), (by first | rfl | (simp; done) | (simp [*]; done)), H', ⟨by have := HJ4.out; have := HK2.out; first | omega | exact Nat.le_refl _⟩, ⟨by repeat (first | (with_reducible first | exact HI255.out | apply IsS35.alloc | apply IsS35.drewN | apply IsS35.drew | apply IsS35.set_0 | apply IsS35.set_1 | apply IsS35.set_2 | apply IsS35.set_3 | apply IsS35.set_4) | exact HI255.out)⟩, ⟨by repeat (first | (with_reducible first | exact HI261.out | apply IsS35.alloc | apply IsS35.drewN | apply IsS35.drew | apply IsS35.set_0 | apply IsS35.set_1 | apply IsS35.set_2 | apply IsS35.set_3 | apply IsS35.set_4) | exact HI261.out)⟩, ⟨by repeat (first | (with_reducible first | exact HB.out | apply below_alloc | apply pw_below_drewN | apply below_drew1 | refine below_set ?_ (IsS35.ge HI255.out) | refine below_set ?_ (IsS35.ge HI261.out)) | exact HB.out)⟩⟩
                    · rw [if_neg c23] at H
                      have c23b0 : (((rd_T42 l2 x10_2).f0) == 1) = false := beq_eq_false_iff_ne.mpr c23
                      have c23b1 : (((rd_T42 l2 x10_2).f0) != 1) = true := bne_iff_ne.mpr c23
                      by_cases c29 : ((rd_T42 l2 x10_2).f0) = 2
                      · rw [if_pos c29] at H
                        have c29b0 : (((rd_T42 l2 x10_2).f0) == 2) = true := beq_iff_eq.mpr c29
                        have c29b1 : (((rd_T42 l2 x10_2).f0) != 2) = false := bne_eq_false_iff_eq.mpr c29
                        clear c29
                        replace H := Option.bind_eq_some_iff.mp H
                        obtain ⟨⟨t289, t290, t291, t292, t293, t294⟩, A300, H⟩ := H
                        replace H : ((cursor_Cursor_Int.f k2 x262000_2 x262001_2 x262002_2 x262003_2 x262004_2).bind fun bt295 => (decklelaw04_CursorPlaces.j2 k2 a1 l2 t249 x10_2 (t289 == bt295.1) t290 t291 t292 t293 t294 bt295.2.1 bt295.2.2.1 bt295.2.2.2.1 bt295.2.2.2.2.1 bt295.2.2.2.2.2)) = some r := H
                        have A30 := Aside0.mk A300
                        clear A300
                        replace H := Option.bind_eq_some_iff.mp H
                        obtain ⟨⟨t295, t296, t297, t298, t299, t300⟩, A310, H⟩ := H
                        replace H : (decklelaw04_CursorPlaces.j2 k2 a1 l2 t249 x10_2 (t289 == t295) t290 t291 t292 t293 t294 t296 t297 t298 t299 t300) = some r := H
                        have A31 := Aside0.mk A310
                        clear A310
                        have H' := Aside0.mk H
                        clear H
                        go_wp2_with (first | ((with_reducible refine gate_callee (f := 19) rfl ?_); refine goesL_ (some 81) rfl rfl Try.func19 (by kernel_rfl) rfl #[.pointer (some ⟨g255, 0, none⟩)] rfl (by (try simp only [List.map_toArray, List.map_cons, List.map_nil]); first | done | rfl | (simp only [List.length_drop, List.length_take]; rfl)) ?_; (with_reducible refine (cursor_Cursor_Int.calls k2 g255 x256000_2 x256001_2 x256002_2 x256003_2 x256004_2 t289 t290 t291 t292 t293 t294 w _ ?side1 ?side2 A30.out).mono ?_); (case side1 => repeat (first | (with_reducible first | exact HI255.out | apply IsS35.alloc | apply IsS35.drewN | apply IsS35.drew | apply IsS35.set_0 | apply IsS35.set_1 | apply IsS35.set_2 | apply IsS35.set_3 | apply IsS35.set_4) | exact HI255.out)); (case side2 => repeat (first | (with_reducible first | exact HB.out | apply below_alloc | apply pw_below_drewN | apply below_drew1 | refine below_set ?_ (IsS35.ge HI255.out) | refine below_set ?_ (IsS35.ge HI261.out)) | exact HB.out)); rintro e w32 ⟨rfl, hi, hb, hk⟩; refine ⟨_, rfl, ?_⟩; have n0_ := Aside0.mk ((IsS35.keepS (show IsS35 w _ g261 x262000_2 x262001_2 x262002_2 x262003_2 x262004_2 from by repeat (first | (with_reducible first | exact HI261.out | apply IsS35.alloc | apply IsS35.drewN | apply IsS35.drew | apply IsS35.set_0 | apply IsS35.set_1 | apply IsS35.set_2 | apply IsS35.set_3 | apply IsS35.set_4) | exact HI261.out)) hk NB261_255.out (IsS35.cells (show IsS35 w _ g255 x256000_2 x256001_2 x256002_2 x256003_2 x256004_2 from by repeat (first | (with_reducible first | exact HI255.out | apply IsS35.alloc | apply IsS35.drewN | apply IsS35.drew | apply IsS35.set_0 | apply IsS35.set_1 | apply IsS35.set_2 | apply IsS35.set_3 | apply IsS35.set_4) | exact HI255.out))))); have n1_ := Aside0.mk (hb); have n2_ := Aside0.mk (hi); clear HI261; clear HB; clear HI255; have HI261 := n0_; have HB := n1_; have HI255 := n2_; clear n0_ n1_ n2_; (try clear hb); (try clear hb2); (try clear hk); (try clear hi)) | ((with_reducible refine gate_callee (f := 19) rfl ?_); refine goesL_ (some 83) rfl rfl Try.func19 (by kernel_rfl) rfl #[.pointer (some ⟨g261, 0, none⟩)] rfl (by (try simp only [List.map_toArray, List.map_cons, List.map_nil]); first | done | rfl | (simp only [List.length_drop, List.length_take]; rfl)) ?_; (with_reducible refine (cursor_Cursor_Int.calls k2 g261 x262000_2 x262001_2 x262002_2 x262003_2 x262004_2 t295 t296 t297 t298 t299 t300 w _ ?side1 ?side2 A31.out).mono ?_); (case side1 => repeat (first | (with_reducible first | exact HI261.out | apply IsS35.alloc | apply IsS35.drewN | apply IsS35.drew | apply IsS35.set_0 | apply IsS35.set_1 | apply IsS35.set_2 | apply IsS35.set_3 | apply IsS35.set_4) | exact HI261.out)); (case side2 => repeat (first | (with_reducible first | exact HB.out | apply below_alloc | apply pw_below_drewN | apply below_drew1 | refine below_set ?_ (IsS35.ge HI255.out) | refine below_set ?_ (IsS35.ge HI261.out)) | exact HB.out)); rintro e w33 ⟨rfl, hi, hb, hk⟩; refine ⟨_, rfl, ?_⟩; have n0_ := Aside0.mk ((IsS35.keepS (show IsS35 w _ g255 t290 t291 t292 t293 t294 from by repeat (first | (with_reducible first | exact HI255.out | apply IsS35.alloc | apply IsS35.drewN | apply IsS35.drew | apply IsS35.set_0 | apply IsS35.set_1 | apply IsS35.set_2 | apply IsS35.set_3 | apply IsS35.set_4) | exact HI255.out)) hk NB255_261.out (IsS35.cells (show IsS35 w _ g261 x262000_2 x262001_2 x262002_2 x262003_2 x262004_2 from by repeat (first | (with_reducible first | exact HI261.out | apply IsS35.alloc | apply IsS35.drewN | apply IsS35.drew | apply IsS35.set_0 | apply IsS35.set_1 | apply IsS35.set_2 | apply IsS35.set_3 | apply IsS35.set_4) | exact HI261.out))))); have n1_ := Aside0.mk (hb); have n2_ := Aside0.mk (hi); clear HI255; clear HB; clear HI261; have HI255 := n0_; have HB := n1_; have HI261 := n2_; clear n0_ n1_ n2_; (try clear hb); (try clear hb2); (try clear hk); (try clear hi)))
                        go_meet
                        case rel => exact ⟨_, ((t289 == t295)), (t290), (t291), (t292), (t293), (t294), (t296), (t297), (t298), (t299), (t300), (by first | rfl | (simp; done) | (simp [*]; done)), H', ⟨by have := HJ4.out; have := HK2.out; first | omega | exact Nat.le_refl _⟩, ⟨by repeat (first | (with_reducible first | exact HI255.out | apply IsS35.alloc | apply IsS35.drewN | apply IsS35.drew | apply IsS35.set_0 | apply IsS35.set_1 | apply IsS35.set_2 | apply IsS35.set_3 | apply IsS35.set_4) | exact HI255.out)⟩, ⟨by repeat (first | (with_reducible first | exact HI261.out | apply IsS35.alloc | apply IsS35.drewN | apply IsS35.drew | apply IsS35.set_0 | apply IsS35.set_1 | apply IsS35.set_2 | apply IsS35.set_3 | apply IsS35.set_4) | exact HI261.out)⟩, ⟨by repeat (first | (with_reducible first | exact HB.out | apply below_alloc | apply pw_below_drewN | apply below_drew1 | refine below_set ?_ (IsS35.ge HI255.out) | refine below_set ?_ (IsS35.ge HI261.out)) | exact HB.out)⟩⟩
                      · rw [if_neg c29] at H
                        have c29b0 : (((rd_T42 l2 x10_2).f0) == 2) = false := beq_eq_false_iff_ne.mpr c29
                        have c29b1 : (((rd_T42 l2 x10_2).f0) != 2) = true := bne_iff_ne.mpr c29
                        by_cases c34 : ((rd_T42 l2 x10_2).f0) = 3
                        · rw [if_pos c34] at H
                          have c34b0 : (((rd_T42 l2 x10_2).f0) == 3) = true := beq_iff_eq.mpr c34
                          have c34b1 : (((rd_T42 l2 x10_2).f0) != 3) = false := bne_eq_false_iff_eq.mpr c34
                          clear c34
                          replace H := Option.bind_eq_some_iff.mp H
                          obtain ⟨⟨t302, t305, t306, t307, t308, t309⟩, A350, H⟩ := H
                          replace H : ((cursor_Cursor_Take.f x262000_2 x262001_2 x262002_2 x262003_2 x262004_2 ((rd_T42 l2 x10_2).f1)).bind fun bt311 => (decklelaw04_CursorPlaces.j2 k2 a1 l2 t249 x10_2 ((strOfNums t302).toList == (strOfNums bt311.1).toList) t305 t306 t307 t308 t309 bt311.2.1 bt311.2.2.1 bt311.2.2.2.1 bt311.2.2.2.2.1 bt311.2.2.2.2.2)) = some r := H
                          have A35 := Aside0.mk A350
                          clear A350
                          replace H := Option.bind_eq_some_iff.mp H
                          obtain ⟨⟨t311, t314, t315, t316, t317, t318⟩, A360, H⟩ := H
                          replace H : (decklelaw04_CursorPlaces.j2 k2 a1 l2 t249 x10_2 ((strOfNums t302).toList == (strOfNums t311).toList) t305 t306 t307 t308 t309 t314 t315 t316 t317 t318) = some r := H
                          have A36 := Aside0.mk A360
                          clear A360
                          have H' := Aside0.mk H
                          clear H
                          try go_wp2
                          have n0_ := Aside0.mk (IsS35.drew HI255.out)
                          have n1_ := Aside0.mk (IsS35.drew HI261.out)
                          have n2_ := Aside0.mk (below_drew1 HB.out)
                          clear HI255
                          clear HI261
                          clear HB
                          have HI255 := n0_
                          have HI261 := n1_
                          have HB := n2_
                          clear n0_ n1_ n2_
                          have p301 : 0 ≤ (x10_2 : Int) := of_decide_eq_true (by first | (with_reducible assumption) | assumption)
                          have q301 : x10_2 < (l2.length : Int) := of_decide_eq_true (by first | (with_reducible assumption) | assumption)
                          obtain ⟨ad301, e301, hx301_0, hx301_1⟩ := at_T42 HR2.out x10_2 p301 q301
                          have hw301_1 := hx301_1
                          have hw301_0 := hx301_0
                          obtain rfl : ad262 = ad301 := (by injection e301)
                          replace hx301_0 := (HB.out.cell (World.block_lt_of_cell? w _ hx301_0)).trans hx301_0
                          replace hx301_1 := (HB.out.cell (World.block_lt_of_cell? w _ hx301_1)).trans hx301_1
                          replace p301 := eq_true p301
                          replace q301 := eq_true q301
                          have p310 : 0 ≤ (x10_2 : Int) := of_decide_eq_true (by first | (with_reducible assumption) | assumption)
                          have q310 : x10_2 < (l2.length : Int) := of_decide_eq_true (by first | (with_reducible assumption) | assumption)
                          obtain ⟨ad310, e310, hx310_0, hx310_1⟩ := at_T42 HR2.out x10_2 p310 q310
                          have hw310_1 := hx310_1
                          have hw310_0 := hx310_0
                          obtain rfl : ad262 = ad310 := (by injection e310)
                          replace hx310_0 := (HB.out.cell (World.block_lt_of_cell? w _ hx310_0)).trans hx310_0
                          replace hx310_1 := (HB.out.cell (World.block_lt_of_cell? w _ hx310_1)).trans hx310_1
                          replace p310 := eq_true p310
                          replace q310 := eq_true q310
                          refine start_ (n := 18) (S := fun w' => w'.cell? (ad262.add ((x10_2).toNat * 2)) = some (.int .i64 ((rd_T42 l2 x10_2).f0)) ∧ w'.cell? ⟨(ad262.add ((x10_2).toNat * 2)).block, (ad262.add ((x10_2).toNat * 2)).off + 1, none⟩ = some (.int .i64 ((rd_T42 l2 x10_2).f1)) ∧ w'.cell? (ad262.add ((x10_2).toNat * 2)) = some (.int .i64 ((rd_T42 l2 x10_2).f0)) ∧ w'.cell? ⟨(ad262.add ((x10_2).toNat * 2)).block, (ad262.add ((x10_2).toNat * 2)).off + 1, none⟩ = some (.int .i64 ((rd_T42 l2 x10_2).f1))) (ds := []) #[false, false, false, false, false, false, false, false, false, false, false, false, false, false, false, false, false, false] (by kernel_rfl) rfl rfl ⟨((HB.out.cell (World.block_lt_of_cell? w _ hw301_0)).trans hw301_0), ((HB.out.cell (World.block_lt_of_cell? w _ hw301_1)).trans hw301_1), ((HB.out.cell (World.block_lt_of_cell? w _ hw310_0)).trans hw310_0), ((HB.out.cell (World.block_lt_of_cell? w _ hw310_1)).trans hw310_1)⟩ (fun hHeld => ?_); refine with_tabW decklelaw04_CursorPlaces.tab20 decklelaw04_CursorPlaces.bits20 (fun HT_ HW_ => ?_)
                          generalize wr.drew = w37 at HI255 HI261 HB hx301_0 hx301_1 hx310_0 hx310_1 hHeld ⊢
                          refine pure_ (i := 0) (N := some 87) (v := ?_) (a' := ?_) #[true, false, false, false, false, false, false, false, false, false, false, false, false, false, false, false, false, false] rfl rfl (any_of HT_.out (by kernel_rfl)) (fun _ _ _ h => h) (Or.inl ⟨by rfl, ?_⟩) ?_ ?_
                          rotate_left
                          · intro w'
                            go_simp
                            with_reducible rfl
                          rotate_left
                          · simp only [Act.put, List.setIfInBounds_toArray, List.set_cons_zero, List.set_cons_succ, i64_w, i32_w]
                            rfl
                          refine pure_ (i := 1) (N := some 88) (v := ?_) (a' := ?_) #[true, true, false, false, false, false, false, false, false, false, false, false, false, false, false, false, false, false] rfl rfl (any_of HT_.out (by kernel_rfl)) (fun _ _ _ h => h) (Or.inl ⟨by rfl, ?_⟩) ?_ ?_
                          rotate_left
                          · intro w'
                            go_simp
                            with_reducible rfl
                          rotate_left
                          · simp only [Act.put, List.setIfInBounds_toArray, List.set_cons_zero, List.set_cons_succ, i64_w, i32_w]
                            rfl
                          refine pure_ (i := 2) (N := some 89) (v := ?_) (a' := ?_) #[true, true, true, false, false, false, false, false, false, false, false, false, false, false, false, false, false, false] rfl rfl (any_of HT_.out (by kernel_rfl)) (fun _ _ _ h => h) (Or.inl ⟨by rfl, ?_⟩) ?_ ?_
                          rotate_left
                          · intro w'
                            go_simp
                            with_reducible rfl
                          rotate_left
                          · simp only [Act.put, List.setIfInBounds_toArray, List.set_cons_zero, List.set_cons_succ, i64_w, i32_w]
                            rfl
                          refine pure_ (i := 3) (N := some 90) (v := ?_) (a' := ?_) #[true, true, true, true, false, false, false, false, false, false, false, false, false, false, false, false, false, false] rfl rfl (any_of HT_.out (by kernel_rfl)) (fun _ _ _ h => h) (Or.inl ⟨by rfl, ?_⟩) ?_ ?_
                          rotate_left
                          · intro w'
                            go_simp
                            with_reducible rfl
                          rotate_left
                          · simp only [Act.put, List.setIfInBounds_toArray, List.set_cons_zero, List.set_cons_succ, i64_w, i32_w]
                            rfl
                          refine pure_ (i := 4) (N := some 91) (v := ?_) (a' := ?_) #[true, true, true, true, true, false, false, false, false, false, false, false, false, false, false, false, false, false] rfl rfl (any_of HT_.out (by kernel_rfl)) (fun _ _ _ h => h) (Or.inl ⟨by rfl, ?_⟩) ?_ ?_
                          rotate_left
                          · intro w'
                            go_simp
                            with_reducible rfl
                          rotate_left
                          · simp only [Act.put, List.setIfInBounds_toArray, List.set_cons_zero, List.set_cons_succ, i64_w, i32_w]
                            rfl
                          refine pure_ (i := 8) (N := some 95) (v := ?_) (a' := ?_) #[true, true, true, true, true, false, false, false, true, false, false, false, false, false, false, false, false, false] rfl rfl (any_of HT_.out (by kernel_rfl)) (fun _ _ _ h => h) (Or.inl ⟨by rfl, ?_⟩) ?_ ?_
                          rotate_left
                          · intro w'
                            go_simp
                            with_reducible rfl
                          rotate_left
                          · simp only [Act.put, List.setIfInBounds_toArray, List.set_cons_zero, List.set_cons_succ, i64_w, i32_w]
                            rfl
                          refine pure_ (i := 9) (N := some 96) (v := ?_) (a' := ?_) #[true, true, true, true, true, false, false, false, true, true, false, false, false, false, false, false, false, false] rfl rfl (any_of HT_.out (by kernel_rfl)) (fun _ _ _ h => h) (Or.inl ⟨by rfl, ?_⟩) ?_ ?_
                          rotate_left
                          · intro w'
                            go_simp
                            with_reducible rfl
                          rotate_left
                          · simp only [Act.put, List.setIfInBounds_toArray, List.set_cons_zero, List.set_cons_succ, i64_w, i32_w]
                            rfl
                          refine pure_ (i := 10) (N := some 97) (v := ?_) (a' := ?_) #[true, true, true, true, true, false, false, false, true, true, true, false, false, false, false, false, false, false] rfl rfl (any_of HT_.out (by kernel_rfl)) (fun _ _ _ h => h) (Or.inl ⟨by rfl, ?_⟩) ?_ ?_
                          rotate_left
                          · intro w'
                            go_simp
                            with_reducible rfl
                          rotate_left
                          · simp only [Act.put, List.setIfInBounds_toArray, List.set_cons_zero, List.set_cons_succ, i64_w, i32_w]
                            rfl
                          refine pure_ (i := 11) (N := some 98) (v := ?_) (a' := ?_) #[true, true, true, true, true, false, false, false, true, true, true, true, false, false, false, false, false, false] rfl rfl (any_of HT_.out (by kernel_rfl)) (fun _ _ _ h => h) (Or.inl ⟨by rfl, ?_⟩) ?_ ?_
                          rotate_left
                          · intro w'
                            go_simp
                            with_reducible rfl
                          rotate_left
                          · simp only [Act.put, List.setIfInBounds_toArray, List.set_cons_zero, List.set_cons_succ, i64_w, i32_w]
                            rfl
                          refine pure_ (i := 12) (N := some 99) (v := ?_) (a' := ?_) #[true, true, true, true, true, false, false, false, true, true, true, true, true, false, false, false, false, false] rfl rfl (any_of HT_.out (by kernel_rfl)) (fun _ _ _ h => h) (Or.inl ⟨by rfl, ?_⟩) ?_ ?_
                          rotate_left
                          · intro w'
                            go_simp
                            with_reducible rfl
                          rotate_left
                          · simp only [Act.put, List.setIfInBounds_toArray, List.set_cons_zero, List.set_cons_succ, i64_w, i32_w]
                            rfl
                          refine take_ (i := 5) (N := some 92) (v := ?_) (a' := ?_) #[true, true, true, true, true, true, false, false, true, true, true, true, true, false, false, false, false, false] rfl rfl (take_ofW HT_.out HW_.out (by kernel_rfl)) (fun _ _ _ h => h) (Or.inl ⟨by rfl, ?_⟩) hHeld ?_ ?_
                          rotate_left
                          · rintro w' ⟨s0, s1, s2, s3⟩
                            go_simp
                            with_reducible rfl
                          rotate_left
                          · simp only [Act.put, List.setIfInBounds_toArray, List.set_cons_zero, List.set_cons_succ, i64_w, i32_w]
                            rfl
                          refine take_ (i := 13) (N := some 100) (v := ?_) (a' := ?_) #[true, true, true, true, true, true, false, false, true, true, true, true, true, true, false, false, false, false] rfl rfl (take_ofW HT_.out HW_.out (by kernel_rfl)) (fun _ _ _ h => h) (Or.inl ⟨by rfl, ?_⟩) hHeld ?_ ?_
                          rotate_left
                          · rintro w' ⟨s0, s1, s2, s3⟩
                            go_simp
                            with_reducible rfl
                          rotate_left
                          · simp only [Act.put, List.setIfInBounds_toArray, List.set_cons_zero, List.set_cons_succ, i64_w, i32_w]
                            rfl
                          refine one_ (i := 6) (N := some 93) #[true, true, true, true, true, true, true, false, true, true, true, true, true, true, false, false, false, false] rfl rfl (one_of HT_.out (by kernel_rfl)) (by decide) (fun K hK => ?_)
                          refine goes_ Try.func11 (by kernel_rfl) rfl #[.pointer (some ⟨g255, 0, none⟩), .int .i64 ((rd_T42 l2 x10_2).f1)] (by rfl) rfl rfl (by (try simp only [List.map_toArray, List.map_cons, List.map_nil]); first | done | rfl | (simp only [List.length_drop, List.length_take]; rfl)) ?_
                          with_reducible refine (cursor_Cursor_Take.calls g255 x256000_2 x256001_2 x256002_2 x256003_2 x256004_2 ((rd_T42 l2 x10_2).f1) t302 t305 t306 t307 t308 t309 w _ ?side1 ?side2 A35.out).mono ?_
                          (case side1 => repeat (first | (with_reducible first | exact HI255.out | apply IsS35.alloc | apply IsS35.drewN | apply IsS35.drew | apply IsS35.set_0 | apply IsS35.set_1 | apply IsS35.set_2 | apply IsS35.set_3 | apply IsS35.set_4) | exact HI255.out))
                          (case side2 => repeat (first | (with_reducible first | exact HB.out | apply below_alloc | apply pw_below_drewN | apply below_drew1 | refine below_set ?_ (IsS35.ge HI255.out) | refine below_set ?_ (IsS35.ge HI261.out)) | exact HB.out))
                          rintro e w38 ⟨v303, rfl, ho0, hi, hb, hk⟩
                          refine ⟨_, rfl, ?_⟩
                          have n0_ := Aside0.mk ((IsS35.keepS (show IsS35 w _ g261 x262000_2 x262001_2 x262002_2 x262003_2 x262004_2 from by repeat (first | (with_reducible first | exact HI261.out | apply IsS35.alloc | apply IsS35.drewN | apply IsS35.drew | apply IsS35.set_0 | apply IsS35.set_1 | apply IsS35.set_2 | apply IsS35.set_3 | apply IsS35.set_4) | exact HI261.out)) hk NB261_255.out (IsS35.cells (show IsS35 w _ g255 x256000_2 x256001_2 x256002_2 x256003_2 x256004_2 from by repeat (first | (with_reducible first | exact HI255.out | apply IsS35.alloc | apply IsS35.drewN | apply IsS35.drew | apply IsS35.set_0 | apply IsS35.set_1 | apply IsS35.set_2 | apply IsS35.set_3 | apply IsS35.set_4) | exact HI255.out)))))
                          have n1_ := Aside0.mk (Kd.R_lower ho0 (below_size (by repeat (first | (with_reducible first | exact HB.out | apply below_alloc | apply pw_below_drewN | apply below_drew1 | refine below_set ?_ (IsS35.ge HI255.out) | refine below_set ?_ (IsS35.ge HI261.out)) | exact HB.out))))
                          have n2_ := Aside0.mk (hb)
                          have n3_ := Aside0.mk (hi)
                          clear HI261
                          clear HB
                          clear HI255
                          have HI261 := n0_
                          have HO304 := n1_
                          have HB := n2_
                          have HI255 := n3_
                          clear n0_ n1_ n2_ n3_
                          (try clear hb)
                          (try clear hb2)
                          (try clear hk)
                          (try clear hi)
                          (try clear ho0)
                          refine hK.out _ _ ⟨((HB.out.cell (World.block_lt_of_cell? w _ hw301_0)).trans hw301_0), ((HB.out.cell (World.block_lt_of_cell? w _ hw301_1)).trans hw301_1), ((HB.out.cell (World.block_lt_of_cell? w _ hw310_0)).trans hw310_0), ((HB.out.cell (World.block_lt_of_cell? w _ hw310_1)).trans hw310_1)⟩ (fun hHeld => ?_)
                          clear hK K
                          refine norm_ (a' := ?_) ?_ ?_
                          rotate_left
                          · show Act.put _ (some 93) _ = _
                            simp only [Act.put, List.setIfInBounds_toArray, List.set_cons_zero, List.set_cons_succ, i64_w, i32_w]
                            rfl
                          refine join_ (σ := Value) 2 #[true, true, true, true, true, true, true, true, true, true, true, true, true, true, true, true, false, false] (fun s_ => [(94, .string (strOfNums t302)), (101, s_), (102, .string (strOfNums t311))]) (fun s_ w' => (w'.cell? (ad262.add ((x10_2).toNat * 2)) = some (.int .i64 ((rd_T42 l2 x10_2).f0)) ∧ w'.cell? ⟨(ad262.add ((x10_2).toNat * 2)).block, (ad262.add ((x10_2).toNat * 2)).off + 1, none⟩ = some (.int .i64 ((rd_T42 l2 x10_2).f1)) ∧ w'.cell? (ad262.add ((x10_2).toNat * 2)) = some (.int .i64 ((rd_T42 l2 x10_2).f0)) ∧ w'.cell? ⟨(ad262.add ((x10_2).toNat * 2)).block, (ad262.add ((x10_2).toNat * 2)).off + 1, none⟩ = some (.int .i64 ((rd_T42 l2 x10_2).f1))) ∧ (Kd.R (Kd.int .u8) 5 w' w.heap.size (fun k_ => some k_ ≠ (s_ : Value).ownBlock) v303 t302) ∧ (Kd.R (Kd.int .u8) 5 w' w.heap.size (fun k_ => some k_ ≠ (v303 : Value).ownBlock) s_ t311) ∧ (IsS35 w w' g255 t305 t306 t307 t308 t309) ∧ (IsS35 w w' g261 t314 t315 t316 t317 t318) ∧ (Below w.heap.size w w')) ?_ ?_
                          rotate_left
                          · intro hCont
                            refine two_ (i := 7) (j := 14) (Ni := some 94) (Nj := some 101) #[true, true, true, true, true, true, true, true, true, true, true, true, true, true, false, false, false, false] #[true, true, true, true, true, true, true, false, true, true, true, true, true, true, true, false, false, false] rfl rfl rfl rfl (two_of HT_.out (by kernel_rfl)) (by decide) (by decide) (fun K hK => ?_) (fun K hK => ?_)
                            · skip
                              have hcv39 := own_string (P := Try.prog) Try.underlying22 Try.underlying5 Try.underlying9 (Kd.own_of_R HO304.out)
                              refine value_ (w1 := ?_) (v := ?_) (by rfl) rfl ?_ ?_
                              rotate_left 2
                              · go_simp
                                constructor
                                · rfl
                                · rfl
                              clear hcv39
                              refine hK.out _ _ ⟨((HB.out.cell (World.block_lt_of_cell? w _ hw301_0)).trans hw301_0), ((HB.out.cell (World.block_lt_of_cell? w _ hw301_1)).trans hw301_1), ((HB.out.cell (World.block_lt_of_cell? w _ hw310_0)).trans hw310_0), ((HB.out.cell (World.block_lt_of_cell? w _ hw310_1)).trans hw310_1)⟩ (fun hHeld => ?_)
                              clear hK K
                              refine norm_ (a' := ?_) ?_ ?_
                              rotate_left
                              · show Act.put _ (some 94) _ = _
                                simp only [Act.put, List.setIfInBounds_toArray, List.set_cons_zero, List.set_cons_succ, i64_w, i32_w]
                                rfl
                              refine one_ (i := 14) (N := some 101) #[true, true, true, true, true, true, true, true, true, true, true, true, true, true, true, false, false, false] rfl rfl (one_of HT_.out (by kernel_rfl)) (by decide) (fun K hK => ?_)
                              refine goes_ Try.func11 (by kernel_rfl) rfl #[.pointer (some ⟨g261, 0, none⟩), .int .i64 ((rd_T42 l2 x10_2).f1)] (by rfl) rfl rfl (by (try simp only [List.map_toArray, List.map_cons, List.map_nil]); first | done | rfl | (simp only [List.length_drop, List.length_take]; rfl)) ?_
                              with_reducible refine (cursor_Cursor_Take.calls g261 x262000_2 x262001_2 x262002_2 x262003_2 x262004_2 ((rd_T42 l2 x10_2).f1) t311 t314 t315 t316 t317 t318 w _ ?side1 ?side2 A36.out).mono ?_
                              (case side1 => repeat (first | (with_reducible first | exact HI261.out | apply IsS35.alloc | apply IsS35.drewN | apply IsS35.drew | apply IsS35.set_0 | apply IsS35.set_1 | apply IsS35.set_2 | apply IsS35.set_3 | apply IsS35.set_4) | exact HI261.out))
                              (case side2 => repeat (first | (with_reducible first | exact HB.out | apply below_alloc | apply pw_below_drewN | apply below_drew1 | refine below_set ?_ (IsS35.ge HI255.out) | refine below_set ?_ (IsS35.ge HI261.out)) | exact HB.out))
                              rintro e w40 ⟨v312, rfl, ho0, hi, hb, hk⟩
                              refine ⟨_, rfl, ?_⟩
                              have n0_ := Aside0.mk ((IsS35.keepS (show IsS35 w _ g255 t305 t306 t307 t308 t309 from by repeat (first | (with_reducible first | exact HI255.out | apply IsS35.alloc | apply IsS35.drewN | apply IsS35.drew | apply IsS35.set_0 | apply IsS35.set_1 | apply IsS35.set_2 | apply IsS35.set_3 | apply IsS35.set_4) | exact HI255.out)) hk NB255_261.out (IsS35.cells (show IsS35 w _ g261 x262000_2 x262001_2 x262002_2 x262003_2 x262004_2 from by repeat (first | (with_reducible first | exact HI261.out | apply IsS35.alloc | apply IsS35.drewN | apply IsS35.drew | apply IsS35.set_0 | apply IsS35.set_1 | apply IsS35.set_2 | apply IsS35.set_3 | apply IsS35.set_4) | exact HI261.out)))))
                              have n1_ := Aside0.mk (Kd.R_mono (Kd.R_told (Kd.R_oldK (IsS35.apart (show IsS35 w _ g261 x262000_2 x262001_2 x262002_2 x262003_2 x262004_2 from by repeat (first | (with_reducible first | exact HI261.out | apply IsS35.alloc | apply IsS35.drewN | apply IsS35.drew | apply IsS35.set_0 | apply IsS35.set_1 | apply IsS35.set_2 | apply IsS35.set_3 | apply IsS35.set_4) | exact HI261.out)) (by (with_reducible repeat (first | apply Kd.R_alloc | apply Kd.R_drewN | apply Kd.R_drew)); exact HO304.out) (by decide)) hk) (Kd.R_base ho0)) (fun _ h_ => h_.1))
                              have n2_ := Aside0.mk (Kd.R_lower (Kd.R_new' ho0 (Kd.R_lt (by (with_reducible repeat (first | apply Kd.R_alloc | apply Kd.R_drewN | apply Kd.R_drew)); exact HO304.out))) (below_size (by repeat (first | (with_reducible first | exact HB.out | apply below_alloc | apply pw_below_drewN | apply below_drew1 | refine below_set ?_ (IsS35.ge HI255.out) | refine below_set ?_ (IsS35.ge HI261.out)) | exact HB.out))))
                              have n3_ := Aside0.mk (hb)
                              have n4_ := Aside0.mk (hi)
                              clear HI255
                              clear HO304
                              clear HB
                              clear HI261
                              have HI255 := n0_
                              have HO304 := n1_
                              have HO313 := n2_
                              have HB := n3_
                              have HI261 := n4_
                              clear n0_ n1_ n2_ n3_ n4_
                              (try clear hb)
                              (try clear hb2)
                              (try clear hk)
                              (try clear hi)
                              (try clear ho0)
                              refine hK.out _ _ ⟨((HB.out.cell (World.block_lt_of_cell? w _ hw301_0)).trans hw301_0), ((HB.out.cell (World.block_lt_of_cell? w _ hw301_1)).trans hw301_1), ((HB.out.cell (World.block_lt_of_cell? w _ hw310_0)).trans hw310_0), ((HB.out.cell (World.block_lt_of_cell? w _ hw310_1)).trans hw310_1)⟩ (fun hHeld => ?_)
                              clear hK K
                              refine norm_ (a' := ?_) ?_ ?_
                              rotate_left
                              · show Act.put _ (some 101) _ = _
                                simp only [Act.put, List.setIfInBounds_toArray, List.set_cons_zero, List.set_cons_succ, i64_w, i32_w]
                                rfl
                              refine one_ (i := 15) (N := some 102) #[true, true, true, true, true, true, true, true, true, true, true, true, true, true, true, true, false, false] rfl rfl (one_of HT_.out (by kernel_rfl)) (by decide) (fun K hK => ?_)
                              have hcv41 := own_string (P := Try.prog) Try.underlying22 Try.underlying5 Try.underlying9 (Kd.own_of_R HO313.out)
                              refine value_ (w1 := ?_) (v := ?_) (by rfl) rfl ?_ ?_
                              rotate_left 2
                              · go_simp
                                constructor
                                · rfl
                                · rfl
                              clear hcv41
                              refine hK.out _ _ ⟨((HB.out.cell (World.block_lt_of_cell? w _ hw301_0)).trans hw301_0), ((HB.out.cell (World.block_lt_of_cell? w _ hw301_1)).trans hw301_1), ((HB.out.cell (World.block_lt_of_cell? w _ hw310_0)).trans hw310_0), ((HB.out.cell (World.block_lt_of_cell? w _ hw310_1)).trans hw310_1)⟩ (fun hHeld => ?_)
                              clear hK K
                              refine norm_ (a' := ?_) ?_ ?_
                              rotate_left
                              · show Act.put _ (some 102) _ = _
                                simp only [Act.put, List.setIfInBounds_toArray, List.set_cons_zero, List.set_cons_succ, i64_w, i32_w]
                                rfl
                              exact norm_ (by simp only [putAll, Act.put, List.setIfInBounds_toArray, List.set_cons_zero, List.set_cons_succ]) (hCont (v312) _ ⟨hHeld, (by (with_reducible repeat (first | apply Kd.R_alloc | apply Kd.R_drewN | apply Kd.R_drew)); exact Kd.R_mono HO304.out (fun _ hk => hk.2)), (by (with_reducible repeat (first | apply Kd.R_alloc | apply Kd.R_drewN | apply Kd.R_drew)); exact Kd.R_mono HO313.out (fun _ hk => hk.2)), (by repeat (first | (with_reducible first | exact HI255.out | apply IsS35.alloc | apply IsS35.drewN | apply IsS35.drew | apply IsS35.set_0 | apply IsS35.set_1 | apply IsS35.set_2 | apply IsS35.set_3 | apply IsS35.set_4) | exact HI255.out)), (by repeat (first | (with_reducible first | exact HI261.out | apply IsS35.alloc | apply IsS35.drewN | apply IsS35.drew | apply IsS35.set_0 | apply IsS35.set_1 | apply IsS35.set_2 | apply IsS35.set_3 | apply IsS35.set_4) | exact HI261.out)), (by repeat (first | (with_reducible first | exact HB.out | apply below_alloc | apply pw_below_drewN | apply below_drew1 | refine below_set ?_ (IsS35.ge HI255.out) | refine below_set ?_ (IsS35.ge HI261.out)) | exact HB.out))⟩)
                            · skip
                              refine goes_ Try.func11 (by kernel_rfl) rfl #[.pointer (some ⟨g261, 0, none⟩), .int .i64 ((rd_T42 l2 x10_2).f1)] (by rfl) rfl rfl (by (try simp only [List.map_toArray, List.map_cons, List.map_nil]); first | done | rfl | (simp only [List.length_drop, List.length_take]; rfl)) ?_
                              with_reducible refine (cursor_Cursor_Take.calls g261 x262000_2 x262001_2 x262002_2 x262003_2 x262004_2 ((rd_T42 l2 x10_2).f1) t311 t314 t315 t316 t317 t318 w _ ?side1 ?side2 A36.out).mono ?_
                              (case side1 => repeat (first | (with_reducible first | exact HI261.out | apply IsS35.alloc | apply IsS35.drewN | apply IsS35.drew | apply IsS35.set_0 | apply IsS35.set_1 | apply IsS35.set_2 | apply IsS35.set_3 | apply IsS35.set_4) | exact HI261.out))
                              (case side2 => repeat (first | (with_reducible first | exact HB.out | apply below_alloc | apply pw_below_drewN | apply below_drew1 | refine below_set ?_ (IsS35.ge HI255.out) | refine below_set ?_ (IsS35.ge HI261.out)) | exact HB.out))
                              rintro e w39 ⟨v312, rfl, ho0, hi, hb, hk⟩
                              refine ⟨_, rfl, ?_⟩
                              have n0_ := Aside0.mk ((IsS35.keepS (show IsS35 w _ g255 t305 t306 t307 t308 t309 from by repeat (first | (with_reducible first | exact HI255.out | apply IsS35.alloc | apply IsS35.drewN | apply IsS35.drew | apply IsS35.set_0 | apply IsS35.set_1 | apply IsS35.set_2 | apply IsS35.set_3 | apply IsS35.set_4) | exact HI255.out)) hk NB255_261.out (IsS35.cells (show IsS35 w _ g261 x262000_2 x262001_2 x262002_2 x262003_2 x262004_2 from by repeat (first | (with_reducible first | exact HI261.out | apply IsS35.alloc | apply IsS35.drewN | apply IsS35.drew | apply IsS35.set_0 | apply IsS35.set_1 | apply IsS35.set_2 | apply IsS35.set_3 | apply IsS35.set_4) | exact HI261.out)))))
                              have n1_ := Aside0.mk (Kd.R_mono (Kd.R_told (Kd.R_oldK (IsS35.apart (show IsS35 w _ g261 x262000_2 x262001_2 x262002_2 x262003_2 x262004_2 from by repeat (first | (with_reducible first | exact HI261.out | apply IsS35.alloc | apply IsS35.drewN | apply IsS35.drew | apply IsS35.set_0 | apply IsS35.set_1 | apply IsS35.set_2 | apply IsS35.set_3 | apply IsS35.set_4) | exact HI261.out)) (by (with_reducible repeat (first | apply Kd.R_alloc | apply Kd.R_drewN | apply Kd.R_drew)); exact HO304.out) (by decide)) hk) (Kd.R_base ho0)) (fun _ h_ => h_.1))
                              have n2_ := Aside0.mk (Kd.R_lower (Kd.R_new' ho0 (Kd.R_lt (by (with_reducible repeat (first | apply Kd.R_alloc | apply Kd.R_drewN | apply Kd.R_drew)); exact HO304.out))) (below_size (by repeat (first | (with_reducible first | exact HB.out | apply below_alloc | apply pw_below_drewN | apply below_drew1 | refine below_set ?_ (IsS35.ge HI255.out) | refine below_set ?_ (IsS35.ge HI261.out)) | exact HB.out))))
                              have n3_ := Aside0.mk (hb)
                              have n4_ := Aside0.mk (hi)
                              clear HI255
                              clear HO304
                              clear HB
                              clear HI261
                              have HI255 := n0_
                              have HO304 := n1_
                              have HO313 := n2_
                              have HB := n3_
                              have HI261 := n4_
                              clear n0_ n1_ n2_ n3_ n4_
                              (try clear hb)
                              (try clear hb2)
                              (try clear hk)
                              (try clear hi)
                              (try clear ho0)
                              refine hK.out _ _ ⟨((HB.out.cell (World.block_lt_of_cell? w _ hw301_0)).trans hw301_0), ((HB.out.cell (World.block_lt_of_cell? w _ hw301_1)).trans hw301_1), ((HB.out.cell (World.block_lt_of_cell? w _ hw310_0)).trans hw310_0), ((HB.out.cell (World.block_lt_of_cell? w _ hw310_1)).trans hw310_1)⟩ (fun hHeld => ?_)
                              clear hK K
                              refine norm_ (a' := ?_) ?_ ?_
                              rotate_left
                              · show Act.put _ (some 101) _ = _
                                simp only [Act.put, List.setIfInBounds_toArray, List.set_cons_zero, List.set_cons_succ, i64_w, i32_w]
                                rfl
                              refine two_ (i := 7) (j := 15) (Ni := some 94) (Nj := some 102) #[true, true, true, true, true, true, true, true, true, true, true, true, true, true, true, false, false, false] #[true, true, true, true, true, true, true, false, true, true, true, true, true, true, true, true, false, false] rfl rfl rfl rfl (two_of HT_.out (by kernel_rfl)) (by decide) (by decide) (fun K hK => ?_) (fun K hK => ?_)
                              · skip
                                have hcv40 := own_string (P := Try.prog) Try.underlying22 Try.underlying5 Try.underlying9 (Kd.own_of_R HO304.out)
                                refine value_ (w1 := ?_) (v := ?_) (by rfl) rfl ?_ ?_
                                rotate_left 2
                                · go_simp
                                  constructor
                                  · rfl
                                  · rfl
                                clear hcv40
                                refine hK.out _ _ ⟨((HB.out.cell (World.block_lt_of_cell? w _ hw301_0)).trans hw301_0), ((HB.out.cell (World.block_lt_of_cell? w _ hw301_1)).trans hw301_1), ((HB.out.cell (World.block_lt_of_cell? w _ hw310_0)).trans hw310_0), ((HB.out.cell (World.block_lt_of_cell? w _ hw310_1)).trans hw310_1)⟩ (fun hHeld => ?_)
                                clear hK K
                                refine norm_ (a' := ?_) ?_ ?_
                                rotate_left
                                · show Act.put _ (some 94) _ = _
                                  simp only [Act.put, List.setIfInBounds_toArray, List.set_cons_zero, List.set_cons_succ, i64_w, i32_w]
                                  rfl
                                refine one_ (i := 15) (N := some 102) #[true, true, true, true, true, true, true, true, true, true, true, true, true, true, true, true, false, false] rfl rfl (one_of HT_.out (by kernel_rfl)) (by decide) (fun K hK => ?_)
                                have hcv41 := own_string (P := Try.prog) Try.underlying22 Try.underlying5 Try.underlying9 (Kd.own_of_R HO313.out)
                                refine value_ (w1 := ?_) (v := ?_) (by rfl) rfl ?_ ?_
                                rotate_left 2
                                · go_simp
                                  constructor
                                  · rfl
                                  · rfl
                                clear hcv41
                                refine hK.out _ _ ⟨((HB.out.cell (World.block_lt_of_cell? w _ hw301_0)).trans hw301_0), ((HB.out.cell (World.block_lt_of_cell? w _ hw301_1)).trans hw301_1), ((HB.out.cell (World.block_lt_of_cell? w _ hw310_0)).trans hw310_0), ((HB.out.cell (World.block_lt_of_cell? w _ hw310_1)).trans hw310_1)⟩ (fun hHeld => ?_)
                                clear hK K
                                refine norm_ (a' := ?_) ?_ ?_
                                rotate_left
                                · show Act.put _ (some 102) _ = _
                                  simp only [Act.put, List.setIfInBounds_toArray, List.set_cons_zero, List.set_cons_succ, i64_w, i32_w]
                                  rfl
                                exact norm_ (by simp only [putAll, Act.put, List.setIfInBounds_toArray, List.set_cons_zero, List.set_cons_succ]) (hCont (v312) _ ⟨hHeld, (by (with_reducible repeat (first | apply Kd.R_alloc | apply Kd.R_drewN | apply Kd.R_drew)); exact Kd.R_mono HO304.out (fun _ hk => hk.2)), (by (with_reducible repeat (first | apply Kd.R_alloc | apply Kd.R_drewN | apply Kd.R_drew)); exact Kd.R_mono HO313.out (fun _ hk => hk.2)), (by repeat (first | (with_reducible first | exact HI255.out | apply IsS35.alloc | apply IsS35.drewN | apply IsS35.drew | apply IsS35.set_0 | apply IsS35.set_1 | apply IsS35.set_2 | apply IsS35.set_3 | apply IsS35.set_4) | exact HI255.out)), (by repeat (first | (with_reducible first | exact HI261.out | apply IsS35.alloc | apply IsS35.drewN | apply IsS35.drew | apply IsS35.set_0 | apply IsS35.set_1 | apply IsS35.set_2 | apply IsS35.set_3 | apply IsS35.set_4) | exact HI261.out)), (by repeat (first | (with_reducible first | exact HB.out | apply below_alloc | apply pw_below_drewN | apply below_drew1 | refine below_set ?_ (IsS35.ge HI255.out) | refine below_set ?_ (IsS35.ge HI261.out)) | exact HB.out))⟩)
                              · skip
                                have hcv40 := own_string (P := Try.prog) Try.underlying22 Try.underlying5 Try.underlying9 (Kd.own_of_R HO313.out)
                                refine value_ (w1 := ?_) (v := ?_) (by rfl) rfl ?_ ?_
                                rotate_left 2
                                · go_simp
                                  constructor
                                  · rfl
                                  · rfl
                                clear hcv40
                                refine hK.out _ _ ⟨((HB.out.cell (World.block_lt_of_cell? w _ hw301_0)).trans hw301_0), ((HB.out.cell (World.block_lt_of_cell? w _ hw301_1)).trans hw301_1), ((HB.out.cell (World.block_lt_of_cell? w _ hw310_0)).trans hw310_0), ((HB.out.cell (World.block_lt_of_cell? w _ hw310_1)).trans hw310_1)⟩ (fun hHeld => ?_)
                                clear hK K
                                refine norm_ (a' := ?_) ?_ ?_
                                rotate_left
                                · show Act.put _ (some 102) _ = _
                                  simp only [Act.put, List.setIfInBounds_toArray, List.set_cons_zero, List.set_cons_succ, i64_w, i32_w]
                                  rfl
                                refine one_ (i := 7) (N := some 94) #[true, true, true, true, true, true, true, true, true, true, true, true, true, true, true, true, false, false] rfl rfl (one_of HT_.out (by kernel_rfl)) (by decide) (fun K hK => ?_)
                                have hcv41 := own_string (P := Try.prog) Try.underlying22 Try.underlying5 Try.underlying9 (Kd.own_of_R HO304.out)
                                refine value_ (w1 := ?_) (v := ?_) (by rfl) rfl ?_ ?_
                                rotate_left 2
                                · go_simp
                                  constructor
                                  · rfl
                                  · rfl
                                clear hcv41
                                refine hK.out _ _ ⟨((HB.out.cell (World.block_lt_of_cell? w _ hw301_0)).trans hw301_0), ((HB.out.cell (World.block_lt_of_cell? w _ hw301_1)).trans hw301_1), ((HB.out.cell (World.block_lt_of_cell? w _ hw310_0)).trans hw310_0), ((HB.out.cell (World.block_lt_of_cell? w _ hw310_1)).trans hw310_1)⟩ (fun hHeld => ?_)
                                clear hK K
                                refine norm_ (a' := ?_) ?_ ?_
                                rotate_left
                                · show Act.put _ (some 94) _ = _
                                  simp only [Act.put, List.setIfInBounds_toArray, List.set_cons_zero, List.set_cons_succ, i64_w, i32_w]
                                  rfl
                                exact norm_ (by simp only [putAll, Act.put, List.setIfInBounds_toArray, List.set_cons_zero, List.set_cons_succ]) (hCont (v312) _ ⟨hHeld, (by (with_reducible repeat (first | apply Kd.R_alloc | apply Kd.R_drewN | apply Kd.R_drew)); exact Kd.R_mono HO304.out (fun _ hk => hk.2)), (by (with_reducible repeat (first | apply Kd.R_alloc | apply Kd.R_drewN | apply Kd.R_drew)); exact Kd.R_mono HO313.out (fun _ hk => hk.2)), (by repeat (first | (with_reducible first | exact HI255.out | apply IsS35.alloc | apply IsS35.drewN | apply IsS35.drew | apply IsS35.set_0 | apply IsS35.set_1 | apply IsS35.set_2 | apply IsS35.set_3 | apply IsS35.set_4) | exact HI255.out)), (by repeat (first | (with_reducible first | exact HI261.out | apply IsS35.alloc | apply IsS35.drewN | apply IsS35.drew | apply IsS35.set_0 | apply IsS35.set_1 | apply IsS35.set_2 | apply IsS35.set_3 | apply IsS35.set_4) | exact HI261.out)), (by repeat (first | (with_reducible first | exact HB.out | apply below_alloc | apply pw_below_drewN | apply below_drew1 | refine below_set ?_ (IsS35.ge HI255.out) | refine below_set ?_ (IsS35.ge HI261.out)) | exact HB.out))⟩)
                          rintro v312 w42 ⟨hS_, h0_, h1_, h2_, h3_, h4_⟩
                          have n0_ : Aside0 (Kd.R (Kd.int .u8) 5 w42 w.heap.size (fun k_ => some k_ ≠ (v312 : Value).ownBlock) v303 t302) := ⟨h0_⟩
                          have n1_ : Aside0 (Kd.R (Kd.int .u8) 5 w42 w.heap.size (fun k_ => some k_ ≠ (v303 : Value).ownBlock) v312 t311) := ⟨h1_⟩
                          have n2_ : Aside0 (IsS35 w w42 g255 t305 t306 t307 t308 t309) := ⟨h2_⟩
                          have n3_ : Aside0 (IsS35 w w42 g261 t314 t315 t316 t317 t318) := ⟨h3_⟩
                          have n4_ : Aside0 (Below w.heap.size w w42) := ⟨h4_⟩
                          clear HI255
                          clear HI261
                          clear HB
                          clear h0_ h1_ h2_ h3_ h4_
                          have HO304 := n0_
                          have HO313 := n1_
                          have HI255 := n2_
                          have HI261 := n3_
                          have HB := n4_
                          clear n0_ n1_ n2_ n3_ n4_
                          have hHeld : w42.cell? (ad262.add ((x10_2).toNat * 2)) = some (.int .i64 ((rd_T42 l2 x10_2).f0)) ∧ w42.cell? ⟨(ad262.add ((x10_2).toNat * 2)).block, (ad262.add ((x10_2).toNat * 2)).off + 1, none⟩ = some (.int .i64 ((rd_T42 l2 x10_2).f1)) ∧ w42.cell? (ad262.add ((x10_2).toNat * 2)) = some (.int .i64 ((rd_T42 l2 x10_2).f0)) ∧ w42.cell? ⟨(ad262.add ((x10_2).toNat * 2)).block, (ad262.add ((x10_2).toNat * 2)).off + 1, none⟩ = some (.int .i64 ((rd_T42 l2 x10_2).f1)) := hS_
                          refine norm_ (a' := ?_) ?_ ?_
                          rotate_left
                          · simp only [putAll, Act.put, List.setIfInBounds_toArray, List.set_cons_zero, List.set_cons_succ]
                            rfl
                          refine pure_ (i := 16) (N := some 103) (v := ?_) (a' := ?_) #[true, true, true, true, true, true, true, true, true, true, true, true, true, true, true, true, true, false] rfl rfl (any_of HT_.out (by kernel_rfl)) (fun _ _ _ h => h) (Or.inl ⟨by rfl, ?_⟩) ?_ ?_
                          rotate_left
                          · intro w'
                            go_simp
                            with_reducible rfl
                          rotate_left
                          · simp only [Act.put, List.setIfInBounds_toArray, List.set_cons_zero, List.set_cons_succ, i64_w, i32_w]
                            rfl
                          refine pure_ (i := 17) (N := some 11) (v := ?_) (a' := ?_) #[true, true, true, true, true, true, true, true, true, true, true, true, true, true, true, true, true, true] rfl rfl (any_of HT_.out (by kernel_rfl)) (fun _ _ _ h => h) (Or.inl ⟨by rfl, ?_⟩) ?_ ?_
                          rotate_left
                          · intro w'
                            go_simp
                            with_reducible rfl
                          rotate_left
                          · simp only [Act.put, List.setIfInBounds_toArray, List.set_cons_zero, List.set_cons_succ, i64_w, i32_w]
                            rfl
                          refine done_ (done_of HT_.out (by kernel_rfl)) ?_
                          try go_wp2
                          go_meet
                          case rel => exact ⟨_, (((strOfNums t302).toList == (strOfNums t311).toList)), (t305), (t306), (t307), (t308), (t309), (t314), (t315), (t316), (t317), (t318), (by first | rfl | (simp; done) | (simp [*]; done)), H', ⟨by have := HJ4.out; have := HK2.out; first | omega | exact Nat.le_refl _⟩, ⟨by repeat (first | (with_reducible first | exact HI255.out | apply IsS35.alloc | apply IsS35.drewN | apply IsS35.drew | apply IsS35.set_0 | apply IsS35.set_1 | apply IsS35.set_2 | apply IsS35.set_3 | apply IsS35.set_4) | exact HI255.out)⟩, ⟨by repeat (first | (with_reducible first | exact HI261.out | apply IsS35.alloc | apply IsS35.drewN | apply IsS35.drew | apply IsS35.set_0 | apply IsS35.set_1 | apply IsS35.set_2 | apply IsS35.set_3 | apply IsS35.set_4) | exact HI261.out)⟩, ⟨by repeat (first | (with_reducible first | exact HB.out | apply below_alloc | apply pw_below_drewN | apply below_drew1 | refine below_set ?_ (IsS35.ge HI255.out) | refine below_set ?_ (IsS35.ge HI261.out)) | exact HB.out)⟩⟩
                        · rw [if_neg c34] at H
                          have c34b0 : (((rd_T42 l2 x10_2).f0) == 3) = false := beq_eq_false_iff_ne.mpr c34
                          have c34b1 : (((rd_T42 l2 x10_2).f0) != 3) = true := bne_iff_ne.mpr c34
                          have H' := Aside0.mk H
                          clear H
                          go_wp2
                          go_meet
                          case rel => exact ⟨_, (true), (x256000_2), (x256001_2), (x256002_2), (x256003_2), (x256004_2), (x262000_2), (x262001_2), (x262002_2), (x262003_2), (x262004_2), (by first | rfl | (simp; done) | (simp [*]; done)), H', ⟨by have := HJ4.out; have := HK2.out; first | omega | exact Nat.le_refl _⟩, ⟨by repeat (first | (with_reducible first | exact HI255.out | apply IsS35.alloc | apply IsS35.drewN | apply IsS35.drew | apply IsS35.set_0 | apply IsS35.set_1 | apply IsS35.set_2 | apply IsS35.set_3 | apply IsS35.set_4) | exact HI255.out)⟩, ⟨by repeat (first | (with_reducible first | exact HI261.out | apply IsS35.alloc | apply IsS35.drewN | apply IsS35.drew | apply IsS35.set_0 | apply IsS35.set_1 | apply IsS35.set_2 | apply IsS35.set_3 | apply IsS35.set_4) | exact HI261.out)⟩, ⟨by repeat (first | (with_reducible first | exact HB.out | apply below_alloc | apply pw_below_drewN | apply below_drew1 | refine below_set ?_ (IsS35.ge HI255.out) | refine below_set ?_ (IsS35.ge HI261.out)) | exact HB.out)⟩⟩
                case rest =>
                  clear HC17
                  try clear c1
                  try clear c2
                  try clear p2
                  try clear hx2
                  try clear c3
                  try clear p3
                  try clear q3
                  try clear hx3
                  try clear hcv3
                  try clear hcv4
                  try clear c11
                  try clear c17
                  try clear c19
                  try clear c23
                  try clear c23b0
                  try clear c23b1
                  try clear hx27
                  try clear hx28
                  try clear c29
                  try clear c29b0
                  try clear c29b1
                  try clear p30
                  try clear q30
                  try clear hx30
                  try clear p31
                  try clear q31
                  try clear hx31
                  try clear c34
                  try clear c34b0
                  try clear c34b1
                  try clear hcv39
                  try clear hcv40
                  try clear hcv41
                  try clear hx275_0
                  try clear hx275_1
                  try clear hx282_0
                  try clear hx282_1
                  try clear hx301_0
                  try clear hx301_1
                  try clear hx310_0
                  try clear hx310_1
                  try clear p301
                  try clear p310
                  try clear q301
                  try clear q310
                  obtain ⟨kq, x11_16, x256000_16, x256001_16, x256002_16, x256003_16, x256004_16, x262000_16, x262001_16, x262002_16, x262003_16, x262004_16, rfl, HA, HJ16, HI255, HI261, HB⟩ := hcut
                  cases kq with
                  | zero => exact absurd HA.out (by simp [decklelaw04_CursorPlaces.j2])
                  | succ kj16 =>
                    have H := HA.out
                    clear HA
                    simp only [decklelaw04_CursorPlaces.j2] at H
                    replace H := Option.bind_eq_some_iff.mp H
                    obtain ⟨⟨t319, t320, t321, t322, t323, t324, t325, t326⟩, A430, H⟩ := H
                    replace H : ((cursor_place_Fault.f x262000_16 x262001_16 x262002_16 x262003_16 x262004_16).bind fun bt328 => (if t319 = 0 then (decklelaw04_CursorPlaces.j3 kj16 a1 l2 t249 x10_2 x11_16 t322 t323 t324 t325 t326 bt328.2.2.2.1 bt328.2.2.2.2.1 bt328.2.2.2.2.2.1 bt328.2.2.2.2.2.2.1 bt328.2.2.2.2.2.2.2 t319 t320 t321 bt328.1 bt328.2.1 bt328.2.2.1) else (decklelaw04_CursorPlaces.j3 kj16 a1 l2 t249 x10_2 x11_16 t322 t323 t324 t325 t326 bt328.2.2.2.1 bt328.2.2.2.2.1 bt328.2.2.2.2.2.1 bt328.2.2.2.2.2.2.1 bt328.2.2.2.2.2.2.2 t319 t320 (wrap64 (t321 + a1)) bt328.1 bt328.2.1 bt328.2.2.1))) = some r := H
                    have A43 := Aside0.mk A430
                    clear A430
                    replace H := Option.bind_eq_some_iff.mp H
                    obtain ⟨⟨t328, t329, t330, t331, t332, t333, t334, t335⟩, A440, H⟩ := H
                    replace H : (if t319 = 0 then (decklelaw04_CursorPlaces.j3 kj16 a1 l2 t249 x10_2 x11_16 t322 t323 t324 t325 t326 t331 t332 t333 t334 t335 t319 t320 t321 t328 t329 t330) else (decklelaw04_CursorPlaces.j3 kj16 a1 l2 t249 x10_2 x11_16 t322 t323 t324 t325 t326 t331 t332 t333 t334 t335 t319 t320 (wrap64 (t321 + a1)) t328 t329 t330)) = some r := H
                    have A44 := Aside0.mk A440
                    clear A440
                    have HC45 := Aside0.mk H
                    clear H
                    go_upto_if 114 with (first | ((with_reducible refine gate_callee (f := 13) rfl ?_); refine goesL_ (some 107) rfl rfl Try.func13 (by kernel_rfl) rfl #[.pointer (some ⟨g255, 0, none⟩)] rfl (by (try simp only [List.map_toArray, List.map_cons, List.map_nil]); first | done | rfl | (simp only [List.length_drop, List.length_take]; rfl)) ?_; (with_reducible refine (cursor_place_Fault.calls g255 x256000_16 x256001_16 x256002_16 x256003_16 x256004_16 t319 t320 t321 t322 t323 t324 t325 t326 w _ ?side1 ?side2 A43.out).mono ?_); (case side1 => repeat (first | (with_reducible first | exact HI255.out | apply IsS35.alloc | apply IsS35.drewN | apply IsS35.drew | apply IsS35.set_0 | apply IsS35.set_1 | apply IsS35.set_2 | apply IsS35.set_3 | apply IsS35.set_4) | exact HI255.out)); (case side2 => repeat (first | (with_reducible first | exact HB.out | apply below_alloc | apply pw_below_drewN | apply below_drew1 | refine below_set ?_ (IsS35.ge HI255.out) | refine below_set ?_ (IsS35.ge HI261.out)) | exact HB.out)); rintro e w46 ⟨rfl, hi, hb, hk⟩; refine ⟨_, rfl, ?_⟩; have n0_ := Aside0.mk ((IsS35.keepS (show IsS35 w _ g261 x262000_16 x262001_16 x262002_16 x262003_16 x262004_16 from by repeat (first | (with_reducible first | exact HI261.out | apply IsS35.alloc | apply IsS35.drewN | apply IsS35.drew | apply IsS35.set_0 | apply IsS35.set_1 | apply IsS35.set_2 | apply IsS35.set_3 | apply IsS35.set_4) | exact HI261.out)) hk NB261_255.out (IsS35.cells (show IsS35 w _ g255 x256000_16 x256001_16 x256002_16 x256003_16 x256004_16 from by repeat (first | (with_reducible first | exact HI255.out | apply IsS35.alloc | apply IsS35.drewN | apply IsS35.drew | apply IsS35.set_0 | apply IsS35.set_1 | apply IsS35.set_2 | apply IsS35.set_3 | apply IsS35.set_4) | exact HI255.out))))); have n1_ := Aside0.mk (hb); have n2_ := Aside0.mk (hi); clear HI261; clear HB; clear HI255; have HI261 := n0_; have HB := n1_; have HI255 := n2_; clear n0_ n1_ n2_; (try clear hb); (try clear hb2); (try clear hk); (try clear hi)) | ((with_reducible refine gate_dst (N := 12) rfl ?_); (try (refine gate_guard (by rfl) ?_; dsimp only)); refine box_event ?hg (N := 12) ?hd (cs := #[.int .i64 0, .int .i64 0, .int .i64 0]) (t := 31) ?hr ?_; (case hd => rfl); (case hg => rfl); (case hr => first | (go_simp; done) | (go_simp; rfl)); intro gb327 hg w47 hbox hb; have n0_ := Aside0.mk (IsS35.below (by repeat (first | (with_reducible first | exact HI255.out | apply IsS35.alloc | apply IsS35.drewN | apply IsS35.drew | apply IsS35.set_0 | apply IsS35.set_1 | apply IsS35.set_2 | apply IsS35.set_3 | apply IsS35.set_4) | exact HI255.out)) hb); have n1_ := Aside0.mk (IsS35.below (by repeat (first | (with_reducible first | exact HI261.out | apply IsS35.alloc | apply IsS35.drewN | apply IsS35.drew | apply IsS35.set_0 | apply IsS35.set_1 | apply IsS35.set_2 | apply IsS35.set_3 | apply IsS35.set_4) | exact HI261.out)) hb); have n2_ := Aside0.mk (below_step (by repeat (first | (with_reducible first | exact HB.out | apply below_alloc | apply pw_below_drewN | apply below_drew1 | refine below_set ?_ (IsS35.ge HI255.out) | refine below_set ?_ (IsS35.ge HI261.out)) | exact HB.out)) hb); have n3_ := Aside0.mk (hbox); have n4_ := Aside0.mk ((by rw [hg]; exact (below_size (by repeat (first | (with_reducible first | exact HB.out | apply below_alloc | apply pw_below_drewN | apply below_drew1 | refine below_set ?_ (IsS35.ge HI255.out) | refine below_set ?_ (IsS35.ge HI261.out)) | exact HB.out))) : w.heap.size ≤ gb327)); have n5_ := Aside0.mk ((by rw [hg]; exact (below_size (by repeat (first | (with_reducible first | exact HB.out | apply below_alloc | apply pw_below_drewN | apply below_drew1 | refine below_set ?_ (IsS35.ge HI255.out) | refine below_set ?_ (IsS35.ge HI261.out)) | exact HB.out))) : w.heap.size ≤ gb327)); have n6_ := Aside0.mk ((by rw [hg]; exact Nat.ne_of_lt (IsS35.lt (show IsS35 w _ g255 t322 t323 t324 t325 t326 from by repeat (first | (with_reducible first | exact HI255.out | apply IsS35.alloc | apply IsS35.drewN | apply IsS35.drew | apply IsS35.set_0 | apply IsS35.set_1 | apply IsS35.set_2 | apply IsS35.set_3 | apply IsS35.set_4) | exact HI255.out))) : g255 ≠ gb327)); have n7_ := Aside0.mk ((by rw [hg]; exact Nat.ne_of_gt (IsS35.lt (show IsS35 w _ g255 t322 t323 t324 t325 t326 from by repeat (first | (with_reducible first | exact HI255.out | apply IsS35.alloc | apply IsS35.drewN | apply IsS35.drew | apply IsS35.set_0 | apply IsS35.set_1 | apply IsS35.set_2 | apply IsS35.set_3 | apply IsS35.set_4) | exact HI255.out))) : gb327 ≠ g255)); have n8_ := Aside0.mk ((by rw [hg]; exact Nat.ne_of_lt (IsS35.lt (show IsS35 w _ g261 x262000_16 x262001_16 x262002_16 x262003_16 x262004_16 from by repeat (first | (with_reducible first | exact HI261.out | apply IsS35.alloc | apply IsS35.drewN | apply IsS35.drew | apply IsS35.set_0 | apply IsS35.set_1 | apply IsS35.set_2 | apply IsS35.set_3 | apply IsS35.set_4) | exact HI261.out))) : g261 ≠ gb327)); have n9_ := Aside0.mk ((by rw [hg]; exact Nat.ne_of_gt (IsS35.lt (show IsS35 w _ g261 x262000_16 x262001_16 x262002_16 x262003_16 x262004_16 from by repeat (first | (with_reducible first | exact HI261.out | apply IsS35.alloc | apply IsS35.drewN | apply IsS35.drew | apply IsS35.set_0 | apply IsS35.set_1 | apply IsS35.set_2 | apply IsS35.set_3 | apply IsS35.set_4) | exact HI261.out))) : gb327 ≠ g261)); clear HI255; clear HI261; clear HB; have HI255 := n0_; have HI261 := n1_; have HB := n2_; have BK327 := n3_; have GW327 := n4_; have GE327 := n5_; have NB255_327 := n6_; have NB327_255 := n7_; have NB261_327 := n8_; have NB327_261 := n9_; clear n0_ n1_ n2_ n3_ n4_ n5_ n6_ n7_ n8_ n9_; clear hb hbox hg; have hnb48 := NB327_255.out; have hnc48 := NB255_327.out; have hnb49 := NB327_261.out; have hnc49 := NB261_327.out; have hcz50_0 : w47.cell? ⟨gb327, 0, none⟩ = some (.int .i64 0) := (blk_cell BK327.out 0).trans rfl; have hcz50_1 : w47.cell? ⟨gb327, 1, none⟩ = some (.int .i64 0) := (blk_cell BK327.out 1).trans rfl; have hcz50_2 : w47.cell? ⟨gb327, 2, none⟩ = some (.int .i64 0) := (blk_cell BK327.out 2).trans rfl; have hfz50_0 := blk_frozen BK327.out 0; have hfz50_1 := blk_frozen BK327.out 1; have hfz50_2 := blk_frozen BK327.out 2) | ((with_reducible refine gate_callee (f := 13) rfl ?_); refine goesL_ (some 111) rfl rfl Try.func13 (by kernel_rfl) rfl #[.pointer (some ⟨g261, 0, none⟩)] rfl (by (try simp only [List.map_toArray, List.map_cons, List.map_nil]); first | done | rfl | (simp only [List.length_drop, List.length_take]; rfl)) ?_; (with_reducible refine (cursor_place_Fault.calls g261 x262000_16 x262001_16 x262002_16 x262003_16 x262004_16 t328 t329 t330 t331 t332 t333 t334 t335 w _ ?side1 ?side2 A44.out).mono ?_); (case side1 => repeat (first | (with_reducible first | exact HI261.out | apply IsS35.alloc | apply IsS35.drewN | apply IsS35.drew | apply IsS35.set_0 | apply IsS35.set_1 | apply IsS35.set_2 | apply IsS35.set_3 | apply IsS35.set_4 | refine IsS35.far ?_ NB261_327.out (by repeat (first | exact TypeAt.mk BK327.out | apply TypeAt.set | apply TypeAt.alloc | apply TypeAt.drewN | apply TypeAt.drew)) (by decide) _) | exact HI261.out)); (case side2 => repeat (first | (with_reducible first | exact HB.out | apply below_alloc | apply pw_below_drewN | apply below_drew1 | refine below_set ?_ (IsS35.ge HI255.out) | refine below_set ?_ (IsS35.ge HI261.out) | refine below_set ?_ GE327.out) | exact HB.out)); rintro e w51 ⟨rfl, hi, hb, hk⟩; refine ⟨_, rfl, ?_⟩; have n0_ := Aside0.mk ((IsS35.keepS (show IsS35 w _ g255 t322 t323 t324 t325 t326 from by repeat (first | (with_reducible first | exact HI255.out | apply IsS35.alloc | apply IsS35.drewN | apply IsS35.drew | apply IsS35.set_0 | apply IsS35.set_1 | apply IsS35.set_2 | apply IsS35.set_3 | apply IsS35.set_4 | refine IsS35.far ?_ NB255_327.out (by repeat (first | exact TypeAt.mk BK327.out | apply TypeAt.set | apply TypeAt.alloc | apply TypeAt.drewN | apply TypeAt.drew)) (by decide) _) | exact HI255.out)) hk NB255_261.out (IsS35.cells (show IsS35 w _ g261 x262000_16 x262001_16 x262002_16 x262003_16 x262004_16 from by repeat (first | (with_reducible first | exact HI261.out | apply IsS35.alloc | apply IsS35.drewN | apply IsS35.drew | apply IsS35.set_0 | apply IsS35.set_1 | apply IsS35.set_2 | apply IsS35.set_3 | apply IsS35.set_4 | refine IsS35.far ?_ NB261_327.out (by repeat (first | exact TypeAt.mk BK327.out | apply TypeAt.set | apply TypeAt.alloc | apply TypeAt.drewN | apply TypeAt.drew)) (by decide) _) | exact HI261.out))))); have n1_ := Aside0.mk (KeepBut.blk hk (g' := gb327) (o := .cells #[.int .i64 t319, .int .i64 t320, .int .i64 t321] 31 (0, 0)) (by (with_reducible repeat (first | refine blk_drewN ?_ _ | refine blk_drew ?_ | refine blk_alloc ?_ _)); refine blk_put (cs := #[.int .i64 t319, .int .i64 t320, .int .i64 0]) ?_ 2 _ rfl; (with_reducible repeat (first | refine blk_drewN ?_ _ | refine blk_drew ?_ | refine blk_alloc ?_ _)); refine blk_put (cs := #[.int .i64 t319, .int .i64 0, .int .i64 0]) ?_ 1 _ rfl; (with_reducible repeat (first | refine blk_drewN ?_ _ | refine blk_drew ?_ | refine blk_alloc ?_ _)); refine blk_put (cs := #[.int .i64 0, .int .i64 0, .int .i64 0]) ?_ 0 _ rfl; (with_reducible repeat (first | refine blk_drewN ?_ _ | refine blk_drew ?_ | refine blk_alloc ?_ _)); exact BK327.out) NB327_261.out (by simp)); have n2_ := Aside0.mk (hb); have n3_ := Aside0.mk (hi); clear HI255; clear BK327; clear HB; clear HI261; have HI255 := n0_; have BK327 := n1_; have HB := n2_; have HI261 := n3_; clear n0_ n1_ n2_ n3_; (try clear hb); (try clear hb2); (try clear hk); (try clear hi)) | ((with_reducible refine gate_dst (N := 13) rfl ?_); (try (refine gate_guard (by rfl) ?_; dsimp only)); refine box_event ?hg (N := 13) ?hd (cs := #[.int .i64 0, .int .i64 0, .int .i64 0]) (t := 31) ?hr ?_; (case hd => rfl); (case hg => rfl); (case hr => first | (go_simp; done) | (go_simp; rfl)); intro gb336 hg w52 hbox hb; have n0_ := Aside0.mk (IsS35.below (by repeat (first | (with_reducible first | exact HI255.out | apply IsS35.alloc | apply IsS35.drewN | apply IsS35.drew | apply IsS35.set_0 | apply IsS35.set_1 | apply IsS35.set_2 | apply IsS35.set_3 | apply IsS35.set_4 | refine IsS35.far ?_ NB255_327.out (by repeat (first | exact TypeAt.mk BK327.out | apply TypeAt.set | apply TypeAt.alloc | apply TypeAt.drewN | apply TypeAt.drew)) (by decide) _) | exact HI255.out)) hb); have n1_ := Aside0.mk (IsS35.below (by repeat (first | (with_reducible first | exact HI261.out | apply IsS35.alloc | apply IsS35.drewN | apply IsS35.drew | apply IsS35.set_0 | apply IsS35.set_1 | apply IsS35.set_2 | apply IsS35.set_3 | apply IsS35.set_4 | refine IsS35.far ?_ NB261_327.out (by repeat (first | exact TypeAt.mk BK327.out | apply TypeAt.set | apply TypeAt.alloc | apply TypeAt.drewN | apply TypeAt.drew)) (by decide) _) | exact HI261.out)) hb); have n2_ := Aside0.mk (blk_below (g := gb327) (o := .cells #[.int .i64 t319, .int .i64 t320, .int .i64 t321] 31 (0, 0)) (by (with_reducible repeat (first | refine blk_drewN ?_ _ | refine blk_drew ?_ | refine blk_alloc ?_ _)); exact BK327.out) hb); have n3_ := Aside0.mk (below_step (by repeat (first | (with_reducible first | exact HB.out | apply below_alloc | apply pw_below_drewN | apply below_drew1 | refine below_set ?_ (IsS35.ge HI255.out) | refine below_set ?_ (IsS35.ge HI261.out) | refine below_set ?_ GE327.out) | exact HB.out)) hb); have n4_ := Aside0.mk (hbox); have n5_ := Aside0.mk ((by rw [hg]; exact (below_size (by repeat (first | (with_reducible first | exact HB.out | apply below_alloc | apply pw_below_drewN | apply below_drew1 | refine below_set ?_ (IsS35.ge HI255.out) | refine below_set ?_ (IsS35.ge HI261.out) | refine below_set ?_ GE327.out) | exact HB.out))) : w.heap.size ≤ gb336)); have n6_ := Aside0.mk ((by rw [hg]; exact (below_size (by repeat (first | (with_reducible first | exact HB.out | apply below_alloc | apply pw_below_drewN | apply below_drew1 | refine below_set ?_ (IsS35.ge HI255.out) | refine below_set ?_ (IsS35.ge HI261.out) | refine below_set ?_ GE327.out) | exact HB.out))) : w.heap.size ≤ gb336)); have n7_ := Aside0.mk ((by rw [hg]; exact Nat.ne_of_lt (blk_lt (g := gb327) (o := .cells #[.int .i64 t319, .int .i64 t320, .int .i64 t321] 31 (0, 0)) (by (with_reducible repeat (first | refine blk_drewN ?_ _ | refine blk_drew ?_ | refine blk_alloc ?_ _)); exact BK327.out)) : gb327 ≠ gb336)); have n8_ := Aside0.mk ((by rw [hg]; exact Nat.ne_of_gt (blk_lt (g := gb327) (o := .cells #[.int .i64 t319, .int .i64 t320, .int .i64 t321] 31 (0, 0)) (by (with_reducible repeat (first | refine blk_drewN ?_ _ | refine blk_drew ?_ | refine blk_alloc ?_ _)); exact BK327.out)) : gb336 ≠ gb327)); have n9_ := Aside0.mk ((by rw [hg]; exact Nat.ne_of_lt (IsS35.lt (show IsS35 w _ g255 t322 t323 t324 t325 t326 from by repeat (first | (with_reducible first | exact HI255.out | apply IsS35.alloc | apply IsS35.drewN | apply IsS35.drew | apply IsS35.set_0 | apply IsS35.set_1 | apply IsS35.set_2 | apply IsS35.set_3 | apply IsS35.set_4 | refine IsS35.far ?_ NB255_327.out (by repeat (first | exact TypeAt.mk BK327.out | apply TypeAt.set | apply TypeAt.alloc | apply TypeAt.drewN | apply TypeAt.drew)) (by decide) _) | exact HI255.out))) : g255 ≠ gb336)); have n10_ := Aside0.mk ((by rw [hg]; exact Nat.ne_of_gt (IsS35.lt (show IsS35 w _ g255 t322 t323 t324 t325 t326 from by repeat (first | (with_reducible first | exact HI255.out | apply IsS35.alloc | apply IsS35.drewN | apply IsS35.drew | apply IsS35.set_0 | apply IsS35.set_1 | apply IsS35.set_2 | apply IsS35.set_3 | apply IsS35.set_4 | refine IsS35.far ?_ NB255_327.out (by repeat (first | exact TypeAt.mk BK327.out | apply TypeAt.set | apply TypeAt.alloc | apply TypeAt.drewN | apply TypeAt.drew)) (by decide) _) | exact HI255.out))) : gb336 ≠ g255)); have n11_ := Aside0.mk ((by rw [hg]; exact Nat.ne_of_lt (IsS35.lt (show IsS35 w _ g261 t331 t332 t333 t334 t335 from by repeat (first | (with_reducible first | exact HI261.out | apply IsS35.alloc | apply IsS35.drewN | apply IsS35.drew | apply IsS35.set_0 | apply IsS35.set_1 | apply IsS35.set_2 | apply IsS35.set_3 | apply IsS35.set_4 | refine IsS35.far ?_ NB261_327.out (by repeat (first | exact TypeAt.mk BK327.out | apply TypeAt.set | apply TypeAt.alloc | apply TypeAt.drewN | apply TypeAt.drew)) (by decide) _) | exact HI261.out))) : g261 ≠ gb336)); have n12_ := Aside0.mk ((by rw [hg]; exact Nat.ne_of_gt (IsS35.lt (show IsS35 w _ g261 t331 t332 t333 t334 t335 from by repeat (first | (with_reducible first | exact HI261.out | apply IsS35.alloc | apply IsS35.drewN | apply IsS35.drew | apply IsS35.set_0 | apply IsS35.set_1 | apply IsS35.set_2 | apply IsS35.set_3 | apply IsS35.set_4 | refine IsS35.far ?_ NB261_327.out (by repeat (first | exact TypeAt.mk BK327.out | apply TypeAt.set | apply TypeAt.alloc | apply TypeAt.drewN | apply TypeAt.drew)) (by decide) _) | exact HI261.out))) : gb336 ≠ g261)); clear HI255; clear HI261; clear BK327; clear HB; have HI255 := n0_; have HI261 := n1_; have BK327 := n2_; have HB := n3_; have BK336 := n4_; have GW336 := n5_; have GE336 := n6_; have NB327_336 := n7_; have NB336_327 := n8_; have NB255_336 := n9_; have NB336_255 := n10_; have NB261_336 := n11_; have NB336_261 := n12_; clear n0_ n1_ n2_ n3_ n4_ n5_ n6_ n7_ n8_ n9_ n10_ n11_ n12_; clear hb hbox hg; have hnb53 := NB336_327.out; have hnc53 := NB327_336.out; have hnb54 := NB336_255.out; have hnc54 := NB255_336.out; have hnb55 := NB336_261.out; have hnc55 := NB261_336.out; have hcz56_0 : w52.cell? ⟨gb336, 0, none⟩ = some (.int .i64 0) := (blk_cell BK336.out 0).trans rfl; have hcz56_1 : w52.cell? ⟨gb336, 1, none⟩ = some (.int .i64 0) := (blk_cell BK336.out 1).trans rfl; have hcz56_2 : w52.cell? ⟨gb336, 2, none⟩ = some (.int .i64 0) := (blk_cell BK336.out 2).trans rfl; have hfz56_0 := blk_frozen BK336.out 0; have hfz56_1 := blk_frozen BK336.out 1; have hfz56_2 := blk_frozen BK336.out 2; have hcz57_0 : w52.cell? ⟨gb327, 0, none⟩ = some (.int .i64 t319) := (blk_cell BK327.out 0).trans rfl; have hcz57_1 : w52.cell? ⟨gb327, 1, none⟩ = some (.int .i64 t320) := (blk_cell BK327.out 1).trans rfl; have hcz57_2 : w52.cell? ⟨gb327, 2, none⟩ = some (.int .i64 t321) := (blk_cell BK327.out 2).trans rfl; have hfz57_0 := blk_frozen BK327.out 0; have hfz57_1 := blk_frozen BK327.out 1; have hfz57_2 := blk_frozen BK327.out 2))
                    (try simp only [Act.put, List.setIfInBounds_toArray, List.set_cons_zero, List.set_cons_succ])
                    go_cut [] (fun wc => ∃ (kq : Nat) (x328002_44 : Int), Aside0 (decklelaw04_CursorPlaces.j3 kq a1 l2 t249 x10_2 x11_16 t322 t323 t324 t325 t326 t331 t332 t333 t334 t335 t319 t320 x328002_44 t328 t329 t330 = some r) ∧ Aside0 (kq ≤ kj16) ∧ Aside0 (wc.heap[gb327]? = some (.cells #[.int .i64 t319, .int .i64 t320, .int .i64 x328002_44] 31 (0, 0))) ∧ Aside0 (wc.heap[gb336]? = some (.cells #[.int .i64 t328, .int .i64 t329, .int .i64 t330] 31 (0, 0))) ∧ Aside0 (IsS35 w wc g255 t322 t323 t324 t325 t326) ∧ Aside0 (IsS35 w wc g261 t331 t332 t333 t334 t335) ∧ Aside0 (Below w.heap.size w wc))
                    case first =>
                      have H := HC45.out
                      clear HC45
                      by_cases c58 : t319 = 0
                      · rw [if_pos c58] at H
                        have c58b0 : (t319 == 0) = true := beq_iff_eq.mpr c58
                        have c58b1 : (t319 != 0) = false := bne_eq_false_iff_eq.mpr c58
                        clear c58
                        (first | rw [c58b0] | (simp only [i64_w, i32_w]; rw [c58b0]) | skip)
                        have H' := Aside0.mk H
                        clear H
                        go_wp2
                        go_meet
                        case rel => exact ⟨_, (t321), H', ⟨by have := HJ4.out; have := HK2.out; have := HJ16.out; first | omega | exact Nat.le_refl _⟩, ⟨by (with_reducible repeat (first | refine blk_drewN ?_ _ | refine blk_drew ?_ | refine blk_alloc ?_ _)); refine blk_far ?_ NB327_336.out _; (with_reducible repeat (first | refine blk_drewN ?_ _ | refine blk_drew ?_ | refine blk_alloc ?_ _)); refine blk_far ?_ NB327_336.out _; (with_reducible repeat (first | refine blk_drewN ?_ _ | refine blk_drew ?_ | refine blk_alloc ?_ _)); refine blk_far ?_ NB327_336.out _; (with_reducible repeat (first | refine blk_drewN ?_ _ | refine blk_drew ?_ | refine blk_alloc ?_ _)); exact BK327.out⟩, ⟨by (with_reducible repeat (first | refine blk_drewN ?_ _ | refine blk_drew ?_ | refine blk_alloc ?_ _)); refine blk_put (cs := #[.int .i64 t328, .int .i64 t329, .int .i64 0]) ?_ 2 _ rfl; (with_reducible repeat (first | refine blk_drewN ?_ _ | refine blk_drew ?_ | refine blk_alloc ?_ _)); refine blk_put (cs := #[.int .i64 t328, .int .i64 0, .int .i64 0]) ?_ 1 _ rfl; (with_reducible repeat (first | refine blk_drewN ?_ _ | refine blk_drew ?_ | refine blk_alloc ?_ _)); refine blk_put (cs := #[.int .i64 0, .int .i64 0, .int .i64 0]) ?_ 0 _ rfl; (with_reducible repeat (first | refine blk_drewN ?_ _ | refine blk_drew ?_ | refine blk_alloc ?_ _)); exact BK336.out⟩, ⟨by repeat (first | (with_reducible first | exact HI255.out | apply IsS35.alloc | apply IsS35.drewN | apply IsS35.drew | apply IsS35.set_0 | apply IsS35.set_1 | apply IsS35.set_2 | apply IsS35.set_3 | apply IsS35.set_4 | refine IsS35.far ?_ NB255_327.out (by repeat (first | exact TypeAt.mk BK327.out | apply TypeAt.set | apply TypeAt.alloc | apply TypeAt.drewN | apply TypeAt.drew)) (by decide) _ | refine IsS35.far ?_ NB255_336.out (by repeat (first | exact TypeAt.mk BK336.out | apply TypeAt.set | apply TypeAt.alloc | apply TypeAt.drewN | apply TypeAt.drew)) (by decide) _) | exact HI255.out)⟩, ⟨by repeat (first | (with_reducible first | exact HI261.out | apply IsS35.alloc | apply IsS35.drewN | apply IsS35.drew | apply IsS35.set_0 | apply IsS35.set_1 | apply IsS35.set_2 | apply IsS35.set_3 | apply IsS35.set_4 | refine IsS35.far ?_ NB261_327.out (by repeat (first | exact TypeAt.mk BK327.out | apply TypeAt.set | apply TypeAt.alloc | apply TypeAt.drewN | apply TypeAt.drew)) (by decide) _ | refine IsS35.far ?_ NB261_336.out (by repeat (first | exact TypeAt.mk BK336.out | apply TypeAt.set | apply TypeAt.alloc | apply TypeAt.drewN | apply TypeAt.drew)) (by decide) _) | exact HI261.out)⟩, ⟨by repeat (first | (with_reducible first | exact HB.out | apply below_alloc | apply pw_below_drewN | apply below_drew1 | refine below_set ?_ (IsS35.ge HI255.out) | refine below_set ?_ (IsS35.ge HI261.out) | refine below_set ?_ GE327.out | refine below_set ?_ GE336.out) | exact HB.out)⟩⟩
                      · rw [if_neg c58] at H
                        have c58b0 : (t319 == 0) = false := beq_eq_false_iff_ne.mpr c58
                        have c58b1 : (t319 != 0) = true := bne_iff_ne.mpr c58
                        (first | rw [c58b0] | (simp only [i64_w, i32_w]; rw [c58b0]) | skip)
                        have H' := Aside0.mk H
                        clear H
                        have hnb59 := NB327_336.out
                        have hnc59 := NB336_327.out
                        have hnb60 := NB327_255.out
                        have hnc60 := NB255_327.out
                        have hnb61 := NB327_261.out
                        have hnc61 := NB261_327.out
                        have hcz62_0 : w52.cell? ⟨gb327, 0, none⟩ = some (.int .i64 t319) := (blk_cell BK327.out 0).trans rfl
                        have hcz62_1 : w52.cell? ⟨gb327, 1, none⟩ = some (.int .i64 t320) := (blk_cell BK327.out 1).trans rfl
                        have hcz62_2 : w52.cell? ⟨gb327, 2, none⟩ = some (.int .i64 t321) := (blk_cell BK327.out 2).trans rfl
                        have hfz62_0 := blk_frozen BK327.out 0
                        have hfz62_1 := blk_frozen BK327.out 1
                        have hfz62_2 := blk_frozen BK327.out 2
                        go_wp2
                        go_meet
                        case rel => exact ⟨_, (wrap64 (t321 + a1)), H', ⟨by have := HJ4.out; have := HK2.out; have := HJ16.out; first | omega | exact Nat.le_refl _⟩, ⟨by (with_reducible repeat (first | refine blk_drewN ?_ _ | refine blk_drew ?_ | refine blk_alloc ?_ _)); refine blk_put (cs := #[.int .i64 t319, .int .i64 t320, .int .i64 t321]) ?_ 2 _ rfl; (with_reducible repeat (first | refine blk_drewN ?_ _ | refine blk_drew ?_ | refine blk_alloc ?_ _)); refine blk_far ?_ NB327_336.out _; (with_reducible repeat (first | refine blk_drewN ?_ _ | refine blk_drew ?_ | refine blk_alloc ?_ _)); refine blk_far ?_ NB327_336.out _; (with_reducible repeat (first | refine blk_drewN ?_ _ | refine blk_drew ?_ | refine blk_alloc ?_ _)); refine blk_far ?_ NB327_336.out _; (with_reducible repeat (first | refine blk_drewN ?_ _ | refine blk_drew ?_ | refine blk_alloc ?_ _)); exact BK327.out⟩, ⟨by (with_reducible repeat (first | refine blk_drewN ?_ _ | refine blk_drew ?_ | refine blk_alloc ?_ _)); refine blk_far ?_ NB336_327.out _; (with_reducible repeat (first | refine blk_drewN ?_ _ | refine blk_drew ?_ | refine blk_alloc ?_ _)); refine blk_put (cs := #[.int .i64 t328, .int .i64 t329, .int .i64 0]) ?_ 2 _ rfl; (with_reducible repeat (first | refine blk_drewN ?_ _ | refine blk_drew ?_ | refine blk_alloc ?_ _)); refine blk_put (cs := #[.int .i64 t328, .int .i64 0, .int .i64 0]) ?_ 1 _ rfl; (with_reducible repeat (first | refine blk_drewN ?_ _ | refine blk_drew ?_ | refine blk_alloc ?_ _)); refine blk_put (cs := #[.int .i64 0, .int .i64 0, .int .i64 0]) ?_ 0 _ rfl; (with_reducible repeat (first | refine blk_drewN ?_ _ | refine blk_drew ?_ | refine blk_alloc ?_ _)); exact BK336.out⟩, ⟨by repeat (first | (with_reducible first | exact HI255.out | apply IsS35.alloc | apply IsS35.drewN | apply IsS35.drew | apply IsS35.set_0 | apply IsS35.set_1 | apply IsS35.set_2 | apply IsS35.set_3 | apply IsS35.set_4 | refine IsS35.far ?_ NB255_327.out (by repeat (first | exact TypeAt.mk BK327.out | apply TypeAt.set | apply TypeAt.alloc | apply TypeAt.drewN | apply TypeAt.drew)) (by decide) _ | refine IsS35.far ?_ NB255_336.out (by repeat (first | exact TypeAt.mk BK336.out | apply TypeAt.set | apply TypeAt.alloc | apply TypeAt.drewN | apply TypeAt.drew)) (by decide) _) | exact HI255.out)⟩, ⟨by repeat (first | (with_reducible first | exact HI261.out | apply IsS35.alloc | apply IsS35.drewN | apply IsS35.drew | apply IsS35.set_0 | apply IsS35.set_1 | apply IsS35.set_2 | apply IsS35.set_3 | apply IsS35.set_4 | refine IsS35.far ?_ NB261_327.out (by repeat (first | exact TypeAt.mk BK327.out | apply TypeAt.set | apply TypeAt.alloc | apply TypeAt.drewN | apply TypeAt.drew)) (by decide) _ | refine IsS35.far ?_ NB261_336.out (by repeat (first | exact TypeAt.mk BK336.out | apply TypeAt.set | apply TypeAt.alloc | apply TypeAt.drewN | apply TypeAt.drew)) (by decide) _) | exact HI261.out)⟩, ⟨by repeat (first | (with_reducible first | exact HB.out | apply below_alloc | apply pw_below_drewN | apply below_drew1 | refine below_set ?_ (IsS35.ge HI255.out) | refine below_set ?_ (IsS35.ge HI261.out) | refine below_set ?_ GE327.out | refine below_set ?_ GE336.out) | exact HB.out)⟩⟩
                    case rest =>
                      clear HC45
                      try clear c1
                      try clear c2
                      try clear p2
                      try clear hx2
                      try clear c3
                      try clear p3
                      try clear q3
                      try clear hx3
                      try clear hcv3
                      try clear c4
                      try clear hcv4
                      try clear c5
                      try clear c6
                      try clear p6
                      try clear c11
                      try clear c13
                      try clear c17
                      try clear c19
                      try clear c23
                      try clear c23b0
                      try clear c23b1
                      try clear hx27
                      try clear hx28
                      try clear c29
                      try clear c29b0
                      try clear c29b1
                      try clear p30
                      try clear q30
                      try clear hx30
                      try clear p31
                      try clear q31
                      try clear hx31
                      try clear c34
                      try clear c34b0
                      try clear c34b1
                      try clear hcv39
                      try clear hcv40
                      try clear hcv41
                      try clear c48
                      try clear c49
                      try clear c53
                      try clear c54
                      try clear c55
                      try clear c58
                      try clear c58b0
                      try clear c58b1
                      try clear c59
                      try clear c60
                      try clear c61
                      try clear hcz50_0
                      try clear hcz50_1
                      try clear hcz50_2
                      try clear hcz56_0
                      try clear hcz56_1
                      try clear hcz56_2
                      try clear hcz57_0
                      try clear hcz57_1
                      try clear hcz57_2
                      try clear hcz62_0
                      try clear hcz62_1
                      try clear hcz62_2
                      try clear hfz50_0
                      try clear hfz50_1
                      try clear hfz50_2
                      try clear hfz56_0
                      try clear hfz56_1
                      try clear hfz56_2
                      try clear hfz57_0
                      try clear hfz57_1
                      try clear hfz57_2
                      try clear hfz62_0
                      try clear hfz62_1
                      try clear hfz62_2
                      try clear hx275_0
                      try clear hx275_1
                      try clear hx282_0
                      try clear hx282_1
                      try clear hx301_0
                      try clear hx301_1
                      try clear hx310_0
                      try clear hx310_1
                      try clear p2
                      try clear p3
                      try clear p30
                      try clear p301
                      try clear p31
                      try clear p310
                      try clear q3
                      try clear q30
                      try clear q301
                      try clear q31
                      try clear q310
                      obtain ⟨kq, x328002_44, HA, HJ44, BK327, BK336, HI255, HI261, HB⟩ := hcut
                      cases kq with
                      | zero => exact absurd HA.out (by simp [decklelaw04_CursorPlaces.j3])
                      | succ kj44 =>
                        have H := HA.out
                        clear HA
                        simp only [decklelaw04_CursorPlaces.j3] at H
                        by_cases c63 : x11_16 = true
                        · subst c63
                          have H1 : (if (!(t319 == t328) || (!(t320 == t329) || (!(x328002_44 == t330)))) = true then (none) else ((cursor_Cursor_Left.f t322 t323 t324 t325 t326).bind fun bt337 => ((cursor_Cursor_Left.f t331 t332 t333 t334 t335).bind fun bt343 => (if bt337.1 = bt343.1 then ((cursor_place_At.f bt337.2.1 bt337.2.2.1 bt337.2.2.2.1 bt337.2.2.2.2.1 bt337.2.2.2.2.2).bind fun bt349 => ((cursor_place_At.f bt343.2.1 bt343.2.2.1 bt343.2.2.2.1 bt343.2.2.2.2.1 bt343.2.2.2.2.2).bind fun bt355 => (if (wrap64 (bt349.1 + a1)) = bt355.1 then (decklelaw04_CursorPlaces.l0 kj44 a1 l2 t249 (wrap64 (x10_2 + 1)) bt349.2.1 bt349.2.2.1 bt349.2.2.2.1 bt349.2.2.2.2.1 bt349.2.2.2.2.2 bt355.2.1 bt355.2.2.1 bt355.2.2.2.1 bt355.2.2.2.2.1 bt355.2.2.2.2.2) else (none)))) else (none))))) = some r := by rw [if_pos rfl] at H; exact H
                          clear H
                          have H := H1
                          clear H1
                          by_cases c64 : (!(t319 == t328) || (!(t320 == t329) || (!(x328002_44 == t330)))) = true
                          · rw [if_pos c64] at H
                            exact absurd H (by simp)
                          · rw [if_neg c64] at H
                            have c64b0 : (!(t319 == t328) || (!(t320 == t329) || (!(x328002_44 == t330)))) = false := by simpa using c64
                            clear c64
                            replace H := Option.bind_eq_some_iff.mp H
                            obtain ⟨⟨t337, t338, t339, t340, t341, t342⟩, A650, H⟩ := H
                            replace H : ((cursor_Cursor_Left.f t331 t332 t333 t334 t335).bind fun bt343 => (if t337 = bt343.1 then ((cursor_place_At.f t338 t339 t340 t341 t342).bind fun bt349 => ((cursor_place_At.f bt343.2.1 bt343.2.2.1 bt343.2.2.2.1 bt343.2.2.2.2.1 bt343.2.2.2.2.2).bind fun bt355 => (if (wrap64 (bt349.1 + a1)) = bt355.1 then (decklelaw04_CursorPlaces.l0 kj44 a1 l2 t249 (wrap64 (x10_2 + 1)) bt349.2.1 bt349.2.2.1 bt349.2.2.2.1 bt349.2.2.2.2.1 bt349.2.2.2.2.2 bt355.2.1 bt355.2.2.1 bt355.2.2.2.1 bt355.2.2.2.2.1 bt355.2.2.2.2.2) else (none)))) else (none))) = some r := H
                            have A65 := Aside0.mk A650
                            clear A650
                            replace H := Option.bind_eq_some_iff.mp H
                            obtain ⟨⟨t343, t344, t345, t346, t347, t348⟩, A660, H⟩ := H
                            replace H : (if t337 = t343 then ((cursor_place_At.f t338 t339 t340 t341 t342).bind fun bt349 => ((cursor_place_At.f t344 t345 t346 t347 t348).bind fun bt355 => (if (wrap64 (bt349.1 + a1)) = bt355.1 then (decklelaw04_CursorPlaces.l0 kj44 a1 l2 t249 (wrap64 (x10_2 + 1)) bt349.2.1 bt349.2.2.1 bt349.2.2.2.1 bt349.2.2.2.2.1 bt349.2.2.2.2.2 bt355.2.1 bt355.2.2.1 bt355.2.2.2.1 bt355.2.2.2.2.1 bt355.2.2.2.2.2) else (none)))) else (none)) = some r := H
                            have A66 := Aside0.mk A660
                            clear A660
                            by_cases c67 : t337 = t343
                            · rw [if_pos c67] at H
                              have c67b0 : (t337 == t343) = true := beq_iff_eq.mpr c67
                              have c67b1 : (t337 != t343) = false := bne_eq_false_iff_eq.mpr c67
                              clear c67
                              replace H := Option.bind_eq_some_iff.mp H
                              obtain ⟨⟨t349, t350, t351, t352, t353, t354⟩, A680, H⟩ := H
                              replace H : ((cursor_place_At.f t344 t345 t346 t347 t348).bind fun bt355 => (if (wrap64 (t349 + a1)) = bt355.1 then (decklelaw04_CursorPlaces.l0 kj44 a1 l2 t249 (wrap64 (x10_2 + 1)) t350 t351 t352 t353 t354 bt355.2.1 bt355.2.2.1 bt355.2.2.2.1 bt355.2.2.2.2.1 bt355.2.2.2.2.2) else (none))) = some r := H
                              have A68 := Aside0.mk A680
                              clear A680
                              replace H := Option.bind_eq_some_iff.mp H
                              obtain ⟨⟨t355, t356, t357, t358, t359, t360⟩, A690, H⟩ := H
                              replace H : (if (wrap64 (t349 + a1)) = t355 then (decklelaw04_CursorPlaces.l0 kj44 a1 l2 t249 (wrap64 (x10_2 + 1)) t350 t351 t352 t353 t354 t356 t357 t358 t359 t360) else (none)) = some r := H
                              have A69 := Aside0.mk A690
                              clear A690
                              by_cases c70 : (wrap64 (t349 + a1)) = t355
                              · rw [if_pos c70] at H
                                have c70b0 : ((wrap64 (t349 + a1)) == t355) = true := beq_iff_eq.mpr c70
                                have c70b1 : ((wrap64 (t349 + a1)) != t355) = false := bne_eq_false_iff_eq.mpr c70
                                clear c70
                                have H' := Aside0.mk H
                                clear H
                                try go_wp2
                                have n0_ := Aside0.mk (blk_drew BK327.out)
                                have n1_ := Aside0.mk (blk_drew BK336.out)
                                have n2_ := Aside0.mk (IsS35.drew HI255.out)
                                have n3_ := Aside0.mk (IsS35.drew HI261.out)
                                have n4_ := Aside0.mk (below_drew1 HB.out)
                                clear BK327
                                clear BK336
                                clear HI255
                                clear HI261
                                clear HB
                                have BK327 := n0_
                                have BK336 := n1_
                                have HI255 := n2_
                                have HI261 := n3_
                                have HB := n4_
                                clear n0_ n1_ n2_ n3_ n4_
                                refine start_ (n := 27) (S := fun w' => w'.cell? ⟨gb327, 0, none⟩ = some (.int .i64 t319) ∧ w'.cell? ⟨gb327, 1, none⟩ = some (.int .i64 t320) ∧ w'.cell? ⟨gb327, 2, none⟩ = some (.int .i64 x328002_44) ∧ w'.cell? ⟨gb336, 0, none⟩ = some (.int .i64 t328) ∧ w'.cell? ⟨gb336, 1, none⟩ = some (.int .i64 t329) ∧ w'.cell? ⟨gb336, 2, none⟩ = some (.int .i64 t330)) (ds := []) #[false, false, false, false, false, false, false, false, false, false, false, false, false, false, false, false, false, false, false, false, false, false, false, false, false, false, false] (by kernel_rfl) rfl rfl ⟨(blk_cell BK327.out 0).trans rfl, (blk_cell BK327.out 1).trans rfl, (blk_cell BK327.out 2).trans rfl, (blk_cell BK336.out 0).trans rfl, (blk_cell BK336.out 1).trans rfl, (blk_cell BK336.out 2).trans rfl⟩ (fun hHeld => ?_); refine with_tabW decklelaw04_CursorPlaces.tab25 decklelaw04_CursorPlaces.bits25 (fun HT_ HW_ => ?_)
                                generalize wc.drew = w71 at BK327 BK336 HI255 HI261 HB hHeld ⊢
                                refine pure_ (i := 0) (N := some 120) (v := ?_) (a' := ?_) #[true, false, false, false, false, false, false, false, false, false, false, false, false, false, false, false, false, false, false, false, false, false, false, false, false, false, false] rfl rfl (any_of HT_.out (by kernel_rfl)) (fun _ _ _ h => h) (Or.inl ⟨by rfl, ?_⟩) ?_ ?_
                                rotate_left
                                · intro w'
                                  go_simp
                                  with_reducible rfl
                                rotate_left
                                · simp only [Act.put, List.setIfInBounds_toArray, List.set_cons_zero, List.set_cons_succ, i64_w, i32_w]
                                  rfl
                                refine pure_ (i := 1) (N := some 121) (v := ?_) (a' := ?_) #[true, true, false, false, false, false, false, false, false, false, false, false, false, false, false, false, false, false, false, false, false, false, false, false, false, false, false] rfl rfl (any_of HT_.out (by kernel_rfl)) (fun _ _ _ h => h) (Or.inl ⟨by rfl, ?_⟩) ?_ ?_
                                rotate_left
                                · intro w'
                                  go_simp
                                  with_reducible rfl
                                rotate_left
                                · simp only [Act.put, List.setIfInBounds_toArray, List.set_cons_zero, List.set_cons_succ, i64_w, i32_w]
                                  rfl
                                refine pure_ (i := 2) (N := some 122) (v := ?_) (a' := ?_) #[true, true, true, false, false, false, false, false, false, false, false, false, false, false, false, false, false, false, false, false, false, false, false, false, false, false, false] rfl rfl (any_of HT_.out (by kernel_rfl)) (fun _ _ _ h => h) (Or.inl ⟨by rfl, ?_⟩) ?_ ?_
                                rotate_left
                                · intro w'
                                  go_simp
                                  with_reducible rfl
                                rotate_left
                                · simp only [Act.put, List.setIfInBounds_toArray, List.set_cons_zero, List.set_cons_succ, i64_w, i32_w]
                                  rfl
                                refine take_ (i := 3) (N := some 123) (v := ?_) (a' := ?_) #[true, true, true, true, false, false, false, false, false, false, false, false, false, false, false, false, false, false, false, false, false, false, false, false, false, false, false] rfl rfl (take_ofW HT_.out HW_.out (by kernel_rfl)) (fun _ _ _ h => h) (Or.inl ⟨by rfl, ?_⟩) hHeld ?_ ?_
                                rotate_left
                                · rintro w' ⟨s0, s1, s2, s3, s4, s5⟩
                                  go_simp
                                  with_reducible rfl
                                rotate_left
                                · simp only [Act.put, List.setIfInBounds_toArray, List.set_cons_zero, List.set_cons_succ, i64_w, i32_w]
                                  rfl
                                refine take_ (i := 4) (N := some 124) (v := ?_) (a' := ?_) #[true, true, true, true, true, false, false, false, false, false, false, false, false, false, false, false, false, false, false, false, false, false, false, false, false, false, false] rfl rfl (take_ofW HT_.out HW_.out (by kernel_rfl)) (fun _ _ _ h => h) (Or.inl ⟨by rfl, ?_⟩) hHeld ?_ ?_
                                rotate_left
                                · rintro w' ⟨s0, s1, s2, s3, s4, s5⟩
                                  go_simp
                                  with_reducible rfl
                                rotate_left
                                · simp only [Act.put, List.setIfInBounds_toArray, List.set_cons_zero, List.set_cons_succ, i64_w, i32_w]
                                  rfl
                                refine pure_ (i := 5) (N := some 125) (v := ?_) (a' := ?_) #[true, true, true, true, true, true, false, false, false, false, false, false, false, false, false, false, false, false, false, false, false, false, false, false, false, false, false] rfl rfl (any_of HT_.out (by kernel_rfl)) (fun _ _ _ h => h) (Or.inl ⟨by rfl, ?_⟩) ?_ ?_
                                rotate_left
                                · intro w'
                                  go_simp
                                  with_reducible rfl
                                rotate_left
                                · simp only [Act.put, List.setIfInBounds_toArray, List.set_cons_zero, List.set_cons_succ, i64_w, i32_w]
                                  rfl
                                refine pure_ (i := 6) (N := some 126) (v := ?_) (a' := ?_) #[true, true, true, true, true, true, true, false, false, false, false, false, false, false, false, false, false, false, false, false, false, false, false, false, false, false, false] rfl rfl (any_of HT_.out (by kernel_rfl)) (fun _ _ _ h => h) (Or.inl ⟨by rfl, ?_⟩) ?_ ?_
                                rotate_left
                                · intro w'
                                  go_simp
                                  with_reducible rfl
                                rotate_left
                                · simp only [Act.put, List.setIfInBounds_toArray, List.set_cons_zero, List.set_cons_succ, i64_w, i32_w]
                                  rfl
                                refine pure_ (i := 7) (N := some 127) (v := ?_) (a' := ?_) #[true, true, true, true, true, true, true, true, false, false, false, false, false, false, false, false, false, false, false, false, false, false, false, false, false, false, false] rfl rfl (any_of HT_.out (by kernel_rfl)) (fun _ _ _ h => h) (Or.inl ⟨by rfl, ?_⟩) ?_ ?_
                                rotate_left
                                · intro w'
                                  go_simp
                                  with_reducible rfl
                                rotate_left
                                · simp only [Act.put, List.setIfInBounds_toArray, List.set_cons_zero, List.set_cons_succ, i64_w, i32_w]
                                  rfl
                                refine pure_ (i := 8) (N := some 128) (v := ?_) (a' := ?_) #[true, true, true, true, true, true, true, true, true, false, false, false, false, false, false, false, false, false, false, false, false, false, false, false, false, false, false] rfl rfl (any_of HT_.out (by kernel_rfl)) (fun _ _ _ h => h) (Or.inl ⟨by rfl, ?_⟩) ?_ ?_
                                rotate_left
                                · intro w'
                                  go_simp
                                  with_reducible rfl
                                rotate_left
                                · simp only [Act.put, List.setIfInBounds_toArray, List.set_cons_zero, List.set_cons_succ, i64_w, i32_w]
                                  rfl
                                refine pure_ (i := 10) (N := some 130) (v := ?_) (a' := ?_) #[true, true, true, true, true, true, true, true, true, false, true, false, false, false, false, false, false, false, false, false, false, false, false, false, false, false, false] rfl rfl (any_of HT_.out (by kernel_rfl)) (fun _ _ _ h => h) (Or.inl ⟨by rfl, ?_⟩) ?_ ?_
                                rotate_left
                                · intro w'
                                  go_simp
                                  with_reducible rfl
                                rotate_left
                                · simp only [Act.put, List.setIfInBounds_toArray, List.set_cons_zero, List.set_cons_succ, i64_w, i32_w]
                                  rfl
                                refine one_ (i := 9) (N := some 129) #[true, true, true, true, true, true, true, true, true, true, true, false, false, false, false, false, false, false, false, false, false, false, false, false, false, false, false] rfl rfl (one_of HT_.out (by kernel_rfl)) (by decide) (fun K hK => ?_)
                                refine goes_ Try.func10 (by kernel_rfl) rfl #[.pointer (some ⟨g255, 0, none⟩)] (by rfl) rfl rfl (by (try simp only [List.map_toArray, List.map_cons, List.map_nil]); first | done | rfl | (simp only [List.length_drop, List.length_take]; rfl)) ?_
                                with_reducible refine (cursor_Cursor_Left.calls g255 t322 t323 t324 t325 t326 t337 t338 t339 t340 t341 t342 w _ ?side1 ?side2 A65.out).mono ?_
                                (case side1 => repeat (first | (with_reducible first | exact HI255.out | apply IsS35.alloc | apply IsS35.drewN | apply IsS35.drew | apply IsS35.set_0 | apply IsS35.set_1 | apply IsS35.set_2 | apply IsS35.set_3 | apply IsS35.set_4 | refine IsS35.far ?_ NB255_327.out (by repeat (first | exact TypeAt.mk BK327.out | apply TypeAt.set | apply TypeAt.alloc | apply TypeAt.drewN | apply TypeAt.drew)) (by decide) _ | refine IsS35.far ?_ NB255_336.out (by repeat (first | exact TypeAt.mk BK336.out | apply TypeAt.set | apply TypeAt.alloc | apply TypeAt.drewN | apply TypeAt.drew)) (by decide) _) | exact HI255.out))
                                (case side2 => repeat (first | (with_reducible first | exact HB.out | apply below_alloc | apply pw_below_drewN | apply below_drew1 | refine below_set ?_ (IsS35.ge HI255.out) | refine below_set ?_ (IsS35.ge HI261.out) | refine below_set ?_ GE327.out | refine below_set ?_ GE336.out) | exact HB.out))
                                rintro e w72 ⟨rfl, hi, hb, hk⟩
                                refine ⟨_, rfl, ?_⟩
                                have n0_ := Aside0.mk (KeepBut.blk hk (g' := gb327) (o := .cells #[.int .i64 t319, .int .i64 t320, .int .i64 x328002_44] 31 (0, 0)) (by (with_reducible repeat (first | refine blk_drewN ?_ _ | refine blk_drew ?_ | refine blk_alloc ?_ _)); exact BK327.out) NB327_255.out (by simp))
                                have n1_ := Aside0.mk (KeepBut.blk hk (g' := gb336) (o := .cells #[.int .i64 t328, .int .i64 t329, .int .i64 t330] 31 (0, 0)) (by (with_reducible repeat (first | refine blk_drewN ?_ _ | refine blk_drew ?_ | refine blk_alloc ?_ _)); exact BK336.out) NB336_255.out (by simp))
                                have n2_ := Aside0.mk ((IsS35.keepS (show IsS35 w _ g261 t331 t332 t333 t334 t335 from by repeat (first | (with_reducible first | exact HI261.out | apply IsS35.alloc | apply IsS35.drewN | apply IsS35.drew | apply IsS35.set_0 | apply IsS35.set_1 | apply IsS35.set_2 | apply IsS35.set_3 | apply IsS35.set_4 | refine IsS35.far ?_ NB261_327.out (by repeat (first | exact TypeAt.mk BK327.out | apply TypeAt.set | apply TypeAt.alloc | apply TypeAt.drewN | apply TypeAt.drew)) (by decide) _ | refine IsS35.far ?_ NB261_336.out (by repeat (first | exact TypeAt.mk BK336.out | apply TypeAt.set | apply TypeAt.alloc | apply TypeAt.drewN | apply TypeAt.drew)) (by decide) _) | exact HI261.out)) hk NB261_255.out (IsS35.cells (show IsS35 w _ g255 t322 t323 t324 t325 t326 from by repeat (first | (with_reducible first | exact HI255.out | apply IsS35.alloc | apply IsS35.drewN | apply IsS35.drew | apply IsS35.set_0 | apply IsS35.set_1 | apply IsS35.set_2 | apply IsS35.set_3 | apply IsS35.set_4 | refine IsS35.far ?_ NB255_327.out (by repeat (first | exact TypeAt.mk BK327.out | apply TypeAt.set | apply TypeAt.alloc | apply TypeAt.drewN | apply TypeAt.drew)) (by decide) _ | refine IsS35.far ?_ NB255_336.out (by repeat (first | exact TypeAt.mk BK336.out | apply TypeAt.set | apply TypeAt.alloc | apply TypeAt.drewN | apply TypeAt.drew)) (by decide) _) | exact HI255.out)))))
                                have n3_ := Aside0.mk (hb)
                                have n4_ := Aside0.mk (hi)
                                clear BK327
                                clear BK336
                                clear HI261
                                clear HB
                                clear HI255
                                have BK327 := n0_
                                have BK336 := n1_
                                have HI261 := n2_
                                have HB := n3_
                                have HI255 := n4_
                                clear n0_ n1_ n2_ n3_ n4_
                                (try clear hb)
                                (try clear hb2)
                                (try clear hk)
                                (try clear hi)
                                refine hK.out _ _ ⟨(blk_cell BK327.out 0).trans rfl, (blk_cell BK327.out 1).trans rfl, (blk_cell BK327.out 2).trans rfl, (blk_cell BK336.out 0).trans rfl, (blk_cell BK336.out 1).trans rfl, (blk_cell BK336.out 2).trans rfl⟩ (fun hHeld => ?_)
                                clear hK K
                                refine norm_ (a' := ?_) ?_ ?_
                                rotate_left
                                · show Act.put _ (some 129) _ = _
                                  simp only [Act.put, List.setIfInBounds_toArray, List.set_cons_zero, List.set_cons_succ, i64_w, i32_w]
                                  rfl
                                refine one_ (i := 11) (N := some 131) #[true, true, true, true, true, true, true, true, true, true, true, true, false, false, false, false, false, false, false, false, false, false, false, false, false, false, false] rfl rfl (one_of HT_.out (by kernel_rfl)) (by decide) (fun K hK => ?_)
                                refine goes_ Try.func10 (by kernel_rfl) rfl #[.pointer (some ⟨g261, 0, none⟩)] (by rfl) rfl rfl (by (try simp only [List.map_toArray, List.map_cons, List.map_nil]); first | done | rfl | (simp only [List.length_drop, List.length_take]; rfl)) ?_
                                with_reducible refine (cursor_Cursor_Left.calls g261 t331 t332 t333 t334 t335 t343 t344 t345 t346 t347 t348 w _ ?side1 ?side2 A66.out).mono ?_
                                (case side1 => repeat (first | (with_reducible first | exact HI261.out | apply IsS35.alloc | apply IsS35.drewN | apply IsS35.drew | apply IsS35.set_0 | apply IsS35.set_1 | apply IsS35.set_2 | apply IsS35.set_3 | apply IsS35.set_4 | refine IsS35.far ?_ NB261_327.out (by repeat (first | exact TypeAt.mk BK327.out | apply TypeAt.set | apply TypeAt.alloc | apply TypeAt.drewN | apply TypeAt.drew)) (by decide) _ | refine IsS35.far ?_ NB261_336.out (by repeat (first | exact TypeAt.mk BK336.out | apply TypeAt.set | apply TypeAt.alloc | apply TypeAt.drewN | apply TypeAt.drew)) (by decide) _) | exact HI261.out))
                                (case side2 => repeat (first | (with_reducible first | exact HB.out | apply below_alloc | apply pw_below_drewN | apply below_drew1 | refine below_set ?_ (IsS35.ge HI255.out) | refine below_set ?_ (IsS35.ge HI261.out) | refine below_set ?_ GE327.out | refine below_set ?_ GE336.out) | exact HB.out))
                                rintro e w73 ⟨rfl, hi, hb, hk⟩
                                refine ⟨_, rfl, ?_⟩
                                have n0_ := Aside0.mk (KeepBut.blk hk (g' := gb327) (o := .cells #[.int .i64 t319, .int .i64 t320, .int .i64 x328002_44] 31 (0, 0)) (by (with_reducible repeat (first | refine blk_drewN ?_ _ | refine blk_drew ?_ | refine blk_alloc ?_ _)); exact BK327.out) NB327_261.out (by simp))
                                have n1_ := Aside0.mk (KeepBut.blk hk (g' := gb336) (o := .cells #[.int .i64 t328, .int .i64 t329, .int .i64 t330] 31 (0, 0)) (by (with_reducible repeat (first | refine blk_drewN ?_ _ | refine blk_drew ?_ | refine blk_alloc ?_ _)); exact BK336.out) NB336_261.out (by simp))
                                have n2_ := Aside0.mk ((IsS35.keepS (show IsS35 w _ g255 t338 t339 t340 t341 t342 from by repeat (first | (with_reducible first | exact HI255.out | apply IsS35.alloc | apply IsS35.drewN | apply IsS35.drew | apply IsS35.set_0 | apply IsS35.set_1 | apply IsS35.set_2 | apply IsS35.set_3 | apply IsS35.set_4 | refine IsS35.far ?_ NB255_327.out (by repeat (first | exact TypeAt.mk BK327.out | apply TypeAt.set | apply TypeAt.alloc | apply TypeAt.drewN | apply TypeAt.drew)) (by decide) _ | refine IsS35.far ?_ NB255_336.out (by repeat (first | exact TypeAt.mk BK336.out | apply TypeAt.set | apply TypeAt.alloc | apply TypeAt.drewN | apply TypeAt.drew)) (by decide) _) | exact HI255.out)) hk NB255_261.out (IsS35.cells (show IsS35 w _ g261 t331 t332 t333 t334 t335 from by repeat (first | (with_reducible first | exact HI261.out | apply IsS35.alloc | apply IsS35.drewN | apply IsS35.drew | apply IsS35.set_0 | apply IsS35.set_1 | apply IsS35.set_2 | apply IsS35.set_3 | apply IsS35.set_4 | refine IsS35.far ?_ NB261_327.out (by repeat (first | exact TypeAt.mk BK327.out | apply TypeAt.set | apply TypeAt.alloc | apply TypeAt.drewN | apply TypeAt.drew)) (by decide) _ | refine IsS35.far ?_ NB261_336.out (by repeat (first | exact TypeAt.mk BK336.out | apply TypeAt.set | apply TypeAt.alloc | apply TypeAt.drewN | apply TypeAt.drew)) (by decide) _) | exact HI261.out)))))
                                have n3_ := Aside0.mk (hb)
                                have n4_ := Aside0.mk (hi)
                                clear BK327
                                clear BK336
                                clear HI255
                                clear HB
                                clear HI261
                                have BK327 := n0_
                                have BK336 := n1_
                                have HI255 := n2_
                                have HB := n3_
                                have HI261 := n4_
                                clear n0_ n1_ n2_ n3_ n4_
                                (try clear hb)
                                (try clear hb2)
                                (try clear hk)
                                (try clear hi)
                                refine hK.out _ _ ⟨(blk_cell BK327.out 0).trans rfl, (blk_cell BK327.out 1).trans rfl, (blk_cell BK327.out 2).trans rfl, (blk_cell BK336.out 0).trans rfl, (blk_cell BK336.out 1).trans rfl, (blk_cell BK336.out 2).trans rfl⟩ (fun hHeld => ?_)
                                clear hK K
                                refine norm_ (a' := ?_) ?_ ?_
                                rotate_left
                                · show Act.put _ (some 131) _ = _
                                  simp only [Act.put, List.setIfInBounds_toArray, List.set_cons_zero, List.set_cons_succ, i64_w, i32_w]
                                  rfl
                                refine pure_ (i := 12) (N := some 132) (v := ?_) (a' := ?_) #[true, true, true, true, true, true, true, true, true, true, true, true, true, false, false, false, false, false, false, false, false, false, false, false, false, false, false] rfl rfl (any_of HT_.out (by kernel_rfl)) (fun _ _ _ h => h) (Or.inl ⟨by rfl, ?_⟩) ?_ ?_
                                rotate_left
                                · intro w'
                                  go_simp
                                  with_reducible rfl
                                rotate_left
                                · simp only [Act.put, List.setIfInBounds_toArray, List.set_cons_zero, List.set_cons_succ, i64_w, i32_w]
                                  rfl
                                refine pure_ (i := 13) (N := some 133) (v := ?_) (a' := ?_) #[true, true, true, true, true, true, true, true, true, true, true, true, true, true, false, false, false, false, false, false, false, false, false, false, false, false, false] rfl rfl (any_of HT_.out (by kernel_rfl)) (fun _ _ _ h => h) (Or.inl ⟨by rfl, ?_⟩) ?_ ?_
                                rotate_left
                                · intro w'
                                  go_simp
                                  with_reducible rfl
                                rotate_left
                                · simp only [Act.put, List.setIfInBounds_toArray, List.set_cons_zero, List.set_cons_succ, i64_w, i32_w]
                                  rfl
                                refine pure_ (i := 14) (N := some 134) (v := ?_) (a' := ?_) #[true, true, true, true, true, true, true, true, true, true, true, true, true, true, true, false, false, false, false, false, false, false, false, false, false, false, false] rfl rfl (any_of HT_.out (by kernel_rfl)) (fun _ _ _ h => h) (Or.inl ⟨by rfl, ?_⟩) ?_ ?_
                                rotate_left
                                · intro w'
                                  go_simp
                                  with_reducible rfl
                                rotate_left
                                · simp only [Act.put, List.setIfInBounds_toArray, List.set_cons_zero, List.set_cons_succ, i64_w, i32_w]
                                  rfl
                                refine pure_ (i := 15) (N := some 135) (v := ?_) (a' := ?_) #[true, true, true, true, true, true, true, true, true, true, true, true, true, true, true, true, false, false, false, false, false, false, false, false, false, false, false] rfl rfl (any_of HT_.out (by kernel_rfl)) (fun _ _ _ h => h) (Or.inl ⟨by rfl, ?_⟩) ?_ ?_
                                rotate_left
                                · intro w'
                                  go_simp
                                  with_reducible rfl
                                rotate_left
                                · simp only [Act.put, List.setIfInBounds_toArray, List.set_cons_zero, List.set_cons_succ, i64_w, i32_w]
                                  rfl
                                refine pure_ (i := 16) (N := some 136) (v := ?_) (a' := ?_) #[true, true, true, true, true, true, true, true, true, true, true, true, true, true, true, true, true, false, false, false, false, false, false, false, false, false, false] rfl rfl (any_of HT_.out (by kernel_rfl)) (fun _ _ _ h => h) (Or.inl ⟨by rfl, ?_⟩) ?_ ?_
                                rotate_left
                                · intro w'
                                  go_simp
                                  with_reducible rfl
                                rotate_left
                                · simp only [Act.put, List.setIfInBounds_toArray, List.set_cons_zero, List.set_cons_succ, i64_w, i32_w]
                                  rfl
                                refine pure_ (i := 17) (N := some 137) (v := ?_) (a' := ?_) #[true, true, true, true, true, true, true, true, true, true, true, true, true, true, true, true, true, true, false, false, false, false, false, false, false, false, false] rfl rfl (any_of HT_.out (by kernel_rfl)) (fun _ _ _ h => h) (Or.inl ⟨by rfl, ?_⟩) ?_ ?_
                                rotate_left
                                · intro w'
                                  go_simp
                                  with_reducible rfl
                                rotate_left
                                · simp only [Act.put, List.setIfInBounds_toArray, List.set_cons_zero, List.set_cons_succ, i64_w, i32_w]
                                  rfl
                                refine pure_ (i := 19) (N := some 139) (v := ?_) (a' := ?_) #[true, true, true, true, true, true, true, true, true, true, true, true, true, true, true, true, true, true, false, true, false, false, false, false, false, false, false] rfl rfl (any_of HT_.out (by kernel_rfl)) (fun _ _ _ h => h) (Or.inl ⟨by rfl, ?_⟩) ?_ ?_
                                rotate_left
                                · intro w'
                                  go_simp
                                  with_reducible rfl
                                rotate_left
                                · simp only [Act.put, List.setIfInBounds_toArray, List.set_cons_zero, List.set_cons_succ, i64_w, i32_w]
                                  rfl
                                refine pure_ (i := 21) (N := some 141) (v := ?_) (a' := ?_) #[true, true, true, true, true, true, true, true, true, true, true, true, true, true, true, true, true, true, false, true, false, true, false, false, false, false, false] rfl rfl (any_of HT_.out (by kernel_rfl)) (fun _ _ _ h => h) (Or.inl ⟨by rfl, ?_⟩) ?_ ?_
                                rotate_left
                                · intro w'
                                  go_simp
                                  with_reducible rfl
                                rotate_left
                                · simp only [Act.put, List.setIfInBounds_toArray, List.set_cons_zero, List.set_cons_succ, i64_w, i32_w]
                                  rfl
                                refine pure_ (i := 22) (N := some 142) (v := ?_) (a' := ?_) #[true, true, true, true, true, true, true, true, true, true, true, true, true, true, true, true, true, true, false, true, false, true, true, false, false, false, false] rfl rfl (any_of HT_.out (by kernel_rfl)) (fun _ _ _ h => h) (Or.inl ⟨by rfl, ?_⟩) ?_ ?_
                                rotate_left
                                · intro w'
                                  go_simp
                                  with_reducible rfl
                                rotate_left
                                · simp only [Act.put, List.setIfInBounds_toArray, List.set_cons_zero, List.set_cons_succ, i64_w, i32_w]
                                  rfl
                                refine pure_ (i := 23) (N := some 143) (v := ?_) (a' := ?_) #[true, true, true, true, true, true, true, true, true, true, true, true, true, true, true, true, true, true, false, true, false, true, true, true, false, false, false] rfl rfl (any_of HT_.out (by kernel_rfl)) (fun _ _ _ h => h) (Or.inl ⟨by rfl, ?_⟩) ?_ ?_
                                rotate_left
                                · intro w'
                                  go_simp
                                  with_reducible rfl
                                rotate_left
                                · simp only [Act.put, List.setIfInBounds_toArray, List.set_cons_zero, List.set_cons_succ, i64_w, i32_w]
                                  rfl
                                refine one_ (i := 18) (N := some 138) #[true, true, true, true, true, true, true, true, true, true, true, true, true, true, true, true, true, true, true, true, false, true, true, true, false, false, false] rfl rfl (one_of HT_.out (by kernel_rfl)) (by decide) (fun K hK => ?_)
                                refine goes_ Try.func12 (by kernel_rfl) rfl #[.pointer (some ⟨g255, 0, none⟩)] (by rfl) rfl rfl (by (try simp only [List.map_toArray, List.map_cons, List.map_nil]); first | done | rfl | (simp only [List.length_drop, List.length_take]; rfl)) ?_
                                with_reducible refine (cursor_place_At.calls g255 t338 t339 t340 t341 t342 t349 t350 t351 t352 t353 t354 w _ ?side1 ?side2 A68.out).mono ?_
                                (case side1 => repeat (first | (with_reducible first | exact HI255.out | apply IsS35.alloc | apply IsS35.drewN | apply IsS35.drew | apply IsS35.set_0 | apply IsS35.set_1 | apply IsS35.set_2 | apply IsS35.set_3 | apply IsS35.set_4 | refine IsS35.far ?_ NB255_327.out (by repeat (first | exact TypeAt.mk BK327.out | apply TypeAt.set | apply TypeAt.alloc | apply TypeAt.drewN | apply TypeAt.drew)) (by decide) _ | refine IsS35.far ?_ NB255_336.out (by repeat (first | exact TypeAt.mk BK336.out | apply TypeAt.set | apply TypeAt.alloc | apply TypeAt.drewN | apply TypeAt.drew)) (by decide) _) | exact HI255.out))
                                (case side2 => repeat (first | (with_reducible first | exact HB.out | apply below_alloc | apply pw_below_drewN | apply below_drew1 | refine below_set ?_ (IsS35.ge HI255.out) | refine below_set ?_ (IsS35.ge HI261.out) | refine below_set ?_ GE327.out | refine below_set ?_ GE336.out) | exact HB.out))
                                rintro e w74 ⟨rfl, hi, hb, hk⟩
                                refine ⟨_, rfl, ?_⟩
                                have n0_ := Aside0.mk (KeepBut.blk hk (g' := gb327) (o := .cells #[.int .i64 t319, .int .i64 t320, .int .i64 x328002_44] 31 (0, 0)) (by (with_reducible repeat (first | refine blk_drewN ?_ _ | refine blk_drew ?_ | refine blk_alloc ?_ _)); exact BK327.out) NB327_255.out (by simp))
                                have n1_ := Aside0.mk (KeepBut.blk hk (g' := gb336) (o := .cells #[.int .i64 t328, .int .i64 t329, .int .i64 t330] 31 (0, 0)) (by (with_reducible repeat (first | refine blk_drewN ?_ _ | refine blk_drew ?_ | refine blk_alloc ?_ _)); exact BK336.out) NB336_255.out (by simp))
                                have n2_ := Aside0.mk ((IsS35.keepS (show IsS35 w _ g261 t344 t345 t346 t347 t348 from by repeat (first | (with_reducible first | exact HI261.out | apply IsS35.alloc | apply IsS35.drewN | apply IsS35.drew | apply IsS35.set_0 | apply IsS35.set_1 | apply IsS35.set_2 | apply IsS35.set_3 | apply IsS35.set_4 | refine IsS35.far ?_ NB261_327.out (by repeat (first | exact TypeAt.mk BK327.out | apply TypeAt.set | apply TypeAt.alloc | apply TypeAt.drewN | apply TypeAt.drew)) (by decide) _ | refine IsS35.far ?_ NB261_336.out (by repeat (first | exact TypeAt.mk BK336.out | apply TypeAt.set | apply TypeAt.alloc | apply TypeAt.drewN | apply TypeAt.drew)) (by decide) _) | exact HI261.out)) hk NB261_255.out (IsS35.cells (show IsS35 w _ g255 t338 t339 t340 t341 t342 from by repeat (first | (with_reducible first | exact HI255.out | apply IsS35.alloc | apply IsS35.drewN | apply IsS35.drew | apply IsS35.set_0 | apply IsS35.set_1 | apply IsS35.set_2 | apply IsS35.set_3 | apply IsS35.set_4 | refine IsS35.far ?_ NB255_327.out (by repeat (first | exact TypeAt.mk BK327.out | apply TypeAt.set | apply TypeAt.alloc | apply TypeAt.drewN | apply TypeAt.drew)) (by decide) _ | refine IsS35.far ?_ NB255_336.out (by repeat (first | exact TypeAt.mk BK336.out | apply TypeAt.set | apply TypeAt.alloc | apply TypeAt.drewN | apply TypeAt.drew)) (by decide) _) | exact HI255.out)))))
                                have n3_ := Aside0.mk (hb)
                                have n4_ := Aside0.mk (hi)
                                clear BK327
                                clear BK336
                                clear HI261
                                clear HB
                                clear HI255
                                have BK327 := n0_
                                have BK336 := n1_
                                have HI261 := n2_
                                have HB := n3_
                                have HI255 := n4_
                                clear n0_ n1_ n2_ n3_ n4_
                                (try clear hb)
                                (try clear hb2)
                                (try clear hk)
                                (try clear hi)
                                refine hK.out _ _ ⟨(blk_cell BK327.out 0).trans rfl, (blk_cell BK327.out 1).trans rfl, (blk_cell BK327.out 2).trans rfl, (blk_cell BK336.out 0).trans rfl, (blk_cell BK336.out 1).trans rfl, (blk_cell BK336.out 2).trans rfl⟩ (fun hHeld => ?_)
                                clear hK K
                                refine norm_ (a' := ?_) ?_ ?_
                                rotate_left
                                · show Act.put _ (some 138) _ = _
                                  simp only [Act.put, List.setIfInBounds_toArray, List.set_cons_zero, List.set_cons_succ, i64_w, i32_w]
                                  rfl
                                refine pure_ (i := 20) (N := some 140) (v := ?_) (a' := ?_) #[true, true, true, true, true, true, true, true, true, true, true, true, true, true, true, true, true, true, true, true, true, true, true, true, false, false, false] rfl rfl (any_of HT_.out (by kernel_rfl)) (fun _ _ _ h => h) (Or.inl ⟨by rfl, ?_⟩) ?_ ?_
                                rotate_left
                                · intro w'
                                  go_simp
                                  with_reducible rfl
                                rotate_left
                                · simp only [Act.put, List.setIfInBounds_toArray, List.set_cons_zero, List.set_cons_succ, i64_w, i32_w]
                                  rfl
                                refine one_ (i := 24) (N := some 144) #[true, true, true, true, true, true, true, true, true, true, true, true, true, true, true, true, true, true, true, true, true, true, true, true, true, false, false] rfl rfl (one_of HT_.out (by kernel_rfl)) (by decide) (fun K hK => ?_)
                                refine goes_ Try.func12 (by kernel_rfl) rfl #[.pointer (some ⟨g261, 0, none⟩)] (by rfl) rfl rfl (by (try simp only [List.map_toArray, List.map_cons, List.map_nil]); first | done | rfl | (simp only [List.length_drop, List.length_take]; rfl)) ?_
                                with_reducible refine (cursor_place_At.calls g261 t344 t345 t346 t347 t348 t355 t356 t357 t358 t359 t360 w _ ?side1 ?side2 A69.out).mono ?_
                                (case side1 => repeat (first | (with_reducible first | exact HI261.out | apply IsS35.alloc | apply IsS35.drewN | apply IsS35.drew | apply IsS35.set_0 | apply IsS35.set_1 | apply IsS35.set_2 | apply IsS35.set_3 | apply IsS35.set_4 | refine IsS35.far ?_ NB261_327.out (by repeat (first | exact TypeAt.mk BK327.out | apply TypeAt.set | apply TypeAt.alloc | apply TypeAt.drewN | apply TypeAt.drew)) (by decide) _ | refine IsS35.far ?_ NB261_336.out (by repeat (first | exact TypeAt.mk BK336.out | apply TypeAt.set | apply TypeAt.alloc | apply TypeAt.drewN | apply TypeAt.drew)) (by decide) _) | exact HI261.out))
                                (case side2 => repeat (first | (with_reducible first | exact HB.out | apply below_alloc | apply pw_below_drewN | apply below_drew1 | refine below_set ?_ (IsS35.ge HI255.out) | refine below_set ?_ (IsS35.ge HI261.out) | refine below_set ?_ GE327.out | refine below_set ?_ GE336.out) | exact HB.out))
                                rintro e w75 ⟨rfl, hi, hb, hk⟩
                                refine ⟨_, rfl, ?_⟩
                                have n0_ := Aside0.mk (KeepBut.blk hk (g' := gb327) (o := .cells #[.int .i64 t319, .int .i64 t320, .int .i64 x328002_44] 31 (0, 0)) (by (with_reducible repeat (first | refine blk_drewN ?_ _ | refine blk_drew ?_ | refine blk_alloc ?_ _)); exact BK327.out) NB327_261.out (by simp))
                                have n1_ := Aside0.mk (KeepBut.blk hk (g' := gb336) (o := .cells #[.int .i64 t328, .int .i64 t329, .int .i64 t330] 31 (0, 0)) (by (with_reducible repeat (first | refine blk_drewN ?_ _ | refine blk_drew ?_ | refine blk_alloc ?_ _)); exact BK336.out) NB336_261.out (by simp))
                                have n2_ := Aside0.mk ((IsS35.keepS (show IsS35 w _ g255 t350 t351 t352 t353 t354 from by repeat (first | (with_reducible first | exact HI255.out | apply IsS35.alloc | apply IsS35.drewN | apply IsS35.drew | apply IsS35.set_0 | apply IsS35.set_1 | apply IsS35.set_2 | apply IsS35.set_3 | apply IsS35.set_4 | refine IsS35.far ?_ NB255_327.out (by repeat (first | exact TypeAt.mk BK327.out | apply TypeAt.set | apply TypeAt.alloc | apply TypeAt.drewN | apply TypeAt.drew)) (by decide) _ | refine IsS35.far ?_ NB255_336.out (by repeat (first | exact TypeAt.mk BK336.out | apply TypeAt.set | apply TypeAt.alloc | apply TypeAt.drewN | apply TypeAt.drew)) (by decide) _) | exact HI255.out)) hk NB255_261.out (IsS35.cells (show IsS35 w _ g261 t344 t345 t346 t347 t348 from by repeat (first | (with_reducible first | exact HI261.out | apply IsS35.alloc | apply IsS35.drewN | apply IsS35.drew | apply IsS35.set_0 | apply IsS35.set_1 | apply IsS35.set_2 | apply IsS35.set_3 | apply IsS35.set_4 | refine IsS35.far ?_ NB261_327.out (by repeat (first | exact TypeAt.mk BK327.out | apply TypeAt.set | apply TypeAt.alloc | apply TypeAt.drewN | apply TypeAt.drew)) (by decide) _ | refine IsS35.far ?_ NB261_336.out (by repeat (first | exact TypeAt.mk BK336.out | apply TypeAt.set | apply TypeAt.alloc | apply TypeAt.drewN | apply TypeAt.drew)) (by decide) _) | exact HI261.out)))))
                                have n3_ := Aside0.mk (hb)
                                have n4_ := Aside0.mk (hi)
                                clear BK327
                                clear BK336
                                clear HI255
                                clear HB
                                clear HI261
                                have BK327 := n0_
                                have BK336 := n1_
                                have HI255 := n2_
                                have HB := n3_
                                have HI261 := n4_
                                clear n0_ n1_ n2_ n3_ n4_
                                (try clear hb)
                                (try clear hb2)
                                (try clear hk)
                                (try clear hi)
                                refine hK.out _ _ ⟨(blk_cell BK327.out 0).trans rfl, (blk_cell BK327.out 1).trans rfl, (blk_cell BK327.out 2).trans rfl, (blk_cell BK336.out 0).trans rfl, (blk_cell BK336.out 1).trans rfl, (blk_cell BK336.out 2).trans rfl⟩ (fun hHeld => ?_)
                                clear hK K
                                refine norm_ (a' := ?_) ?_ ?_
                                rotate_left
                                · show Act.put _ (some 144) _ = _
                                  simp only [Act.put, List.setIfInBounds_toArray, List.set_cons_zero, List.set_cons_succ, i64_w, i32_w]
                                  rfl
                                refine pure_ (i := 25) (N := some 145) (v := ?_) (a' := ?_) #[true, true, true, true, true, true, true, true, true, true, true, true, true, true, true, true, true, true, true, true, true, true, true, true, true, true, false] rfl rfl (any_of HT_.out (by kernel_rfl)) (fun _ _ _ h => h) (Or.inl ⟨by rfl, ?_⟩) ?_ ?_
                                rotate_left
                                · intro w'
                                  go_simp
                                  with_reducible rfl
                                rotate_left
                                · simp only [Act.put, List.setIfInBounds_toArray, List.set_cons_zero, List.set_cons_succ, i64_w, i32_w]
                                  rfl
                                refine pure_ (i := 26) (N := some 146) (v := ?_) (a' := ?_) #[true, true, true, true, true, true, true, true, true, true, true, true, true, true, true, true, true, true, true, true, true, true, true, true, true, true, true] rfl rfl (any_of HT_.out (by kernel_rfl)) (fun _ _ _ h => h) (Or.inl ⟨by rfl, ?_⟩) ?_ ?_
                                rotate_left
                                · intro w'
                                  go_simp
                                  with_reducible rfl
                                rotate_left
                                · simp only [Act.put, List.setIfInBounds_toArray, List.set_cons_zero, List.set_cons_succ, i64_w, i32_w]
                                  rfl
                                refine done_ (done_of HT_.out (by kernel_rfl)) ?_
                                try go_wp2
                                go_roundg kj44
                                case measure => have := HJ4.out; have := HK2.out; have := HJ16.out; have := HJ44.out; omega
                                case rel => exact ⟨(wrap64 (x10_2 + 1)), (t350), (t351), (t352), (t353), (t354), (t356), (t357), (t358), (t359), (t360), (by first | rfl | (simp; done) | (simp [*]; done)), H', ⟨by have := HJ4.out; have := HK2.out; have := HJ16.out; have := HJ44.out; omega⟩, ⟨by repeat (first | (with_reducible first | exact HI255.out | apply IsS35.alloc | apply IsS35.drewN | apply IsS35.drew | apply IsS35.set_0 | apply IsS35.set_1 | apply IsS35.set_2 | apply IsS35.set_3 | apply IsS35.set_4 | refine IsS35.far ?_ NB255_327.out (by repeat (first | exact TypeAt.mk BK327.out | apply TypeAt.set | apply TypeAt.alloc | apply TypeAt.drewN | apply TypeAt.drew)) (by decide) _ | refine IsS35.far ?_ NB255_336.out (by repeat (first | exact TypeAt.mk BK336.out | apply TypeAt.set | apply TypeAt.alloc | apply TypeAt.drewN | apply TypeAt.drew)) (by decide) _) | exact HI255.out)⟩, ⟨by repeat (first | (with_reducible first | exact HI261.out | apply IsS35.alloc | apply IsS35.drewN | apply IsS35.drew | apply IsS35.set_0 | apply IsS35.set_1 | apply IsS35.set_2 | apply IsS35.set_3 | apply IsS35.set_4 | refine IsS35.far ?_ NB261_327.out (by repeat (first | exact TypeAt.mk BK327.out | apply TypeAt.set | apply TypeAt.alloc | apply TypeAt.drewN | apply TypeAt.drew)) (by decide) _ | refine IsS35.far ?_ NB261_336.out (by repeat (first | exact TypeAt.mk BK336.out | apply TypeAt.set | apply TypeAt.alloc | apply TypeAt.drewN | apply TypeAt.drew)) (by decide) _) | exact HI261.out)⟩, ⟨by repeat (first | (with_reducible first | exact HB.out | apply below_alloc | apply pw_below_drewN | apply below_drew1 | refine below_set ?_ (IsS35.ge HI255.out) | refine below_set ?_ (IsS35.ge HI261.out) | refine below_set ?_ GE327.out | refine below_set ?_ GE336.out) | exact HB.out)⟩⟩
                              · rw [if_neg c70] at H
                                exact absurd H (by simp)
                            · rw [if_neg c67] at H
                              exact absurd H (by simp)
                        · replace c63 := Bool.eq_false_iff.mpr c63
                          subst c63
                          have H1 : (none) = some r := by rw [if_neg (show ¬ (false = true) by decide)] at H; exact H
                          clear H
                          have H := H1
                          clear H1
                          exact absurd H (by simp)
              · rw [if_neg c16] at H
                exact absurd H (by simp)
            · rw [if_neg c15] at H
              have c15b0 : decide (x10_2 < (l2.length : Int)) = false := decide_eq_false c15
              clear c15
              obtain rfl := Option.some.inj H
              go_wp2
              go_ret
              exact ⟨by first | rfl | (simp [errW_none, errW_some] <;> rfl) | (simp [*, errW_none, errW_some] <;> rfl), by repeat (first | (with_reducible first | exact HB.out | apply below_alloc | apply pw_below_drewN | apply below_drew1 | refine below_set ?_ (IsS35.ge HI255.out) | refine below_set ?_ (IsS35.ge HI261.out)) | exact HB.out)⟩

end Go.Proofs.Ytgegbiknohjpgaa.HCursorPlaces
