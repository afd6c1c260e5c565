-- Written by the session's program hy.py.
import Derived.Test.YtcbalpchfcifeaaHRunsTellsx0
import Derived.Test.YtcbalpchfcifeaaHRunsTellsx6
import Derived.Test.YtcbalpchfcifeaaHRunsTellsx7
namespace Go.Proofs.Ytcbalpchfcifeaa.HRunsTells
open Go.RowKit Go.Proofs.YtcbalpchfcifeaaW.PrintWords Go.Proofs.YtcbalpchfcifeaaW.PrintLast Go.Proofs.YtcbalpchfcifeaaW.PrintMore
attribute [local go_sem] max2_int min2_int max_two min_two max_three min_three max_four min_four   -- for this text's walks alone
set_option linter.unusedVariables false
set_option linter.unusedSimpArgs false

/-! ### deckleref05_groups: function 19 -/
mutual
def deckleref05_groups.l0 : Nat → Int → List Int → (List Int) → Int → Int → Int → Int → Option (List Int × Bool)
  | 0, _, _, _, _, _, _, _ => none
  | k + 1, x1, x7, x464000, x464001, x464002, x464003, x464004 => (deckleref04_Cursor_Left.f x464000 x464001 x464002 x464003 x464004).bind fun bt464 => (if bt464.1 > 0 then ((deckleref04_Cursor_Num.f k bt464.2.1 bt464.2.2.1 bt464.2.2.2.1 bt464.2.2.2.2.1 bt464.2.2.2.2.2 1099511627776).bind fun bt470 => (if (Int.tmod bt470.1 2) = 1 then (deckleref05_groups.j1 k x1 x7 bt470.1 (wrap64 ((wrap64 (Int.tdiv bt470.1 2)) + 3)) bt470.2.1 bt470.2.2.1 bt470.2.2.2.1 bt470.2.2.2.2.1 bt470.2.2.2.2.2) else (deckleref05_groups.j1 k x1 x7 bt470.1 (wrap64 ((wrap64 (Int.tdiv bt470.1 2)) + 1)) bt470.2.1 bt470.2.2.1 bt470.2.2.2.1 bt470.2.2.2.2.1 bt470.2.2.2.2.2))) else (some (x7, true)))
def deckleref05_groups.j1 : Nat → Int → List Int → Int → Int → (List Int) → Int → Int → Int → Int → Option (List Int × Bool)
  | 0, _, _, _, _, _, _, _, _, _ => none
  | k + 1, x1, x7, x8, x9, x464000, x464001, x464002, x464003, x464004 => if x9 > (wrap64 (x1 - (x7.length : Int))) then (some (([] : List Int), false)) else (if (Int.tmod x8 2) = 0 then ((deckleref04_Cursor_Take.f x464000 x464001 x464002 x464003 x464004 x9).bind fun bt476 => (if x7.length + bt476.1.length < 140737488355328 then (if bt476.2.2.2.1 = 0 then (deckleref05_groups.l0 k x1 (x7 ++ bt476.1) bt476.2.1 bt476.2.2.1 bt476.2.2.2.1 bt476.2.2.2.2.1 bt476.2.2.2.2.2) else (some (([] : List Int), false))) else (none))) else ((deckleref04_Cursor_Byte.f x464000 x464001 x464002 x464003 x464004).bind fun bt487 => (deckleref05_groups.l1 k x1 x7 x9 bt487.1 0 bt487.2.1 bt487.2.2.1 bt487.2.2.2.1 bt487.2.2.2.2.1 bt487.2.2.2.2.2)))
def deckleref05_groups.l1 : Nat → Int → List Int → Int → Int → Int → (List Int) → Int → Int → Int → Int → Option (List Int × Bool)
  | 0, _, _, _, _, _, _, _, _, _, _ => none
  | k + 1, x1, x7, x9, x10, x11, x464000, x464001, x464002, x464003, x464004 => if x11 < x9 then (if x7.length < 140737488355328 then (deckleref05_groups.l1 k x1 (x7 ++ [x10]) x9 x10 (wrap64 (x11 + 1)) x464000 x464001 x464002 x464003 x464004) else (none)) else (if x464002 = 0 then (deckleref05_groups.l0 k x1 x7 x464000 x464001 x464002 x464003 x464004) else (some (([] : List Int), false)))
end
def deckleref05_groups.f (k : Nat) (l0 : List Int) (a1 : Int) : Option (List Int × Bool) := (deckleref04_Open.f l0 0).bind fun bt458 => (deckleref05_groups.l0 k a1 ([] : List Int) bt458.1 bt458.2.1 bt458.2.2.1 bt458.2.2.2.1 bt458.2.2.2.2)
theorem deckleref05_groups.mono_l : ∀ k, (∀ y0 y1 y2 y3 y4 y5 y6, LeO (deckleref05_groups.l0 k y0 y1 y2 y3 y4 y5 y6) (deckleref05_groups.l0 (k + 1) y0 y1 y2 y3 y4 y5 y6)) ∧ (∀ y0 y1 y2 y3 y4 y5 y6 y7 y8, LeO (deckleref05_groups.j1 k y0 y1 y2 y3 y4 y5 y6 y7 y8) (deckleref05_groups.j1 (k + 1) y0 y1 y2 y3 y4 y5 y6 y7 y8)) ∧ (∀ y0 y1 y2 y3 y4 y5 y6 y7 y8 y9, LeO (deckleref05_groups.l1 k y0 y1 y2 y3 y4 y5 y6 y7 y8 y9) (deckleref05_groups.l1 (k + 1) y0 y1 y2 y3 y4 y5 y6 y7 y8 y9))
  | 0 => ⟨fun _ _ _ _ _ _ _ r h => by simp [deckleref05_groups.l0] at h, fun _ _ _ _ _ _ _ _ _ r h => by simp [deckleref05_groups.j1] at h, fun _ _ _ _ _ _ _ _ _ _ r h => by simp [deckleref05_groups.l1] at h⟩
  | k + 1 => by
    obtain ⟨ih0, ih1, ih2⟩ := deckleref05_groups.mono_l k
    refine ⟨?_, ?_, ?_⟩
    · intro y0 y1 y2 y3 y4 y5 y6
      unfold deckleref05_groups.l0
      repeat' first
      | (with_reducible exact ih0 _ _ _ _ _ _ _)
      | (with_reducible exact ih1 _ _ _ _ _ _ _ _ _)
      | (with_reducible exact ih2 _ _ _ _ _ _ _ _ _ _)
      | (with_reducible exact deckleref04_Cursor_Num.mono _ _ _ _ _ _ _)
      | (with_reducible exact LeO.refl _)
      | (with_reducible exact LeO.none _)
      | (with_reducible refine LeO.ite ?_ ?_)
      | (with_reducible refine LeO.bind ?_ (fun _ => ?_))
      | exact ih0 _ _ _ _ _ _ _
      | exact ih1 _ _ _ _ _ _ _ _ _
      | exact ih2 _ _ _ _ _ _ _ _ _ _
      | exact deckleref04_Cursor_Num.mono _ _ _ _ _ _ _
      | exact LeO.none _
      | refine LeO.ite ?_ ?_
      | refine LeO.bind ?_ (fun _ => ?_)
    · intro y0 y1 y2 y3 y4 y5 y6 y7 y8
      unfold deckleref05_groups.j1
      repeat' first
      | (with_reducible exact ih0 _ _ _ _ _ _ _)
      | (with_reducible exact ih1 _ _ _ _ _ _ _ _ _)
      | (with_reducible exact ih2 _ _ _ _ _ _ _ _ _ _)
      | (with_reducible exact deckleref04_Cursor_Num.mono _ _ _ _ _ _ _)
      | (with_reducible exact LeO.refl _)
      | (with_reducible exact LeO.none _)
      | (with_reducible refine LeO.ite ?_ ?_)
      | (with_reducible refine LeO.bind ?_ (fun _ => ?_))
      | exact ih0 _ _ _ _ _ _ _
      | exact ih1 _ _ _ _ _ _ _ _ _
      | exact ih2 _ _ _ _ _ _ _ _ _ _
      | exact deckleref04_Cursor_Num.mono _ _ _ _ _ _ _
      | exact LeO.none _
      | refine LeO.ite ?_ ?_
      | refine LeO.bind ?_ (fun _ => ?_)
    · intro y0 y1 y2 y3 y4 y5 y6 y7 y8 y9
      unfold deckleref05_groups.l1
      repeat' first
      | (with_reducible exact ih0 _ _ _ _ _ _ _)
      | (with_reducible exact ih1 _ _ _ _ _ _ _ _ _)
      | (with_reducible exact ih2 _ _ _ _ _ _ _ _ _ _)
      | (with_reducible exact deckleref04_Cursor_Num.mono _ _ _ _ _ _ _)
      | (with_reducible exact LeO.refl _)
      | (with_reducible exact LeO.none _)
      | (with_reducible refine LeO.ite ?_ ?_)
      | (with_reducible refine LeO.bind ?_ (fun _ => ?_))
      | exact ih0 _ _ _ _ _ _ _
      | exact ih1 _ _ _ _ _ _ _ _ _
      | exact ih2 _ _ _ _ _ _ _ _ _ _
      | exact deckleref04_Cursor_Num.mono _ _ _ _ _ _ _
      | exact LeO.none _
      | refine LeO.ite ?_ ?_
      | refine LeO.bind ?_ (fun _ => ?_)
theorem deckleref05_groups.mono : ∀ a0 a1 k, LeO (deckleref05_groups.f k a0 a1) (deckleref05_groups.f (k + 1) a0 a1) := by
  intro a0 a1 k
  obtain ⟨ih0, ih1, ih2⟩ := deckleref05_groups.mono_l k
  unfold deckleref05_groups.f
  repeat' first
      | (with_reducible exact ih0 _ _ _ _ _ _ _)
      | (with_reducible exact ih1 _ _ _ _ _ _ _ _ _)
      | (with_reducible exact ih2 _ _ _ _ _ _ _ _ _ _)
      | (with_reducible exact deckleref04_Cursor_Num.mono _ _ _ _ _ _ _)
      | (with_reducible exact LeO.refl _)
      | (with_reducible exact LeO.none _)
      | (with_reducible refine LeO.ite ?_ ?_)
      | (with_reducible refine LeO.bind ?_ (fun _ => ?_))
      | exact ih0 _ _ _ _ _ _ _
      | exact ih1 _ _ _ _ _ _ _ _ _
      | exact ih2 _ _ _ _ _ _ _ _ _ _
      | exact deckleref04_Cursor_Num.mono _ _ _ _ _ _ _
      | exact LeO.none _
      | refine LeO.ite ?_ ?_
      | refine LeO.bind ?_ (fun _ => ?_)
set_option maxHeartbeats 8000000 in
set_option maxRecDepth 100000 in
theorem deckleref05_groups.calls (k : Nat) (A0 : Option Addr) (c0 : Nat) (l0 : List Int) (a1 : Int) (r1 : List Int) (r2 : Bool) (w : World) (hr0 : Kd.C (Kd.int .u8) w A0 l0.length l0) (hc0 : l0.length ≤ c0) (h : deckleref05_groups.f k l0 a1 = some (r1, r2)) :
    Calls Try.prog 19 #[.slice A0 l0.length c0, .int .i64 a1] w fun e w' => ∃ v0_ : Value, e = .returned (.tuple #[v0_, .bool r2]) ∧ Kd.R (Kd.int .u8) 5 w' w.heap.size (fun _ => True) v0_ r1 ∧ Below w.heap.size w w' := by
  have HR0 := Aside0.mk hr0
  have HC0 := Aside0.mk hc0
  clear hr0 hc0
  have HB := Aside0.mk (Below.refl w.heap.size w)
  have H : ((deckleref04_Open.f l0 0).bind fun bt458 => (deckleref05_groups.l0 k a1 ([] : List Int) bt458.1 bt458.2.1 bt458.2.2.1 bt458.2.2.2.1 bt458.2.2.2.2)) = some (r1, r2) := h
  clear h
  replace H := Option.bind_eq_some_iff.mp H
  obtain ⟨⟨t458, t459, t460, t461, t462⟩, A30, H⟩ := H
  replace H : (deckleref05_groups.l0 k a1 ([] : List Int) t458 t459 t460 t461 t462) = some (r1, r2) := H
  have A3 := Aside0.mk A30
  clear A30
  have H' := Aside0.mk H
  clear H
  go_enter Try.func19, Try.ntmps19
  go_wp2_with (first | ((with_reducible refine gate_callee (f := 31) rfl ?_); refine goesL_ (some 13) rfl rfl Try.func31 (by kernel_rfl) rfl #[.slice A0 l0.length c0, .int .i64 0] rfl (by (try simp only [List.map_toArray, List.map_cons, List.map_nil]); first | done | rfl | (simp only [List.length_drop, List.length_take]; rfl)) ?_; (with_reducible refine (deckleref04_Open.calls _ _ l0 0 t458 t459 t460 t461 t462 w _ ?side1 ?side2 ?side3 A3.out).mono ?_); (case side1 => repeat (first | (with_reducible first | exact HB.out | apply below_alloc | apply pw_below_drewN | apply below_drew1) | exact HB.out)); (case side2 => repeat (first | exact HR0.out | (with_reducible refine Kd.C_alloc ?_ _) | (with_reducible refine Kd.C_drewN ?_ _) | (with_reducible refine Kd.C_drew ?_))); (case side3 => exact HC0.out); rintro e w4 ⟨g463, rfl, hi, hb, hb2⟩; refine ⟨_, rfl, ?_⟩; have n0_ := Aside0.mk (hb); have n1_ := Aside0.mk (hi); clear HB; have HB := n0_; have HI463 := n1_; clear n0_ n1_; (try clear hb); (try clear hb2); (try clear hk); (try clear hi)))
  go_loopg [7] k (fun kq v7 w' => ∃ (x7_1 : List Int) (x464000_1 : (List Int)) (x464001_1 : Int) (x464002_1 : Int) (x464003_1 : Int) (x464004_1 : Int), Aside0 (deckleref05_groups.l0 kq a1 x7_1 x464000_1 x464001_1 x464002_1 x464003_1 x464004_1 = some (r1, r2)) ∧ Aside0 (kq ≤ k) ∧ Aside0 (Kd.R (Kd.int .u8) 5 w' w.heap.size (fun k_ => g463 < k_) v7 x7_1) ∧ Aside0 (IsS58 w w' g463 x464000_1 x464001_1 x464002_1 x464003_1 x464004_1) ∧ Aside0 (Below w.heap.size w w'))
  case atStart => exact ⟨(([] : List Int)), (t458), (t459), (t460), (t461), (t462), H', ⟨Nat.le_refl _⟩, ⟨by first | exact Kd.R_nil _ _ _ _ _ | exact Kd.N_nil _ _ _ _ _ | exact Kd.V_nil _ _ _ _ _ | exact Kd.Q_nil _ _ _ _ _ | exact Kd.S_nil _ _ _ _ _⟩, ⟨by repeat (first | (with_reducible first | exact HI463.out | apply IsS58.alloc | apply IsS58.drewN | apply IsS58.drew | apply IsS58.set_0 | apply IsS58.set_1 | apply IsS58.set_2 | apply IsS58.set_3 | apply IsS58.set_4) | exact HI463.out)⟩, ⟨by repeat (first | (with_reducible first | exact HB.out | apply below_alloc | apply pw_below_drewN | apply below_drew1 | refine below_set ?_ (IsS58.ge HI463.out)) | exact HB.out)⟩⟩
  case round =>
    clear H'
    try clear c1
    try clear p2
    try clear c3
    obtain ⟨x7_1, x464000_1, x464001_1, x464002_1, x464003_1, x464004_1, HA, HK1, HO_7, HI463, HB⟩ := hrel
    cases gk with
    | zero => exact absurd HA.out (by simp [deckleref05_groups.l0])
    | succ k1 =>
      have H := HA.out
      clear HA
      simp only [deckleref05_groups.l0] at H
      replace H := Option.bind_eq_some_iff.mp H
      obtain ⟨⟨t464, t465, t466, t467, t468, t469⟩, A50, H⟩ := H
      replace H : (if t464 > 0 then ((deckleref04_Cursor_Num.f k1 t465 t466 t467 t468 t469 1099511627776).bind fun bt470 => (if (Int.tmod bt470.1 2) = 1 then (deckleref05_groups.j1 k1 a1 x7_1 bt470.1 (wrap64 ((wrap64 (Int.tdiv bt470.1 2)) + 3)) bt470.2.1 bt470.2.2.1 bt470.2.2.2.1 bt470.2.2.2.2.1 bt470.2.2.2.2.2) else (deckleref05_groups.j1 k1 a1 x7_1 bt470.1 (wrap64 ((wrap64 (Int.tdiv bt470.1 2)) + 1)) bt470.2.1 bt470.2.2.1 bt470.2.2.2.1 bt470.2.2.2.2.1 bt470.2.2.2.2.2))) else (some (x7_1, true))) = some (r1, r2) := H
      have A5 := Aside0.mk A50
      clear A50
      by_cases c6 : t464 > 0
      · rw [if_pos c6] at H
        have c6b0 : decide (0 < t464) = true := decide_eq_true c6
        clear c6
        replace H := Option.bind_eq_some_iff.mp H
        obtain ⟨⟨t470, t471, t472, t473, t474, t475⟩, A70, H⟩ := H
        replace H : (if (Int.tmod t470 2) = 1 then (deckleref05_groups.j1 k1 a1 x7_1 t470 (wrap64 ((wrap64 (Int.tdiv t470 2)) + 3)) t471 t472 t473 t474 t475) else (deckleref05_groups.j1 k1 a1 x7_1 t470 (wrap64 ((wrap64 (Int.tdiv t470 2)) + 1)) t471 t472 t473 t474 t475)) = some (r1, r2) := H
        have A7 := Aside0.mk A70
        clear A70
        have HC8 := Aside0.mk H
        clear H
        go_upto_if 24 with (first | ((with_reducible refine gate_callee (f := 32) rfl ?_); refine goesL_ (some 15) rfl rfl Try.func32 (by kernel_rfl) rfl #[.pointer (some ⟨g463, 0, none⟩)] rfl (by (try simp only [List.map_toArray, List.map_cons, List.map_nil]); first | done | rfl | (simp only [List.length_drop, List.length_take]; rfl)) ?_; (with_reducible refine (deckleref04_Cursor_Left.calls g463 x464000_1 x464001_1 x464002_1 x464003_1 x464004_1 t464 t465 t466 t467 t468 t469 w _ ?side1 ?side2 A5.out).mono ?_); (case side1 => repeat (first | (with_reducible first | exact HI463.out | apply IsS58.alloc | apply IsS58.drewN | apply IsS58.drew | apply IsS58.set_0 | apply IsS58.set_1 | apply IsS58.set_2 | apply IsS58.set_3 | apply IsS58.set_4) | exact HI463.out)); (case side2 => repeat (first | (with_reducible first | exact HB.out | apply below_alloc | apply pw_below_drewN | apply below_drew1 | refine below_set ?_ (IsS58.ge HI463.out)) | exact HB.out)); rintro e w9 ⟨rfl, hi, hb, hk⟩; refine ⟨_, rfl, ?_⟩; have n0_ := Aside0.mk (Kd.R_mono (Kd.R_keep (IsS58.apart (show IsS58 w _ g463 x464000_1 x464001_1 x464002_1 x464003_1 x464004_1 from by repeat (first | (with_reducible first | exact HI463.out | apply IsS58.alloc | apply IsS58.drewN | apply IsS58.drew | apply IsS58.set_0 | apply IsS58.set_1 | apply IsS58.set_2 | apply IsS58.set_3 | apply IsS58.set_4) | exact HI463.out)) (by (with_reducible repeat (first | apply Kd.R_alloc | apply Kd.R_drewN | apply Kd.R_drew)); exact HO_7.out) (by decide)) hk (fun _ h => h.2)) (fun _ h => h.1)); have n1_ := Aside0.mk (hb); have n2_ := Aside0.mk (hi); clear HO_7; clear HB; clear HI463; have HO_7 := n0_; have HB := n1_; have HI463 := n2_; clear n0_ n1_ n2_; (try clear hb); (try clear hb2); (try clear hk); (try clear hi)) | ((with_reducible refine gate_callee (f := 33) rfl ?_); refine goesL_ (some 18) rfl rfl Try.func33 (by kernel_rfl) rfl #[.pointer (some ⟨g463, 0, none⟩), .int .i64 1099511627776] rfl (by (try simp only [List.map_toArray, List.map_cons, List.map_nil]); first | done | rfl | (simp only [List.length_drop, List.length_take]; rfl)) ?_; (with_reducible refine (deckleref04_Cursor_Num.calls k1 g463 t465 t466 t467 t468 t469 1099511627776 t470 t471 t472 t473 t474 t475 w _ ?side1 ?side2 A7.out).mono ?_); (case side1 => repeat (first | (with_reducible first | exact HI463.out | apply IsS58.alloc | apply IsS58.drewN | apply IsS58.drew | apply IsS58.set_0 | apply IsS58.set_1 | apply IsS58.set_2 | apply IsS58.set_3 | apply IsS58.set_4) | exact HI463.out)); (case side2 => repeat (first | (with_reducible first | exact HB.out | apply below_alloc | apply pw_below_drewN | apply below_drew1 | refine below_set ?_ (IsS58.ge HI463.out)) | exact HB.out)); rintro e w10 ⟨rfl, hi, hb, hk⟩; refine ⟨_, rfl, ?_⟩; have n0_ := Aside0.mk (Kd.R_mono (Kd.R_keep (IsS58.apart (show IsS58 w _ g463 t465 t466 t467 t468 t469 from by repeat (first | (with_reducible first | exact HI463.out | apply IsS58.alloc | apply IsS58.drewN | apply IsS58.drew | apply IsS58.set_0 | apply IsS58.set_1 | apply IsS58.set_2 | apply IsS58.set_3 | apply IsS58.set_4) | exact HI463.out)) (by (with_reducible repeat (first | apply Kd.R_alloc | apply Kd.R_drewN | apply Kd.R_drew)); exact HO_7.out) (by decide)) hk (fun _ h => h.2)) (fun _ h => h.1)); have n1_ := Aside0.mk (hb); have n2_ := Aside0.mk (hi); clear HO_7; clear HB; clear HI463; have HO_7 := n0_; have HB := n1_; have HI463 := n2_; clear n0_ n1_ n2_; (try clear hb); (try clear hb2); (try clear hk); (try clear hi)))
        (try simp only [Act.put, List.setIfInBounds_toArray, List.set_cons_zero, List.set_cons_succ])
        go_cut [9] (fun v9 wc => ∃ (kq : Nat) (x9_7 : Int), v9 = .int .i64 x9_7 ∧ Aside0 (deckleref05_groups.j1 kq a1 x7_1 t470 x9_7 t471 t472 t473 t474 t475 = some (r1, r2)) ∧ Aside0 (kq ≤ k1) ∧ Aside0 (Kd.R (Kd.int .u8) 5 wc w.heap.size (fun k_ => g463 < k_) u7 x7_1) ∧ Aside0 (IsS58 w wc g463 t471 t472 t473 t474 t475) ∧ Aside0 (Below w.heap.size w wc))
        case first =>
          have H := HC8.out
          clear HC8
          by_cases c11 : (Int.tmod t470 2) = 1
          · rw [if_pos c11] at H
            have c11b0 : ((Int.tmod t470 2) == 1) = true := beq_iff_eq.mpr c11
            have c11b1 : ((Int.tmod t470 2) != 1) = false := bne_eq_false_iff_eq.mpr c11
            clear c11
            (first | rw [c11b0] | (simp only [i64_w, i32_w]; rw [c11b0]) | skip)
            have H' := Aside0.mk H
            clear H
            go_wp2
            go_meet
            case rel => exact ⟨_, (wrap64 ((wrap64 (Int.tdiv t470 2)) + 3)), (by first | rfl | (simp; done) | (simp [*]; done)), H', ⟨by have := HK1.out; first | omega | exact Nat.le_refl _⟩, ⟨by (with_reducible repeat (first | apply Kd.R_alloc | apply Kd.R_drewN | apply Kd.R_drew)); exact HO_7.out⟩, ⟨by repeat (first | (with_reducible first | exact HI463.out | apply IsS58.alloc | apply IsS58.drewN | apply IsS58.drew | apply IsS58.set_0 | apply IsS58.set_1 | apply IsS58.set_2 | apply IsS58.set_3 | apply IsS58.set_4) | exact HI463.out)⟩, ⟨by repeat (first | (with_reducible first | exact HB.out | apply below_alloc | apply pw_below_drewN | apply below_drew1 | refine below_set ?_ (IsS58.ge HI463.out)) | exact HB.out)⟩⟩
          · rw [if_neg c11] at H
            have c11b0 : ((Int.tmod t470 2) == 1) = false := beq_eq_false_iff_ne.mpr c11
            have c11b1 : ((Int.tmod t470 2) != 1) = true := bne_iff_ne.mpr c11
            (first | rw [c11b0] | (simp only [i64_w, i32_w]; rw [c11b0]) | skip)
            have H' := Aside0.mk H
            clear H
            go_wp2
            go_meet
            case rel => exact ⟨_, (wrap64 ((wrap64 (Int.tdiv t470 2)) + 1)), (by first | rfl | (simp; done) | (simp [*]; done)), H', ⟨by have := HK1.out; first | omega | exact Nat.le_refl _⟩, ⟨by (with_reducible repeat (first | apply Kd.R_alloc | apply Kd.R_drewN | apply Kd.R_drew)); exact HO_7.out⟩, ⟨by repeat (first | (with_reducible first | exact HI463.out | apply IsS58.alloc | apply IsS58.drewN | apply IsS58.drew | apply IsS58.set_0 | apply IsS58.set_1 | apply IsS58.set_2 | apply IsS58.set_3 | apply IsS58.set_4) | exact HI463.out)⟩, ⟨by repeat (first | (with_reducible first | exact HB.out | apply below_alloc | apply pw_below_drewN | apply below_drew1 | refine below_set ?_ (IsS58.ge HI463.out)) | exact HB.out)⟩⟩
        case rest =>
          clear HC8
          try clear c1
          try clear p2
          try clear c3
          try clear c6
          try clear c6b0
          try clear p6
          try clear c11
          try clear c11b0
          try clear c11b1
          try clear p2
          obtain ⟨kq, x9_7, rfl, HA, HJ7, HO_7, HI463, HB⟩ := hcut
          cases kq with
          | zero => exact absurd HA.out (by simp [deckleref05_groups.j1])
          | succ kj7 =>
            have H := HA.out
            clear HA
            simp only [deckleref05_groups.j1] at H
            by_cases c12 : x9_7 > (wrap64 (a1 - (x7_1.length : Int)))
            · rw [if_pos c12] at H
              have c12b0 : decide ((wrap64 (a1 - (x7_1.length : Int))) < x9_7) = true := decide_eq_true c12
              clear c12
              simp only [Option.some.injEq, Prod.mk.injEq] at H
              obtain ⟨rfl, rfl⟩ := H
              obtain ⟨Ao13, co13, eo13⟩ := Kd.R_slice HO_7.out
              subst eo13
              go_wp2
              go_ret2
              exact ⟨_, by first | rfl | (simp [errW_none, errW_some] <;> rfl) | (simp [*, errW_none, errW_some] <;> rfl), by first | exact Kd.R_nil _ _ _ _ _ | exact Kd.N_nil _ _ _ _ _ | exact Kd.V_nil _ _ _ _ _ | exact Kd.Q_nil _ _ _ _ _ | exact Kd.S_nil _ _ _ _ _, by repeat (first | (with_reducible first | exact HB.out | apply below_alloc | apply pw_below_drewN | apply below_drew1 | refine below_set ?_ (IsS58.ge HI463.out)) | exact HB.out)⟩
            · rw [if_neg c12] at H
              have c12b0 : decide ((wrap64 (a1 - (x7_1.length : Int))) < x9_7) = false := decide_eq_false c12
              clear c12
              by_cases c14 : (Int.tmod t470 2) = 0
              · rw [if_pos c14] at H
                have c14b0 : ((Int.tmod t470 2) == 0) = true := beq_iff_eq.mpr c14
                have c14b1 : ((Int.tmod t470 2) != 0) = false := bne_eq_false_iff_eq.mpr c14
                clear c14
                replace H := Option.bind_eq_some_iff.mp H
                obtain ⟨⟨t476, t479, t480, t481, t482, t483⟩, A150, H⟩ := H
                replace H : (if x7_1.length + t476.length < 140737488355328 then (if t481 = 0 then (deckleref05_groups.l0 kj7 a1 (x7_1 ++ t476) t479 t480 t481 t482 t483) else (some (([] : List Int), false))) else (none)) = some (r1, r2) := H
                have A15 := Aside0.mk A150
                clear A150
                by_cases c16 : x7_1.length + t476.length < 140737488355328
                · rw [if_pos c16] at H
                  have LMc16 := Aside0.mk c16
                  clear c16
                  obtain ⟨y484, hy484⟩ : ∃ y_ : List Int, y_ = (x7_1 ++ t476) := ⟨_, rfl⟩
                  replace H : (if t481 = 0 then (deckleref05_groups.l0 kj7 a1 y484 t479 t480 t481 t482 t483) else (some (([] : List Int), false))) = some (r1, r2) := by first | (rw [hy484]; with_reducible exact H) | (have H2_ := (Option.bind_some _ _).symm.trans H; rw [hy484]; with_reducible exact H2_) | (have H2_ := (Option.bind_some _ _).symm.trans H; with_reducible exact H2_) | with_reducible exact H | (rw [hy484]; exact H) | exact H
                  have Ny484 := Aside0.mk hy484
                  clear hy484
                  by_cases c17 : t481 = 0
                  · rw [if_pos c17] at H
                    have c17b0 : (t481 == 0) = true := beq_iff_eq.mpr c17
                    have c17b1 : (t481 != 0) = false := bne_eq_false_iff_eq.mpr c17
                    clear c17
                    have H' := Aside0.mk H
                    clear H
                    obtain ⟨Ao18, co18, eo18⟩ := Kd.R_slice HO_7.out
                    subst eo18
                    go_wp2_with (first | ((with_reducible refine gate_callee (f := 34) rfl ?_); refine goesL_ (some 40) rfl rfl Try.func34 (by kernel_rfl) rfl #[.pointer (some ⟨g463, 0, none⟩), .int .i64 x9_7] rfl (by (try simp only [List.map_toArray, List.map_cons, List.map_nil]); first | done | rfl | (simp only [List.length_drop, List.length_take]; rfl)) ?_; (with_reducible refine (deckleref04_Cursor_Take.calls g463 t471 t472 t473 t474 t475 x9_7 t476 t479 t480 t481 t482 t483 w _ ?side1 ?side2 A15.out).mono ?_); (case side1 => repeat (first | (with_reducible first | exact HI463.out | apply IsS58.alloc | apply IsS58.drewN | apply IsS58.drew | apply IsS58.set_0 | apply IsS58.set_1 | apply IsS58.set_2 | apply IsS58.set_3 | apply IsS58.set_4) | exact HI463.out)); (case side2 => repeat (first | (with_reducible first | exact HB.out | apply below_alloc | apply pw_below_drewN | apply below_drew1 | refine below_set ?_ (IsS58.ge HI463.out)) | exact HB.out)); rintro e w19 ⟨v477, rfl, ho0, hi, hb, hk⟩; refine ⟨_, rfl, ?_⟩; have n0_ := Aside0.mk (Kd.R_mono (Kd.R_told (Kd.R_oldK (IsS58.apart (show IsS58 w _ g463 t471 t472 t473 t474 t475 from by repeat (first | (with_reducible first | exact HI463.out | apply IsS58.alloc | apply IsS58.drewN | apply IsS58.drew | apply IsS58.set_0 | apply IsS58.set_1 | apply IsS58.set_2 | apply IsS58.set_3 | apply IsS58.set_4) | exact HI463.out)) (by (with_reducible repeat (first | apply Kd.R_alloc | apply Kd.R_drewN | apply Kd.R_drew)); exact HO_7.out) (by decide)) hk) (Kd.R_base ho0)) (fun _ h_ => h_.1)); have n1_ := Aside0.mk (Kd.R_lower (Kd.R_new' ho0 (Kd.R_lt (by (with_reducible repeat (first | apply Kd.R_alloc | apply Kd.R_drewN | apply Kd.R_drew)); exact HO_7.out))) (below_size (by repeat (first | (with_reducible first | exact HB.out | apply below_alloc | apply pw_below_drewN | apply below_drew1 | refine below_set ?_ (IsS58.ge HI463.out)) | exact HB.out)))); have n2_ := Aside0.mk (hb); have n3_ := Aside0.mk (hi); clear HO_7; clear HB; clear HI463; have HO_7 := n0_; have HO478 := n1_; have HB := n2_; have HI463 := n3_; clear n0_ n1_ n2_ n3_; (try clear hb); (try clear hb2); (try clear hk); (try clear hi); (try clear ho0); obtain ⟨Ao21, co21, eo21⟩ := Kd.R_slice HO478.out; subst eo21) | ((with_reducible refine gate_builtin (b := .append) (xs := #[.tmp 37, .tmp 40]) rfl ?_); at_builtin; refine Kd.R_append_rows (Kd.int .u8) (w0 := w) w.heap.size rfl (.tmp 37) (.tmp 40) 22 5 (.int .u8 0) 1 rfl Try.underlying22 info5 rfl (by decide) (by omega) (.slice Ao18 x7_1.length co18) x7_1 t476 _ _ _ (fun k_ => g463 < k_ ∧ some k_ ≠ (.slice Ao21 t476.length co21 : Value).ownBlock) (fun _ => False) rfl rfl ?aO ?aR (fun _ _ h => h) (fun _ h => h.elim) ?aF ?aB ?aS ?aL ?_; (case aR => repeat (first | exact (Kd.R_reads' HO478.out).2.2 | (with_reducible refine Kd.C_alloc ?_ _) | (with_reducible refine Kd.C_drewN ?_ _) | (with_reducible refine Kd.C_drew ?_))); (case aB => exact (by repeat (first | (with_reducible first | exact HB.out | apply below_alloc | apply pw_below_drewN | apply below_drew1 | refine below_set ?_ (IsS58.ge HI463.out)) | exact HB.out))); (case aF => exact (fun k_ hk => ⟨Nat.lt_of_lt_of_le (IsS58.lt (by repeat (first | (with_reducible first | exact HI463.out | apply IsS58.alloc | apply IsS58.drewN | apply IsS58.drew | apply IsS58.set_0 | apply IsS58.set_1 | apply IsS58.set_2 | apply IsS58.set_3 | apply IsS58.set_4) | exact HI463.out))) hk, Kd.fresh' (Kd.R_lt (by (with_reducible repeat (first | apply Kd.R_alloc | apply Kd.R_drewN | apply Kd.R_drew)); exact HO478.out)) k_ hk⟩)); (case aO => exact (by (with_reducible repeat (first | apply Kd.R_alloc | apply Kd.R_drewN | apply Kd.R_drew)); exact Kd.R_mono HO_7.out (fun _ hk => ⟨hk.1, hk.2⟩))); (case aS => exact (below_size (by repeat (first | (with_reducible first | exact HB.out | apply below_alloc | apply pw_below_drewN | apply below_drew1 | refine below_set ?_ (IsS58.ge HI463.out)) | exact HB.out)))); (case aL => have := LMc16.out; omega); intro v485 w20 ho hb hg hat; rw [← Ny484.out] at ho; have n0_ := Aside0.mk (IsS58.grown (by repeat (first | (with_reducible first | exact HI463.out | apply IsS58.alloc | apply IsS58.drewN | apply IsS58.drew | apply IsS58.set_0 | apply IsS58.set_1 | apply IsS58.set_2 | apply IsS58.set_3 | apply IsS58.set_4) | exact HI463.out)) hg (IsS58.own_ne HI463.out HO_7.out (by decide)) (fun k_ e_ => by have h_ := HO_7.out.1 k_ e_; first | exact .inl h_ | exact .inl h_.1)); have n1_ := Aside0.mk (Kd.R_after (ok := (fun _ => True)) (by (with_reducible repeat (first | apply Kd.R_alloc | apply Kd.R_drewN | apply Kd.R_drew)); exact HO478.out) hg hat); have n2_ := Aside0.mk (hb); have n3_ := Aside0.mk (ho); clear HI463; clear HO478; clear HB; clear HO_7; have HI463 := n0_; have HO478 := n1_; have HB := n2_; have HO486 := n3_; clear n0_ n1_ n2_ n3_; clear ho hb hg hat; obtain ⟨⟨A_, c_, HGz22, hcapz22, HRz22⟩, hgz22⟩ := HI463.out; have HCz22 := HRz22.1; have hcz22_0 := cellS58_0 HGz22; have hcz22_1 := cellS58_1 HGz22; have hcz22_2 := cellS58_2 HGz22; have hcz22_3 := cellS58_3 HGz22; have hcz22_4 := cellS58_4 HGz22; have hfz22_0 := blk_frozen HGz22 0; have hfz22_1 := blk_frozen HGz22 1; have hfz22_2 := blk_frozen HGz22 2; have hfz22_3 := blk_frozen HGz22 3; have hfz22_4 := blk_frozen HGz22 4; clear HGz22 hgz22))
                    go_roundg kj7
                    case measure => have := HK1.out; have := HJ7.out; omega
                    case rel => exact ⟨(y484), (t479), (t480), (t481), (t482), (t483), H', ⟨by have := HK1.out; have := HJ7.out; omega⟩, ⟨by (with_reducible repeat (first | apply Kd.R_alloc | apply Kd.R_drewN | apply Kd.R_drew)); exact Kd.R_mono HO486.out (fun _ hk => hk.1)⟩, ⟨by repeat (first | (with_reducible first | exact HI463.out | apply IsS58.alloc | apply IsS58.drewN | apply IsS58.drew | apply IsS58.set_0 | apply IsS58.set_1 | apply IsS58.set_2 | apply IsS58.set_3 | apply IsS58.set_4) | exact HI463.out)⟩, ⟨by repeat (first | (with_reducible first | exact HB.out | apply below_alloc | apply pw_below_drewN | apply below_drew1 | refine below_set ?_ (IsS58.ge HI463.out)) | exact HB.out)⟩⟩
                  · rw [if_neg c17] at H
                    have c17b0 : (t481 == 0) = false := beq_eq_false_iff_ne.mpr c17
                    have c17b1 : (t481 != 0) = true := bne_iff_ne.mpr c17
                    simp only [Option.some.injEq, Prod.mk.injEq] at H
                    obtain ⟨rfl, rfl⟩ := H
                    obtain ⟨Ao23, co23, eo23⟩ := Kd.R_slice HO_7.out
                    subst eo23
                    go_wp2_with (first | ((with_reducible refine gate_callee (f := 34) rfl ?_); refine goesL_ (some 40) rfl rfl Try.func34 (by kernel_rfl) rfl #[.pointer (some ⟨g463, 0, none⟩), .int .i64 x9_7] rfl (by (try simp only [List.map_toArray, List.map_cons, List.map_nil]); first | done | rfl | (simp only [List.length_drop, List.length_take]; rfl)) ?_; (with_reducible refine (deckleref04_Cursor_Take.calls g463 t471 t472 t473 t474 t475 x9_7 t476 t479 t480 t481 t482 t483 w _ ?side1 ?side2 A15.out).mono ?_); (case side1 => repeat (first | (with_reducible first | exact HI463.out | apply IsS58.alloc | apply IsS58.drewN | apply IsS58.drew | apply IsS58.set_0 | apply IsS58.set_1 | apply IsS58.set_2 | apply IsS58.set_3 | apply IsS58.set_4) | exact HI463.out)); (case side2 => repeat (first | (with_reducible first | exact HB.out | apply below_alloc | apply pw_below_drewN | apply below_drew1 | refine below_set ?_ (IsS58.ge HI463.out)) | exact HB.out)); rintro e w24 ⟨v477, rfl, ho0, hi, hb, hk⟩; refine ⟨_, rfl, ?_⟩; have n0_ := Aside0.mk (Kd.R_mono (Kd.R_told (Kd.R_oldK (IsS58.apart (show IsS58 w _ g463 t471 t472 t473 t474 t475 from by repeat (first | (with_reducible first | exact HI463.out | apply IsS58.alloc | apply IsS58.drewN | apply IsS58.drew | apply IsS58.set_0 | apply IsS58.set_1 | apply IsS58.set_2 | apply IsS58.set_3 | apply IsS58.set_4) | exact HI463.out)) (by (with_reducible repeat (first | apply Kd.R_alloc | apply Kd.R_drewN | apply Kd.R_drew)); exact HO_7.out) (by decide)) hk) (Kd.R_base ho0)) (fun _ h_ => h_.1)); have n1_ := Aside0.mk (Kd.R_lower (Kd.R_new' ho0 (Kd.R_lt (by (with_reducible repeat (first | apply Kd.R_alloc | apply Kd.R_drewN | apply Kd.R_drew)); exact HO_7.out))) (below_size (by repeat (first | (with_reducible first | exact HB.out | apply below_alloc | apply pw_below_drewN | apply below_drew1 | refine below_set ?_ (IsS58.ge HI463.out)) | exact HB.out)))); have n2_ := Aside0.mk (hb); have n3_ := Aside0.mk (hi); clear HO_7; clear HB; clear HI463; have HO_7 := n0_; have HO478 := n1_; have HB := n2_; have HI463 := n3_; clear n0_ n1_ n2_ n3_; (try clear hb); (try clear hb2); (try clear hk); (try clear hi); (try clear ho0); obtain ⟨Ao26, co26, eo26⟩ := Kd.R_slice HO478.out; subst eo26) | ((with_reducible refine gate_builtin (b := .append) (xs := #[.tmp 37, .tmp 40]) rfl ?_); at_builtin; refine Kd.R_append_rows (Kd.int .u8) (w0 := w) w.heap.size rfl (.tmp 37) (.tmp 40) 22 5 (.int .u8 0) 1 rfl Try.underlying22 info5 rfl (by decide) (by omega) (.slice Ao23 x7_1.length co23) x7_1 t476 _ _ _ (fun k_ => g463 < k_ ∧ some k_ ≠ (.slice Ao26 t476.length co26 : Value).ownBlock) (fun _ => False) rfl rfl ?aO ?aR (fun _ _ h => h) (fun _ h => h.elim) ?aF ?aB ?aS ?aL ?_; (case aR => repeat (first | exact (Kd.R_reads' HO478.out).2.2 | (with_reducible refine Kd.C_alloc ?_ _) | (with_reducible refine Kd.C_drewN ?_ _) | (with_reducible refine Kd.C_drew ?_))); (case aB => exact (by repeat (first | (with_reducible first | exact HB.out | apply below_alloc | apply pw_below_drewN | apply below_drew1 | refine below_set ?_ (IsS58.ge HI463.out)) | exact HB.out))); (case aF => exact (fun k_ hk => ⟨Nat.lt_of_lt_of_le (IsS58.lt (by repeat (first | (with_reducible first | exact HI463.out | apply IsS58.alloc | apply IsS58.drewN | apply IsS58.drew | apply IsS58.set_0 | apply IsS58.set_1 | apply IsS58.set_2 | apply IsS58.set_3 | apply IsS58.set_4) | exact HI463.out))) hk, Kd.fresh' (Kd.R_lt (by (with_reducible repeat (first | apply Kd.R_alloc | apply Kd.R_drewN | apply Kd.R_drew)); exact HO478.out)) k_ hk⟩)); (case aO => exact (by (with_reducible repeat (first | apply Kd.R_alloc | apply Kd.R_drewN | apply Kd.R_drew)); exact Kd.R_mono HO_7.out (fun _ hk => ⟨hk.1, hk.2⟩))); (case aS => exact (below_size (by repeat (first | (with_reducible first | exact HB.out | apply below_alloc | apply pw_below_drewN | apply below_drew1 | refine below_set ?_ (IsS58.ge HI463.out)) | exact HB.out)))); (case aL => have := LMc16.out; omega); intro v485 w25 ho hb hg hat; rw [← Ny484.out] at ho; have n0_ := Aside0.mk (IsS58.grown (by repeat (first | (with_reducible first | exact HI463.out | apply IsS58.alloc | apply IsS58.drewN | apply IsS58.drew | apply IsS58.set_0 | apply IsS58.set_1 | apply IsS58.set_2 | apply IsS58.set_3 | apply IsS58.set_4) | exact HI463.out)) hg (IsS58.own_ne HI463.out HO_7.out (by decide)) (fun k_ e_ => by have h_ := HO_7.out.1 k_ e_; first | exact .inl h_ | exact .inl h_.1)); have n1_ := Aside0.mk (Kd.R_after (ok := (fun _ => True)) (by (with_reducible repeat (first | apply Kd.R_alloc | apply Kd.R_drewN | apply Kd.R_drew)); exact HO478.out) hg hat); have n2_ := Aside0.mk (hb); have n3_ := Aside0.mk (ho); clear HI463; clear HO478; clear HB; clear HO_7; have HI463 := n0_; have HO478 := n1_; have HB := n2_; have HO486 := n3_; clear n0_ n1_ n2_ n3_; clear ho hb hg hat; obtain ⟨⟨A_, c_, HGz27, hcapz27, HRz27⟩, hgz27⟩ := HI463.out; have HCz27 := HRz27.1; have hcz27_0 := cellS58_0 HGz27; have hcz27_1 := cellS58_1 HGz27; have hcz27_2 := cellS58_2 HGz27; have hcz27_3 := cellS58_3 HGz27; have hcz27_4 := cellS58_4 HGz27; have hfz27_0 := blk_frozen HGz27 0; have hfz27_1 := blk_frozen HGz27 1; have hfz27_2 := blk_frozen HGz27 2; have hfz27_3 := blk_frozen HGz27 3; have hfz27_4 := blk_frozen HGz27 4; clear HGz27 hgz27))
                    go_ret2
                    exact ⟨_, by first | rfl | (simp [errW_none, errW_some] <;> rfl) | (simp [*, errW_none, errW_some] <;> rfl), by first | exact Kd.R_nil _ _ _ _ _ | exact Kd.N_nil _ _ _ _ _ | exact Kd.V_nil _ _ _ _ _ | exact Kd.Q_nil _ _ _ _ _ | exact Kd.S_nil _ _ _ _ _, by repeat (first | (with_reducible first | exact HB.out | apply below_alloc | apply pw_below_drewN | apply below_drew1 | refine below_set ?_ (IsS58.ge HI463.out)) | exact HB.out)⟩
                · rw [if_neg c16] at H
                  exact absurd H (by simp)
              · rw [if_neg c14] at H
                have c14b0 : ((Int.tmod t470 2) == 0) = false := beq_eq_false_iff_ne.mpr c14
                have c14b1 : ((Int.tmod t470 2) != 0) = true := bne_iff_ne.mpr c14
                replace H := Option.bind_eq_some_iff.mp H
                obtain ⟨⟨t487, t488, t489, t490, t491, t492⟩, A280, H⟩ := H
                replace H : (deckleref05_groups.l1 kj7 a1 x7_1 x9_7 t487 0 t488 t489 t490 t491 t492) = some (r1, r2) := H
                have A28 := Aside0.mk A280
                clear A280
                have H' := Aside0.mk H
                clear H
                obtain ⟨Ao29, co29, eo29⟩ := Kd.R_slice HO_7.out
                subst eo29
                go_wp2_with (first | ((with_reducible refine gate_callee (f := 35) rfl ?_); refine goesL_ (some 43) rfl rfl Try.func35 (by kernel_rfl) rfl #[.pointer (some ⟨g463, 0, none⟩)] rfl (by (try simp only [List.map_toArray, List.map_cons, List.map_nil]); first | done | rfl | (simp only [List.length_drop, List.length_take]; rfl)) ?_; (with_reducible refine (deckleref04_Cursor_Byte.calls g463 t471 t472 t473 t474 t475 t487 t488 t489 t490 t491 t492 w _ ?side1 ?side2 A28.out).mono ?_); (case side1 => repeat (first | (with_reducible first | exact HI463.out | apply IsS58.alloc | apply IsS58.drewN | apply IsS58.drew | apply IsS58.set_0 | apply IsS58.set_1 | apply IsS58.set_2 | apply IsS58.set_3 | apply IsS58.set_4) | exact HI463.out)); (case side2 => repeat (first | (with_reducible first | exact HB.out | apply below_alloc | apply pw_below_drewN | apply below_drew1 | refine below_set ?_ (IsS58.ge HI463.out)) | exact HB.out)); rintro e w30 ⟨rfl, hi, hb, hk⟩; refine ⟨_, rfl, ?_⟩; have n0_ := Aside0.mk (Kd.R_mono (Kd.R_keep (IsS58.apart (show IsS58 w _ g463 t471 t472 t473 t474 t475 from by repeat (first | (with_reducible first | exact HI463.out | apply IsS58.alloc | apply IsS58.drewN | apply IsS58.drew | apply IsS58.set_0 | apply IsS58.set_1 | apply IsS58.set_2 | apply IsS58.set_3 | apply IsS58.set_4) | exact HI463.out)) (by (with_reducible repeat (first | apply Kd.R_alloc | apply Kd.R_drewN | apply Kd.R_drew)); exact HO_7.out) (by decide)) hk (fun _ h => h.2)) (fun _ h => h.1)); have n1_ := Aside0.mk (hb); have n2_ := Aside0.mk (hi); clear HO_7; clear HB; clear HI463; have HO_7 := n0_; have HB := n1_; have HI463 := n2_; clear n0_ n1_ n2_; (try clear hb); (try clear hb2); (try clear hk); (try clear hi)))
                go_loopg [7, 11] kj7 (fun kq v7 v11 w' => ∃ (x7_3 : List Int) (x11_3 : Int), v11 = .int .i64 x11_3 ∧ Aside0 (deckleref05_groups.l1 kq a1 x7_3 x9_7 t487 x11_3 t488 t489 t490 t491 t492 = some (r1, r2)) ∧ Aside0 (kq ≤ kj7) ∧ Aside0 (Kd.R (Kd.int .u8) 5 w' w.heap.size (fun k_ => g463 < k_) v7 x7_3) ∧ Aside0 (IsS58 w w' g463 t488 t489 t490 t491 t492) ∧ Aside0 (Below w.heap.size w w'))
                case atStart => exact ⟨(x7_1), (0), (by first | rfl | (simp; done) | (simp [*]; done)), H', ⟨Nat.le_refl _⟩, ⟨by (with_reducible repeat (first | apply Kd.R_alloc | apply Kd.R_drewN | apply Kd.R_drew)); exact HO_7.out⟩, ⟨by repeat (first | (with_reducible first | exact HI463.out | apply IsS58.alloc | apply IsS58.drewN | apply IsS58.drew | apply IsS58.set_0 | apply IsS58.set_1 | apply IsS58.set_2 | apply IsS58.set_3 | apply IsS58.set_4) | exact HI463.out)⟩, ⟨by repeat (first | (with_reducible first | exact HB.out | apply below_alloc | apply pw_below_drewN | apply below_drew1 | refine below_set ?_ (IsS58.ge HI463.out)) | exact HB.out)⟩⟩
                case round =>
                  clear H'
                  try clear c1
                  try clear p2
                  try clear c3
                  try clear c6
                  try clear c6b0
                  try clear p6
                  try clear c11
                  try clear c11b0
                  try clear c11b1
                  try clear c12
                  try clear c12b0
                  try clear c14
                  try clear c14b0
                  try clear c14b1
                  try clear c16
                  try clear c17
                  try clear c17b0
                  try clear c17b1
                  try clear c19
                  try clear hcz22_0
                  try clear hcz22_1
                  try clear hcz22_2
                  try clear hcz22_3
                  try clear hcz22_4
                  try clear hcz27_0
                  try clear hcz27_1
                  try clear hcz27_2
                  try clear hcz27_3
                  try clear hcz27_4
                  try clear hfz22_0
                  try clear hfz22_1
                  try clear hfz22_2
                  try clear hfz22_3
                  try clear hfz22_4
                  try clear hfz27_0
                  try clear hfz27_1
                  try clear hfz27_2
                  try clear hfz27_3
                  try clear hfz27_4
                  try clear p2
                  try clear p6
                  obtain ⟨x7_3, x11_3, rfl, HA, HK3, HO_7, HI463, HB⟩ := hrel
                  cases gk with
                  | zero => exact absurd HA.out (by simp [deckleref05_groups.l1])
                  | succ k3 =>
                    have H := HA.out
                    clear HA
                    simp only [deckleref05_groups.l1] at H
                    by_cases c31 : x11_3 < x9_7
                    · rw [if_pos c31] at H
                      have c31b0 : decide (x11_3 < x9_7) = true := decide_eq_true c31
                      clear c31
                      by_cases c32 : x7_3.length < 140737488355328
                      · rw [if_pos c32] at H
                        have LMc32 := Aside0.mk c32
                        clear c32
                        obtain ⟨y493, hy493⟩ : ∃ y_ : List Int, y_ = (x7_3 ++ [t487]) := ⟨_, rfl⟩
                        replace H : (deckleref05_groups.l1 k3 a1 y493 x9_7 t487 (wrap64 (x11_3 + 1)) t488 t489 t490 t491 t492) = some (r1, r2) := by first | (rw [hy493]; with_reducible exact H) | (have H2_ := (Option.bind_some _ _).symm.trans H; rw [hy493]; with_reducible exact H2_) | (have H2_ := (Option.bind_some _ _).symm.trans H; with_reducible exact H2_) | with_reducible exact H | (rw [hy493]; exact H) | exact H
                        have Ny493 := Aside0.mk hy493
                        clear hy493
                        have H' := Aside0.mk H
                        clear H
                        go_wp2_with (first | ((with_reducible refine gate_builtin (b := .append) (xs := #[.tmp 49, .tmp 51]) rfl ?_); at_builtin; refine Kd.R_append (Kd.int .u8) (w0 := w) w.heap.size rfl (.tmp 49) (.tmp 51) 22 5 (.int .u8 0) 1 rfl Try.underlying22 info5 rfl (by decide) (by omega) u7 x7_3 t487 [.int .u8 t487] (fun k_ => g463 < k_) (fun _ => False) rfl rfl ?aP (fun _ hk => hk.elim) ?aF ?aO ?aB ?aS ?aL ?_; (case aP => exact rfl); (case aB => exact (by repeat (first | (with_reducible first | exact HB.out | apply below_alloc | apply pw_below_drewN | apply below_drew1 | refine below_set ?_ (IsS58.ge HI463.out)) | exact HB.out))); (case aF => exact (fun _ hk_ => Nat.lt_of_lt_of_le (IsS58.lt (by repeat (first | (with_reducible first | exact HI463.out | apply IsS58.alloc | apply IsS58.drewN | apply IsS58.drew | apply IsS58.set_0 | apply IsS58.set_1 | apply IsS58.set_2 | apply IsS58.set_3 | apply IsS58.set_4) | exact HI463.out))) hk_)); (case aO => exact (by (with_reducible repeat (first | apply Kd.R_alloc | apply Kd.R_drewN | apply Kd.R_drew)); exact HO_7.out)); (case aS => exact (below_size (by repeat (first | (with_reducible first | exact HB.out | apply below_alloc | apply pw_below_drewN | apply below_drew1 | refine below_set ?_ (IsS58.ge HI463.out)) | exact HB.out)))); (case aL => have := LMc32.out; omega); intro v494 w33 ho hb hg hat; rw [← Ny493.out] at ho; have n0_ := Aside0.mk (IsS58.grown (by repeat (first | (with_reducible first | exact HI463.out | apply IsS58.alloc | apply IsS58.drewN | apply IsS58.drew | apply IsS58.set_0 | apply IsS58.set_1 | apply IsS58.set_2 | apply IsS58.set_3 | apply IsS58.set_4) | exact HI463.out)) hg (IsS58.own_ne HI463.out HO_7.out (by decide)) (fun k_ e_ => by have h_ := HO_7.out.1 k_ e_; first | exact .inl h_ | exact .inl h_.1)); have n1_ := Aside0.mk (hb); have n2_ := Aside0.mk (ho); clear HI463; clear HB; clear HO_7; have HI463 := n0_; have HB := n1_; have HO495 := n2_; clear n0_ n1_ n2_; clear ho hb hg hat))
                        go_roundg k3
                        case measure => have := HK1.out; have := HJ7.out; have := HK3.out; omega
                        case rel => exact ⟨(y493), (wrap64 (x11_3 + 1)), (by first | rfl | (simp; done) | (simp [*]; done)), H', ⟨by have := HK1.out; have := HJ7.out; have := HK3.out; omega⟩, ⟨by (with_reducible repeat (first | apply Kd.R_alloc | apply Kd.R_drewN | apply Kd.R_drew)); exact HO495.out⟩, ⟨by repeat (first | (with_reducible first | exact HI463.out | apply IsS58.alloc | apply IsS58.drewN | apply IsS58.drew | apply IsS58.set_0 | apply IsS58.set_1 | apply IsS58.set_2 | apply IsS58.set_3 | apply IsS58.set_4) | exact HI463.out)⟩, ⟨by repeat (first | (with_reducible first | exact HB.out | apply below_alloc | apply pw_below_drewN | apply below_drew1 | refine below_set ?_ (IsS58.ge HI463.out)) | exact HB.out)⟩⟩
                      · rw [if_neg c32] at H
                        exact absurd H (by simp)
                    · rw [if_neg c31] at H
                      have c31b0 : decide (x11_3 < x9_7) = false := decide_eq_false c31
                      clear c31
                      by_cases c34 : t490 = 0
                      · rw [if_pos c34] at H
                        have c34b0 : (t490 == 0) = true := beq_iff_eq.mpr c34
                        have c34b1 : (t490 != 0) = false := bne_eq_false_iff_eq.mpr c34
                        clear c34
                        have H' := Aside0.mk H
                        clear H
                        obtain ⟨⟨A_, c_, HGz35, hcapz35, HRz35⟩, hgz35⟩ := HI463.out
                        have HCz35 := HRz35.1
                        have hcz35_0 := cellS58_0 HGz35
                        have hcz35_1 := cellS58_1 HGz35
                        have hcz35_2 := cellS58_2 HGz35
                        have hcz35_3 := cellS58_3 HGz35
                        have hcz35_4 := cellS58_4 HGz35
                        have hfz35_0 := blk_frozen HGz35 0
                        have hfz35_1 := blk_frozen HGz35 1
                        have hfz35_2 := blk_frozen HGz35 2
                        have hfz35_3 := blk_frozen HGz35 3
                        have hfz35_4 := blk_frozen HGz35 4
                        clear HGz35 hgz35
                        go_wp2
                        go_roundg k3
                        case measure => have := HK1.out; have := HJ7.out; have := HK3.out; omega
                        case rel => exact ⟨(x7_3), (t488), (t489), (t490), (t491), (t492), H', ⟨by have := HK1.out; have := HJ7.out; have := HK3.out; omega⟩, ⟨by (with_reducible repeat (first | apply Kd.R_alloc | apply Kd.R_drewN | apply Kd.R_drew)); exact HO_7.out⟩, ⟨by repeat (first | (with_reducible first | exact HI463.out | apply IsS58.alloc | apply IsS58.drewN | apply IsS58.drew | apply IsS58.set_0 | apply IsS58.set_1 | apply IsS58.set_2 | apply IsS58.set_3 | apply IsS58.set_4) | exact HI463.out)⟩, ⟨by repeat (first | (with_reducible first | exact HB.out | apply below_alloc | apply pw_below_drewN | apply below_drew1 | refine below_set ?_ (IsS58.ge HI463.out)) | exact HB.out)⟩⟩
                      · rw [if_neg c34] at H
                        have c34b0 : (t490 == 0) = false := beq_eq_false_iff_ne.mpr c34
                        have c34b1 : (t490 != 0) = true := bne_iff_ne.mpr c34
                        simp only [Option.some.injEq, Prod.mk.injEq] at H
                        obtain ⟨rfl, rfl⟩ := H
                        obtain ⟨⟨A_, c_, HGz36, hcapz36, HRz36⟩, hgz36⟩ := HI463.out
                        have HCz36 := HRz36.1
                        have hcz36_0 := cellS58_0 HGz36
                        have hcz36_1 := cellS58_1 HGz36
                        have hcz36_2 := cellS58_2 HGz36
                        have hcz36_3 := cellS58_3 HGz36
                        have hcz36_4 := cellS58_4 HGz36
                        have hfz36_0 := blk_frozen HGz36 0
                        have hfz36_1 := blk_frozen HGz36 1
                        have hfz36_2 := blk_frozen HGz36 2
                        have hfz36_3 := blk_frozen HGz36 3
                        have hfz36_4 := blk_frozen HGz36 4
                        clear HGz36 hgz36
                        go_wp2
                        go_ret2
                        exact ⟨_, by first | rfl | (simp [errW_none, errW_some] <;> rfl) | (simp [*, errW_none, errW_some] <;> rfl), by first | exact Kd.R_nil _ _ _ _ _ | exact Kd.N_nil _ _ _ _ _ | exact Kd.V_nil _ _ _ _ _ | exact Kd.Q_nil _ _ _ _ _ | exact Kd.S_nil _ _ _ _ _, by repeat (first | (with_reducible first | exact HB.out | apply below_alloc | apply pw_below_drewN | apply below_drew1 | refine below_set ?_ (IsS58.ge HI463.out)) | exact HB.out)⟩
      · rw [if_neg c6] at H
        have c6b0 : decide (0 < t464) = false := decide_eq_false c6
        clear c6
        simp only [Option.some.injEq, Prod.mk.injEq] at H
        obtain ⟨rfl, rfl⟩ := H
        go_wp2_with (first | ((with_reducible refine gate_callee (f := 32) rfl ?_); refine goesL_ (some 15) rfl rfl Try.func32 (by kernel_rfl) rfl #[.pointer (some ⟨g463, 0, none⟩)] rfl (by (try simp only [List.map_toArray, List.map_cons, List.map_nil]); first | done | rfl | (simp only [List.length_drop, List.length_take]; rfl)) ?_; (with_reducible refine (deckleref04_Cursor_Left.calls g463 x464000_1 x464001_1 x464002_1 x464003_1 x464004_1 t464 t465 t466 t467 t468 t469 w _ ?side1 ?side2 A5.out).mono ?_); (case side1 => repeat (first | (with_reducible first | exact HI463.out | apply IsS58.alloc | apply IsS58.drewN | apply IsS58.drew | apply IsS58.set_0 | apply IsS58.set_1 | apply IsS58.set_2 | apply IsS58.set_3 | apply IsS58.set_4) | exact HI463.out)); (case side2 => repeat (first | (with_reducible first | exact HB.out | apply below_alloc | apply pw_below_drewN | apply below_drew1 | refine below_set ?_ (IsS58.ge HI463.out)) | exact HB.out)); rintro e w37 ⟨rfl, hi, hb, hk⟩; refine ⟨_, rfl, ?_⟩; have n0_ := Aside0.mk (Kd.R_mono (Kd.R_keep (IsS58.apart (show IsS58 w _ g463 x464000_1 x464001_1 x464002_1 x464003_1 x464004_1 from by repeat (first | (with_reducible first | exact HI463.out | apply IsS58.alloc | apply IsS58.drewN | apply IsS58.drew | apply IsS58.set_0 | apply IsS58.set_1 | apply IsS58.set_2 | apply IsS58.set_3 | apply IsS58.set_4) | exact HI463.out)) (by (with_reducible repeat (first | apply Kd.R_alloc | apply Kd.R_drewN | apply Kd.R_drew)); exact HO_7.out) (by decide)) hk (fun _ h => h.2)) (fun _ h => h.1)); have n1_ := Aside0.mk (hb); have n2_ := Aside0.mk (hi); clear HO_7; clear HB; clear HI463; have HO_7 := n0_; have HB := n1_; have HI463 := n2_; clear n0_ n1_ n2_; (try clear hb); (try clear hb2); (try clear hk); (try clear hi)))
        go_ret2
        exact ⟨_, by first | rfl | (simp [errW_none, errW_some] <;> rfl) | (simp [*, errW_none, errW_some] <;> rfl), by (with_reducible repeat (first | apply Kd.R_alloc | apply Kd.R_drewN | apply Kd.R_drew)); exact Kd.R_mono HO_7.out (fun _ _ => trivial), by repeat (first | (with_reducible first | exact HB.out | apply below_alloc | apply pw_below_drewN | apply below_drew1 | refine below_set ?_ (IsS58.ge HI463.out)) | exact HB.out)⟩

end Go.Proofs.Ytcbalpchfcifeaa.HRunsTells
