-- Written by the session's program hy.py.
import Derived.Test.YtngpdacbmkfbcaaHShapeNextx0
import Derived.Test.YtngpdacbmkfbcaaHShapeNextx2
namespace Go.Proofs.Ytngpdacbmkfbcaa.HShapeNext
open Go.RowKit Go.Proofs.YtngpdacbmkfbcaaW.PrintWords Go.Proofs.YtngpdacbmkfbcaaW.PrintLast Go.Proofs.YtngpdacbmkfbcaaW.PrintMore
attribute [local go_sem] max2_int min2_int max_two min_two max_three min_three max_four min_four   -- for this text's walks alone
set_option linter.unusedVariables false
set_option linter.unusedSimpArgs false

/-! ### decklelaw09_ShapeNext: function 7 -/
mutual
def decklelaw09_ShapeNext.j0 : Nat → List Int → Int → Bool → Bool → Option (Bool)
  | 0, _, _, _, _ => none
  | k + 1, x0, x1, x5, x22 => if x22 = true then (some x5) else ((shape_Index.f k x0 x1).bind fun bt196 => ((shape_Index.f k x0 (wrap64 (x1 + 1))).bind fun bt200 => (if bt196.2 = true then (decklelaw09_ShapeNext.j1 k x0 x5 bt196.1 bt196.2 bt200.1 bt200.2 (!bt200.2)) else (decklelaw09_ShapeNext.j1 k x0 x5 bt196.1 bt196.2 bt200.1 bt200.2 true))))
def decklelaw09_ShapeNext.j1 : Nat → List Int → Bool → List Int → Bool → List Int → Bool → Bool → Option (Bool)
  | 0, _, _, _, _, _, _, _ => none
  | k + 1, x0, x5, x6, x7, x8, x9, x42 => if x42 = true then (if x5 = true then (if x7 = true then (some true) else (some (!x9))) else (none)) else (if (x6.length : Int) = (x0.length : Int) then (decklelaw09_ShapeNext.j2 k x0 x5 x6 x8 ((x8.length : Int) != (x0.length : Int))) else (decklelaw09_ShapeNext.j2 k x0 x5 x6 x8 true))
def decklelaw09_ShapeNext.j2 : Nat → List Int → Bool → List Int → List Int → Bool → Option (Bool)
  | 0, _, _, _, _, _ => none
  | k + 1, x0, x5, x6, x8, x62 => if x62 = true then (none) else (decklelaw09_ShapeNext.l0 k x0 x5 x6 x8 (wrap64 ((x0.length : Int) - 1)))
def decklelaw09_ShapeNext.l0 : Nat → List Int → Bool → List Int → List Int → Int → Option (Bool)
  | 0, _, _, _, _, _ => none
  | k + 1, x0, x5, x6, x8, x10 => if x10 ≥ 0 then (if 0 ≤ x10 then (if x10 < (x6.length : Int) then (if x10 < (x0.length : Int) then (decklelaw09_ShapeNext.j4 k x0 x5 x6 x8 x10 ((rd x6 x10) == (wrap64 ((rd x0 x10) - 1)))) else (none)) else (none)) else (none)) else (decklelaw09_ShapeNext.j4 k x0 x5 x6 x8 x10 false)
def decklelaw09_ShapeNext.j4 : Nat → List Int → Bool → List Int → List Int → Int → Bool → Option (Bool)
  | 0, _, _, _, _, _, _ => none
  | k + 1, x0, x5, x6, x8, x10, x79 => if x79 = true then (if 0 ≤ x10 then (if x10 < (x8.length : Int) then (if (rd x8 x10) = 0 then (decklelaw09_ShapeNext.l0 k x0 x5 x6 x8 (wrap64 (x10 - 1))) else (none)) else (none)) else (none)) else (if x5 = true then (if x10 ≥ 0 then (if 0 ≤ x10 then (if x10 < (x8.length : Int) then (if x10 < (x6.length : Int) then (if (rd x8 x10) = (wrap64 ((rd x6 x10) + 1)) then (if x10 ≤ (x6.length : Int) then (if x10 ≤ (x8.length : Int) then ((deckleref01_Same.f k (x6.take (x10 : Int).toNat) (x8.take (x10 : Int).toNat)).bind fun t217 => (some t217)) else (none)) else (none)) else (none)) else (none)) else (none)) else (none)) else (none)) else (none))
end
def decklelaw09_ShapeNext.f (k : Nat) (l0 : List Int) (a1 : Int) : Option (Bool) := (decklelaw09_small.f k).bind fun t195 => (if (l0.length : Int) > 50 then (decklelaw09_ShapeNext.j0 k l0 a1 t195 true) else (if a1 < 0 then (decklelaw09_ShapeNext.j0 k l0 a1 t195 true) else (decklelaw09_ShapeNext.j0 k l0 a1 t195 (decide (a1 > 1048576)))))
theorem decklelaw09_ShapeNext.mono_l : ∀ k, (∀ y0 y1 y2 y3, LeO (decklelaw09_ShapeNext.j0 k y0 y1 y2 y3) (decklelaw09_ShapeNext.j0 (k + 1) y0 y1 y2 y3)) ∧ (∀ y0 y1 y2 y3 y4 y5 y6, LeO (decklelaw09_ShapeNext.j1 k y0 y1 y2 y3 y4 y5 y6) (decklelaw09_ShapeNext.j1 (k + 1) y0 y1 y2 y3 y4 y5 y6)) ∧ (∀ y0 y1 y2 y3 y4, LeO (decklelaw09_ShapeNext.j2 k y0 y1 y2 y3 y4) (decklelaw09_ShapeNext.j2 (k + 1) y0 y1 y2 y3 y4)) ∧ (∀ y0 y1 y2 y3 y4, LeO (decklelaw09_ShapeNext.l0 k y0 y1 y2 y3 y4) (decklelaw09_ShapeNext.l0 (k + 1) y0 y1 y2 y3 y4)) ∧ (∀ y0 y1 y2 y3 y4 y5, LeO (decklelaw09_ShapeNext.j4 k y0 y1 y2 y3 y4 y5) (decklelaw09_ShapeNext.j4 (k + 1) y0 y1 y2 y3 y4 y5))
  | 0 => ⟨fun _ _ _ _ r h => by simp [decklelaw09_ShapeNext.j0] at h, fun _ _ _ _ _ _ _ r h => by simp [decklelaw09_ShapeNext.j1] at h, fun _ _ _ _ _ r h => by simp [decklelaw09_ShapeNext.j2] at h, fun _ _ _ _ _ r h => by simp [decklelaw09_ShapeNext.l0] at h, fun _ _ _ _ _ _ r h => by simp [decklelaw09_ShapeNext.j4] at h⟩
  | k + 1 => by
    obtain ⟨ih0, ih1, ih2, ih3, ih4⟩ := decklelaw09_ShapeNext.mono_l k
    refine ⟨?_, ?_, ?_, ?_, ?_⟩
    · intro y0 y1 y2 y3
      unfold decklelaw09_ShapeNext.j0
      repeat' first
      | (with_reducible exact ih0 _ _ _ _)
      | (with_reducible exact ih1 _ _ _ _ _ _ _)
      | (with_reducible exact ih2 _ _ _ _ _)
      | (with_reducible exact ih3 _ _ _ _ _)
      | (with_reducible exact ih4 _ _ _ _ _ _)
      | (with_reducible exact decklelaw09_small.mono _)
      | (with_reducible exact deckleref01_Same.mono _ _ _)
      | (with_reducible exact shape_Index.mono _ _ _)
      | (with_reducible exact LeO.refl _)
      | (with_reducible exact LeO.none _)
      | (with_reducible refine LeO.ite ?_ ?_)
      | (with_reducible refine LeO.bind ?_ (fun _ => ?_))
      | exact ih0 _ _ _ _
      | exact ih1 _ _ _ _ _ _ _
      | exact ih2 _ _ _ _ _
      | exact ih3 _ _ _ _ _
      | exact ih4 _ _ _ _ _ _
      | exact decklelaw09_small.mono _
      | exact deckleref01_Same.mono _ _ _
      | exact shape_Index.mono _ _ _
      | exact LeO.none _
      | refine LeO.ite ?_ ?_
      | refine LeO.bind ?_ (fun _ => ?_)
    · intro y0 y1 y2 y3 y4 y5 y6
      unfold decklelaw09_ShapeNext.j1
      repeat' first
      | (with_reducible exact ih0 _ _ _ _)
      | (with_reducible exact ih1 _ _ _ _ _ _ _)
      | (with_reducible exact ih2 _ _ _ _ _)
      | (with_reducible exact ih3 _ _ _ _ _)
      | (with_reducible exact ih4 _ _ _ _ _ _)
      | (with_reducible exact decklelaw09_small.mono _)
      | (with_reducible exact deckleref01_Same.mono _ _ _)
      | (with_reducible exact shape_Index.mono _ _ _)
      | (with_reducible exact LeO.refl _)
      | (with_reducible exact LeO.none _)
      | (with_reducible refine LeO.ite ?_ ?_)
      | (with_reducible refine LeO.bind ?_ (fun _ => ?_))
      | exact ih0 _ _ _ _
      | exact ih1 _ _ _ _ _ _ _
      | exact ih2 _ _ _ _ _
      | exact ih3 _ _ _ _ _
      | exact ih4 _ _ _ _ _ _
      | exact decklelaw09_small.mono _
      | exact deckleref01_Same.mono _ _ _
      | exact shape_Index.mono _ _ _
      | exact LeO.none _
      | refine LeO.ite ?_ ?_
      | refine LeO.bind ?_ (fun _ => ?_)
    · intro y0 y1 y2 y3 y4
      unfold decklelaw09_ShapeNext.j2
      repeat' first
      | (with_reducible exact ih0 _ _ _ _)
      | (with_reducible exact ih1 _ _ _ _ _ _ _)
      | (with_reducible exact ih2 _ _ _ _ _)
      | (with_reducible exact ih3 _ _ _ _ _)
      | (with_reducible exact ih4 _ _ _ _ _ _)
      | (with_reducible exact decklelaw09_small.mono _)
      | (with_reducible exact deckleref01_Same.mono _ _ _)
      | (with_reducible exact shape_Index.mono _ _ _)
      | (with_reducible exact LeO.refl _)
      | (with_reducible exact LeO.none _)
      | (with_reducible refine LeO.ite ?_ ?_)
      | (with_reducible refine LeO.bind ?_ (fun _ => ?_))
      | exact ih0 _ _ _ _
      | exact ih1 _ _ _ _ _ _ _
      | exact ih2 _ _ _ _ _
      | exact ih3 _ _ _ _ _
      | exact ih4 _ _ _ _ _ _
      | exact decklelaw09_small.mono _
      | exact deckleref01_Same.mono _ _ _
      | exact shape_Index.mono _ _ _
      | exact LeO.none _
      | refine LeO.ite ?_ ?_
      | refine LeO.bind ?_ (fun _ => ?_)
    · intro y0 y1 y2 y3 y4
      unfold decklelaw09_ShapeNext.l0
      repeat' first
      | (with_reducible exact ih0 _ _ _ _)
      | (with_reducible exact ih1 _ _ _ _ _ _ _)
      | (with_reducible exact ih2 _ _ _ _ _)
      | (with_reducible exact ih3 _ _ _ _ _)
      | (with_reducible exact ih4 _ _ _ _ _ _)
      | (with_reducible exact decklelaw09_small.mono _)
      | (with_reducible exact deckleref01_Same.mono _ _ _)
      | (with_reducible exact shape_Index.mono _ _ _)
      | (with_reducible exact LeO.refl _)
      | (with_reducible exact LeO.none _)
      | (with_reducible refine LeO.ite ?_ ?_)
      | (with_reducible refine LeO.bind ?_ (fun _ => ?_))
      | exact ih0 _ _ _ _
      | exact ih1 _ _ _ _ _ _ _
      | exact ih2 _ _ _ _ _
      | exact ih3 _ _ _ _ _
      | exact ih4 _ _ _ _ _ _
      | exact decklelaw09_small.mono _
      | exact deckleref01_Same.mono _ _ _
      | exact shape_Index.mono _ _ _
      | exact LeO.none _
      | refine LeO.ite ?_ ?_
      | refine LeO.bind ?_ (fun _ => ?_)
    · intro y0 y1 y2 y3 y4 y5
      unfold decklelaw09_ShapeNext.j4
      repeat' first
      | (with_reducible exact ih0 _ _ _ _)
      | (with_reducible exact ih1 _ _ _ _ _ _ _)
      | (with_reducible exact ih2 _ _ _ _ _)
      | (with_reducible exact ih3 _ _ _ _ _)
      | (with_reducible exact ih4 _ _ _ _ _ _)
      | (with_reducible exact decklelaw09_small.mono _)
      | (with_reducible exact deckleref01_Same.mono _ _ _)
      | (with_reducible exact shape_Index.mono _ _ _)
      | (with_reducible exact LeO.refl _)
      | (with_reducible exact LeO.none _)
      | (with_reducible refine LeO.ite ?_ ?_)
      | (with_reducible refine LeO.bind ?_ (fun _ => ?_))
      | exact ih0 _ _ _ _
      | exact ih1 _ _ _ _ _ _ _
      | exact ih2 _ _ _ _ _
      | exact ih3 _ _ _ _ _
      | exact ih4 _ _ _ _ _ _
      | exact decklelaw09_small.mono _
      | exact deckleref01_Same.mono _ _ _
      | exact shape_Index.mono _ _ _
      | exact LeO.none _
      | refine LeO.ite ?_ ?_
      | refine LeO.bind ?_ (fun _ => ?_)
theorem decklelaw09_ShapeNext.mono : ∀ a0 a1 k, LeO (decklelaw09_ShapeNext.f k a0 a1) (decklelaw09_ShapeNext.f (k + 1) a0 a1) := by
  intro a0 a1 k
  obtain ⟨ih0, ih1, ih2, ih3, ih4⟩ := decklelaw09_ShapeNext.mono_l k
  unfold decklelaw09_ShapeNext.f
  repeat' first
      | (with_reducible exact ih0 _ _ _ _)
      | (with_reducible exact ih1 _ _ _ _ _ _ _)
      | (with_reducible exact ih2 _ _ _ _ _)
      | (with_reducible exact ih3 _ _ _ _ _)
      | (with_reducible exact ih4 _ _ _ _ _ _)
      | (with_reducible exact decklelaw09_small.mono _)
      | (with_reducible exact deckleref01_Same.mono _ _ _)
      | (with_reducible exact shape_Index.mono _ _ _)
      | (with_reducible exact LeO.refl _)
      | (with_reducible exact LeO.none _)
      | (with_reducible refine LeO.ite ?_ ?_)
      | (with_reducible refine LeO.bind ?_ (fun _ => ?_))
      | exact ih0 _ _ _ _
      | exact ih1 _ _ _ _ _ _ _
      | exact ih2 _ _ _ _ _
      | exact ih3 _ _ _ _ _
      | exact ih4 _ _ _ _ _ _
      | exact decklelaw09_small.mono _
      | exact deckleref01_Same.mono _ _ _
      | exact shape_Index.mono _ _ _
      | exact LeO.none _
      | refine LeO.ite ?_ ?_
      | refine LeO.bind ?_ (fun _ => ?_)
set_option maxHeartbeats 8000000 in
set_option maxRecDepth 100000 in
theorem decklelaw09_ShapeNext.calls (k : Nat) (A0 : Option Addr) (c0 : Nat) (l0 : List Int) (a1 : Int) (r : Bool) (w : World) (hr0 : Kd.C (Kd.int .i64) w A0 l0.length l0) (hc0 : l0.length ≤ c0) (h : decklelaw09_ShapeNext.f k l0 a1 = some r) :
    Calls Try.prog 7 #[.slice A0 l0.length c0, .int .i64 a1] w fun e w' => e = .returned (.bool r) ∧ Below w.heap.size w w' := by
  have HR0 := Aside0.mk hr0
  have HC0 := Aside0.mk hc0
  clear hr0 hc0
  have HB := Aside0.mk (Below.refl w.heap.size w)
  have H : ((decklelaw09_small.f k).bind fun t195 => (if (l0.length : Int) > 50 then (decklelaw09_ShapeNext.j0 k l0 a1 t195 true) else (if a1 < 0 then (decklelaw09_ShapeNext.j0 k l0 a1 t195 true) else (decklelaw09_ShapeNext.j0 k l0 a1 t195 (decide (a1 > 1048576)))))) = some r := h
  clear h
  replace H := Option.bind_eq_some_iff.mp H
  obtain ⟨t195, A30, H⟩ := H
  replace H : (if (l0.length : Int) > 50 then (decklelaw09_ShapeNext.j0 k l0 a1 t195 true) else (if a1 < 0 then (decklelaw09_ShapeNext.j0 k l0 a1 t195 true) else (decklelaw09_ShapeNext.j0 k l0 a1 t195 (decide (a1 > 1048576))))) = some r := H
  have A3 := Aside0.mk A30
  clear A30
  have HC4 := Aside0.mk H
  clear H
  go_enter Try.func7, Try.ntmps7
  go_upto_region 2 with (first | (go_at_call 8; (with_reducible refine (decklelaw09_small.calls k  t195 _ A3.out).mono ?_); rintro e w5 ⟨rfl, hb⟩; have n0_ := Aside0.mk (below_step (by repeat (first | (with_reducible first | exact HB.out | apply below_alloc | apply pw_below_drewN | apply below_drew1) | exact HB.out)) hb); clear HB; have HB := n0_; clear n0_; (try clear hb); (try clear hb2); (try clear hk); (try clear hi)))
  repeat (go_quiet (first | (go_at_call 8; (with_reducible refine (decklelaw09_small.calls k  t195 _ A3.out).mono ?_); rintro e w5 ⟨rfl, hb⟩; have n0_ := Aside0.mk (below_step (by repeat (first | (with_reducible first | exact HB.out | apply below_alloc | apply pw_below_drewN | apply below_drew1) | exact HB.out)) hb); clear HB; have HB := n0_; clear n0_; (try clear hb); (try clear hb2); (try clear hk); (try clear hi))); go_upto_region 2 with (first | (go_at_call 8; (with_reducible refine (decklelaw09_small.calls k  t195 _ A3.out).mono ?_); rintro e w5 ⟨rfl, hb⟩; have n0_ := Aside0.mk (below_step (by repeat (first | (with_reducible first | exact HB.out | apply below_alloc | apply pw_below_drewN | apply below_drew1) | exact HB.out)) hb); clear HB; have HB := n0_; clear n0_; (try clear hb); (try clear hb2); (try clear hk); (try clear hi))))
  (try simp only [Act.put, List.setIfInBounds_toArray, List.set_cons_zero, List.set_cons_succ])
  go_cut [22] (fun v22 wc => ∃ (kq : Nat) (x22_3 : Bool), v22 = .bool x22_3 ∧ Aside0 (decklelaw09_ShapeNext.j0 kq l0 a1 t195 x22_3 = some r) ∧ Aside0 (kq ≤ k) ∧ Aside0 (Below w.heap.size w wc))
  case first =>
    have H := HC4.out
    clear HC4
    by_cases c6 : (l0.length : Int) > 50
    · rw [if_pos c6] at H
      have c6b0 : decide (50 < (l0.length : Int)) = true := decide_eq_true c6
      have c6b1 : decide (50 < l0.length) = true := decide_eq_true (by omega)
      clear c6
      (first | rw [c6b0] | (simp only [i64_w, i32_w]; rw [c6b0]) | skip)
      have H' := Aside0.mk H
      clear H
      go_wp2
      repeat (go_quiet (fail); try go_wp2)
      go_meet
      case rel => exact ⟨_, (true), (by first | rfl | (simp; done) | (simp [*]; done)), H', ⟨by first | omega | exact Nat.le_refl _⟩, ⟨by repeat (first | (with_reducible first | exact HB.out | apply below_alloc | apply pw_below_drewN | apply below_drew1) | exact HB.out)⟩⟩
    · rw [if_neg c6] at H
      have c6b0 : decide (50 < (l0.length : Int)) = false := decide_eq_false c6
      have c6b1 : decide (50 < l0.length) = false := decide_eq_false (by omega)
      clear c6
      (first | rw [c6b0] | (simp only [i64_w, i32_w]; rw [c6b0]) | skip)
      by_cases c7 : a1 < 0
      · rw [if_pos c7] at H
        have c7b0 : decide (a1 < 0) = true := decide_eq_true c7
        clear c7
        have H' := Aside0.mk H
        clear H
        go_wp2
        repeat (go_quiet (fail); try go_wp2)
        go_meet
        case rel => exact ⟨_, (true), (by first | rfl | (simp; done) | (simp [*]; done)), H', ⟨by first | omega | exact Nat.le_refl _⟩, ⟨by repeat (first | (with_reducible first | exact HB.out | apply below_alloc | apply pw_below_drewN | apply below_drew1) | exact HB.out)⟩⟩
      · rw [if_neg c7] at H
        have c7b0 : decide (a1 < 0) = false := decide_eq_false c7
        clear c7
        have H' := Aside0.mk H
        clear H
        go_wp2
        repeat (go_quiet (fail); try go_wp2)
        go_meet
        case rel => exact ⟨_, (decide (a1 > 1048576)), (by first | rfl | (simp; done) | (simp [*]; done)), H', ⟨by first | omega | exact Nat.le_refl _⟩, ⟨by repeat (first | (with_reducible first | exact HB.out | apply below_alloc | apply pw_below_drewN | apply below_drew1) | exact HB.out)⟩⟩
  case rest =>
    clear HC4
    try clear p2
    try clear c6
    try clear c6b0
    try clear c6b1
    try clear c7
    try clear c7b0
    obtain ⟨kq, x22_3, rfl, HA, HJ3, HB⟩ := hcut
    cases kq with
    | zero => exact absurd HA.out (by simp [decklelaw09_ShapeNext.j0])
    | succ kj3 =>
      have H := HA.out
      clear HA
      simp only [decklelaw09_ShapeNext.j0] at H
      by_cases c8 : x22_3 = true
      · subst c8
        have H1 : (some t195) = some r := by rw [if_pos rfl] at H; exact H
        clear H
        have H := H1
        clear H1
        obtain rfl := Option.some.inj H
        go_wp2
        repeat (go_quiet (fail); try go_wp2)
        go_ret
        exact ⟨by first | rfl | (simp [errW_none, errW_some] <;> rfl) | (simp [*, errW_none, errW_some] <;> rfl), by repeat (first | (with_reducible first | exact HB.out | apply below_alloc | apply pw_below_drewN | apply below_drew1) | exact HB.out)⟩
      · replace c8 := Bool.eq_false_iff.mpr c8
        subst c8
        have H1 : ((shape_Index.f kj3 l0 a1).bind fun bt196 => ((shape_Index.f kj3 l0 (wrap64 (a1 + 1))).bind fun bt200 => (if bt196.2 = true then (decklelaw09_ShapeNext.j1 kj3 l0 t195 bt196.1 bt196.2 bt200.1 bt200.2 (!bt200.2)) else (decklelaw09_ShapeNext.j1 kj3 l0 t195 bt196.1 bt196.2 bt200.1 bt200.2 true)))) = some r := by rw [if_neg (show ¬ (false = true) by decide)] at H; exact H
        clear H
        have H := H1
        clear H1
        replace H := Option.bind_eq_some_iff.mp H
        obtain ⟨⟨t196, t197⟩, A90, H⟩ := H
        replace H : ((shape_Index.f kj3 l0 (wrap64 (a1 + 1))).bind fun bt200 => (if t197 = true then (decklelaw09_ShapeNext.j1 kj3 l0 t195 t196 t197 bt200.1 bt200.2 (!bt200.2)) else (decklelaw09_ShapeNext.j1 kj3 l0 t195 t196 t197 bt200.1 bt200.2 true))) = some r := H
        have A9 := Aside0.mk A90
        clear A90
        replace H := Option.bind_eq_some_iff.mp H
        obtain ⟨⟨t200, t201⟩, A100, H⟩ := H
        replace H : (if t197 = true then (decklelaw09_ShapeNext.j1 kj3 l0 t195 t196 t197 t200 t201 (!t201)) else (decklelaw09_ShapeNext.j1 kj3 l0 t195 t196 t197 t200 t201 true)) = some r := H
        have A10 := Aside0.mk A100
        clear A100
        have HC11 := Aside0.mk H
        clear H
        go_upto_region 6 with (first | (go_at_call 13; (with_reducible refine (shape_Index.calls kj3 _ _ l0 a1 t196 t197 _ ?side1 ?side2 A9.out).mono ?_); (case side1 => repeat (first | exact (Kd.C_below HR0.out HB.out) | (with_reducible refine Kd.C_alloc ?_ _) | (with_reducible refine Kd.C_drewN ?_ _) | (with_reducible refine Kd.C_drew ?_))); (case side2 => exact HC0.out); rintro e w12 ⟨v198, rfl, ho0, hb⟩; have n0_ := Aside0.mk (Kd.R_lower ho0 (below_size (by repeat (first | (with_reducible first | exact HB.out | apply below_alloc | apply pw_below_drewN | apply below_drew1) | exact HB.out)))); have n1_ := Aside0.mk (below_step (by repeat (first | (with_reducible first | exact HB.out | apply below_alloc | apply pw_below_drewN | apply below_drew1) | exact HB.out)) hb); clear HB; have HO199 := n0_; have HB := n1_; clear n0_ n1_; (try clear hb); (try clear hb2); (try clear hk); (try clear hi); (try clear ho0)) | (go_at_call 13; (with_reducible refine (shape_Index.calls kj3 _ _ l0 (wrap64 (a1 + 1)) t200 t201 _ ?side1 ?side2 A10.out).mono ?_); (case side1 => repeat (first | exact (Kd.C_below HR0.out HB.out) | (with_reducible refine Kd.C_alloc ?_ _) | (with_reducible refine Kd.C_drewN ?_ _) | (with_reducible refine Kd.C_drew ?_))); (case side2 => exact HC0.out); rintro e w13 ⟨v202, rfl, ho0, hb⟩; have n0_ := Aside0.mk (Kd.R_elder' (by (with_reducible repeat (first | apply Kd.R_alloc | apply Kd.R_drewN | apply Kd.R_drew)); exact HO199.out) (Kd.R_base ho0) hb); have n1_ := Aside0.mk (Kd.R_lower (Kd.R_new' ho0 (Kd.R_lt (by (with_reducible repeat (first | apply Kd.R_alloc | apply Kd.R_drewN | apply Kd.R_drew)); exact HO199.out))) (below_size (by repeat (first | (with_reducible first | exact HB.out | apply below_alloc | apply pw_below_drewN | apply below_drew1) | exact HB.out)))); have n2_ := Aside0.mk (below_step (by repeat (first | (with_reducible first | exact HB.out | apply below_alloc | apply pw_below_drewN | apply below_drew1) | exact HB.out)) hb); clear HO199; clear HB; have HO199 := n0_; have HO203 := n1_; have HB := n2_; clear n0_ n1_ n2_; (try clear hb); (try clear hb2); (try clear hk); (try clear hi); (try clear ho0)))
        repeat (go_quiet (first | (go_at_call 13; (with_reducible refine (shape_Index.calls kj3 _ _ l0 a1 t196 t197 _ ?side1 ?side2 A9.out).mono ?_); (case side1 => repeat (first | exact (Kd.C_below HR0.out HB.out) | (with_reducible refine Kd.C_alloc ?_ _) | (with_reducible refine Kd.C_drewN ?_ _) | (with_reducible refine Kd.C_drew ?_))); (case side2 => exact HC0.out); rintro e w12 ⟨v198, rfl, ho0, hb⟩; have n0_ := Aside0.mk (Kd.R_lower ho0 (below_size (by repeat (first | (with_reducible first | exact HB.out | apply below_alloc | apply pw_below_drewN | apply below_drew1) | exact HB.out)))); have n1_ := Aside0.mk (below_step (by repeat (first | (with_reducible first | exact HB.out | apply below_alloc | apply pw_below_drewN | apply below_drew1) | exact HB.out)) hb); clear HB; have HO199 := n0_; have HB := n1_; clear n0_ n1_; (try clear hb); (try clear hb2); (try clear hk); (try clear hi); (try clear ho0)) | (go_at_call 13; (with_reducible refine (shape_Index.calls kj3 _ _ l0 (wrap64 (a1 + 1)) t200 t201 _ ?side1 ?side2 A10.out).mono ?_); (case side1 => repeat (first | exact (Kd.C_below HR0.out HB.out) | (with_reducible refine Kd.C_alloc ?_ _) | (with_reducible refine Kd.C_drewN ?_ _) | (with_reducible refine Kd.C_drew ?_))); (case side2 => exact HC0.out); rintro e w13 ⟨v202, rfl, ho0, hb⟩; have n0_ := Aside0.mk (Kd.R_elder' (by (with_reducible repeat (first | apply Kd.R_alloc | apply Kd.R_drewN | apply Kd.R_drew)); exact HO199.out) (Kd.R_base ho0) hb); have n1_ := Aside0.mk (Kd.R_lower (Kd.R_new' ho0 (Kd.R_lt (by (with_reducible repeat (first | apply Kd.R_alloc | apply Kd.R_drewN | apply Kd.R_drew)); exact HO199.out))) (below_size (by repeat (first | (with_reducible first | exact HB.out | apply below_alloc | apply pw_below_drewN | apply below_drew1) | exact HB.out)))); have n2_ := Aside0.mk (below_step (by repeat (first | (with_reducible first | exact HB.out | apply below_alloc | apply pw_below_drewN | apply below_drew1) | exact HB.out)) hb); clear HO199; clear HB; have HO199 := n0_; have HO203 := n1_; have HB := n2_; clear n0_ n1_ n2_; (try clear hb); (try clear hb2); (try clear hk); (try clear hi); (try clear ho0))); go_upto_region 6 with (first | (go_at_call 13; (with_reducible refine (shape_Index.calls kj3 _ _ l0 a1 t196 t197 _ ?side1 ?side2 A9.out).mono ?_); (case side1 => repeat (first | exact (Kd.C_below HR0.out HB.out) | (with_reducible refine Kd.C_alloc ?_ _) | (with_reducible refine Kd.C_drewN ?_ _) | (with_reducible refine Kd.C_drew ?_))); (case side2 => exact HC0.out); rintro e w12 ⟨v198, rfl, ho0, hb⟩; have n0_ := Aside0.mk (Kd.R_lower ho0 (below_size (by repeat (first | (with_reducible first | exact HB.out | apply below_alloc | apply pw_below_drewN | apply below_drew1) | exact HB.out)))); have n1_ := Aside0.mk (below_step (by repeat (first | (with_reducible first | exact HB.out | apply below_alloc | apply pw_below_drewN | apply below_drew1) | exact HB.out)) hb); clear HB; have HO199 := n0_; have HB := n1_; clear n0_ n1_; (try clear hb); (try clear hb2); (try clear hk); (try clear hi); (try clear ho0)) | (go_at_call 13; (with_reducible refine (shape_Index.calls kj3 _ _ l0 (wrap64 (a1 + 1)) t200 t201 _ ?side1 ?side2 A10.out).mono ?_); (case side1 => repeat (first | exact (Kd.C_below HR0.out HB.out) | (with_reducible refine Kd.C_alloc ?_ _) | (with_reducible refine Kd.C_drewN ?_ _) | (with_reducible refine Kd.C_drew ?_))); (case side2 => exact HC0.out); rintro e w13 ⟨v202, rfl, ho0, hb⟩; have n0_ := Aside0.mk (Kd.R_elder' (by (with_reducible repeat (first | apply Kd.R_alloc | apply Kd.R_drewN | apply Kd.R_drew)); exact HO199.out) (Kd.R_base ho0) hb); have n1_ := Aside0.mk (Kd.R_lower (Kd.R_new' ho0 (Kd.R_lt (by (with_reducible repeat (first | apply Kd.R_alloc | apply Kd.R_drewN | apply Kd.R_drew)); exact HO199.out))) (below_size (by repeat (first | (with_reducible first | exact HB.out | apply below_alloc | apply pw_below_drewN | apply below_drew1) | exact HB.out)))); have n2_ := Aside0.mk (below_step (by repeat (first | (with_reducible first | exact HB.out | apply below_alloc | apply pw_below_drewN | apply below_drew1) | exact HB.out)) hb); clear HO199; clear HB; have HO199 := n0_; have HO203 := n1_; have HB := n2_; clear n0_ n1_ n2_; (try clear hb); (try clear hb2); (try clear hk); (try clear hi); (try clear ho0))))
        (try simp only [Act.put, List.setIfInBounds_toArray, List.set_cons_zero, List.set_cons_succ])
        go_cut [42] (fun v42 wc => ∃ (kq : Nat) (x42_10 : Bool), v42 = .bool x42_10 ∧ Aside0 (decklelaw09_ShapeNext.j1 kq l0 t195 t196 t197 t200 t201 x42_10 = some r) ∧ Aside0 (kq ≤ kj3) ∧ Aside0 (Kd.R (Kd.int .i64) 3 wc w.heap.size (fun k_ => some k_ ≠ (v202 : Value).ownBlock) v198 t196) ∧ Aside0 (Kd.R (Kd.int .i64) 3 wc w.heap.size (fun k_ => some k_ ≠ (v198 : Value).ownBlock) v202 t200) ∧ Aside0 (Below w.heap.size w wc))
        case first =>
          have H := HC11.out
          clear HC11
          by_cases c14 : t197 = true
          · subst c14
            have H1 : (decklelaw09_ShapeNext.j1 kj3 l0 t195 t196 true t200 t201 (!t201)) = some r := by rw [if_pos rfl] at H; exact H
            clear H
            have H := H1
            clear H1
            have H' := Aside0.mk H
            clear H
            go_wp2
            repeat (go_quiet (fail); try go_wp2)
            go_meet
            case rel => exact ⟨_, (!t201), (by first | rfl | (simp; done) | (simp [*]; done)), H', ⟨by have := HJ3.out; first | omega | exact Nat.le_refl _⟩, ⟨by (with_reducible repeat (first | apply Kd.R_alloc | apply Kd.R_drewN | apply Kd.R_drew)); exact Kd.R_mono HO199.out (fun _ hk => hk.2)⟩, ⟨by (with_reducible repeat (first | apply Kd.R_alloc | apply Kd.R_drewN | apply Kd.R_drew)); exact Kd.R_mono HO203.out (fun _ hk => hk.2)⟩, ⟨by repeat (first | (with_reducible first | exact HB.out | apply below_alloc | apply pw_below_drewN | apply below_drew1) | exact HB.out)⟩⟩
          · replace c14 := Bool.eq_false_iff.mpr c14
            subst c14
            have H1 : (decklelaw09_ShapeNext.j1 kj3 l0 t195 t196 false t200 t201 true) = some r := by rw [if_neg (show ¬ (false = true) by decide)] at H; exact H
            clear H
            have H := H1
            clear H1
            have H' := Aside0.mk H
            clear H
            go_wp2
            repeat (go_quiet (fail); try go_wp2)
            go_meet
            case rel => exact ⟨_, (true), (by first | rfl | (simp; done) | (simp [*]; done)), H', ⟨by have := HJ3.out; first | omega | exact Nat.le_refl _⟩, ⟨by (with_reducible repeat (first | apply Kd.R_alloc | apply Kd.R_drewN | apply Kd.R_drew)); exact Kd.R_mono HO199.out (fun _ hk => hk.2)⟩, ⟨by (with_reducible repeat (first | apply Kd.R_alloc | apply Kd.R_drewN | apply Kd.R_drew)); exact Kd.R_mono HO203.out (fun _ hk => hk.2)⟩, ⟨by repeat (first | (with_reducible first | exact HB.out | apply below_alloc | apply pw_below_drewN | apply below_drew1) | exact HB.out)⟩⟩
        case rest =>
          clear HC11
          try clear c1
          try clear p2
          try clear c6
          try clear c6b0
          try clear c6b1
          try clear p6
          try clear c7
          try clear c7b0
          try clear c8
          try clear c14
          try clear p2
          obtain ⟨kq, x42_10, rfl, HA, HJ10, HO_6, HO_8, HB⟩ := hcut
          cases kq with
          | zero => exact absurd HA.out (by simp [decklelaw09_ShapeNext.j1])
          | succ kj10 =>
            have H := HA.out
            clear HA
            simp only [decklelaw09_ShapeNext.j1] at H
            by_cases c15 : x42_10 = true
            · subst c15
              have H1 : (if t195 = true then (if t197 = true then (some true) else (some (!t201))) else (none)) = some r := by rw [if_pos rfl] at H; exact H
              clear H
              have H := H1
              clear H1
              by_cases c16 : t195 = true
              · subst c16
                have H1 : (if t197 = true then (some true) else (some (!t201))) = some r := by rw [if_pos rfl] at H; exact H
                clear H
                have H := H1
                clear H1
                by_cases c17 : t197 = true
                · subst c17
                  have H1 : (some true) = some r := by rw [if_pos rfl] at H; exact H
                  clear H
                  have H := H1
                  clear H1
                  obtain rfl := Option.some.inj H
                  go_wp2
                  repeat (go_quiet (fail); try go_wp2)
                  go_ret
                  exact ⟨by first | rfl | (simp [errW_none, errW_some] <;> rfl) | (simp [*, errW_none, errW_some] <;> rfl), by repeat (first | (with_reducible first | exact HB.out | apply below_alloc | apply pw_below_drewN | apply below_drew1) | exact HB.out)⟩
                · replace c17 := Bool.eq_false_iff.mpr c17
                  subst c17
                  have H1 : (some (!t201)) = some r := by rw [if_neg (show ¬ (false = true) by decide)] at H; exact H
                  clear H
                  have H := H1
                  clear H1
                  obtain rfl := Option.some.inj H
                  go_wp2
                  repeat (go_quiet (fail); try go_wp2)
                  go_ret
                  exact ⟨by first | rfl | (simp [errW_none, errW_some] <;> rfl) | (simp [*, errW_none, errW_some] <;> rfl), by repeat (first | (with_reducible first | exact HB.out | apply below_alloc | apply pw_below_drewN | apply below_drew1) | exact HB.out)⟩
              · replace c16 := Bool.eq_false_iff.mpr c16
                subst c16
                have H1 : (none) = some r := by rw [if_neg (show ¬ (false = true) by decide)] at H; exact H
                clear H
                have H := H1
                clear H1
                exact absurd H (by simp)
            · replace c15 := Bool.eq_false_iff.mpr c15
              subst c15
              have H1 : (if (t196.length : Int) = (l0.length : Int) then (decklelaw09_ShapeNext.j2 kj10 l0 t195 t196 t200 ((t200.length : Int) != (l0.length : Int))) else (decklelaw09_ShapeNext.j2 kj10 l0 t195 t196 t200 true)) = some r := by rw [if_neg (show ¬ (false = true) by decide)] at H; exact H
              clear H
              have H := H1
              clear H1
              have HC18 := Aside0.mk H
              clear H
              go_upto_region 8 with (fail)
              repeat (go_quiet (fail); go_upto_region 8 with (fail))
              go_cut [62] (fun v62 wc => ∃ (kq : Nat) (x62_17 : Bool), v62 = .bool x62_17 ∧ Aside0 (decklelaw09_ShapeNext.j2 kq l0 t195 t196 t200 x62_17 = some r) ∧ Aside0 (kq ≤ kj10) ∧ Aside0 (Kd.R (Kd.int .i64) 3 wc w.heap.size (fun k_ => some k_ ≠ (v202 : Value).ownBlock) v198 t196) ∧ Aside0 (Kd.R (Kd.int .i64) 3 wc w.heap.size (fun k_ => some k_ ≠ (v198 : Value).ownBlock) v202 t200) ∧ Aside0 (Below w.heap.size w wc))
              case first =>
                have H := HC18.out
                clear HC18
                by_cases c19 : (t196.length : Int) = (l0.length : Int)
                · rw [if_pos c19] at H
                  have c19b0 : ((t196.length : Int) == (l0.length : Int)) = true := beq_iff_eq.mpr c19
                  have c19b1 : ((t196.length : Int) != (l0.length : Int)) = false := bne_eq_false_iff_eq.mpr c19
                  have c19b2 : (t196.length == l0.length) = true := by first | simpa using c19 | (simp at c19 ⊢; omega)
                  clear c19
                  (first | rw [c19b0] | (simp only [i64_w, i32_w]; rw [c19b0]) | skip)
                  have H' := Aside0.mk H
                  clear H
                  obtain ⟨Ao20, co20, eo20⟩ := Kd.R_slice HO_6.out
                  subst eo20
                  obtain ⟨Ao21, co21, eo21⟩ := Kd.R_slice HO_8.out
                  subst eo21
                  go_wp2
                  repeat (go_quiet (fail); try go_wp2)
                  go_meet
                  case rel => exact ⟨_, (((t200.length : Int) != (l0.length : Int))), (by first | rfl | (simp; done) | (simp [*]; done)), H', ⟨by have := HJ3.out; have := HJ10.out; first | omega | exact Nat.le_refl _⟩, ⟨by (with_reducible repeat (first | apply Kd.R_alloc | apply Kd.R_drewN | apply Kd.R_drew)); exact HO_6.out⟩, ⟨by (with_reducible repeat (first | apply Kd.R_alloc | apply Kd.R_drewN | apply Kd.R_drew)); exact HO_8.out⟩, ⟨by repeat (first | (with_reducible first | exact HB.out | apply below_alloc | apply pw_below_drewN | apply below_drew1) | exact HB.out)⟩⟩
                · rw [if_neg c19] at H
                  have c19b0 : ((t196.length : Int) == (l0.length : Int)) = false := beq_eq_false_iff_ne.mpr c19
                  have c19b1 : ((t196.length : Int) != (l0.length : Int)) = true := bne_iff_ne.mpr c19
                  have c19b2 : (t196.length == l0.length) = false := by first | simpa using c19 | (simp at c19 ⊢; omega)
                  (first | rw [c19b0] | (simp only [i64_w, i32_w]; rw [c19b0]) | skip)
                  have H' := Aside0.mk H
                  clear H
                  obtain ⟨Ao22, co22, eo22⟩ := Kd.R_slice HO_6.out
                  subst eo22
                  go_wp2
                  repeat (go_quiet (fail); try go_wp2)
                  go_meet
                  case rel => exact ⟨_, (true), (by first | rfl | (simp; done) | (simp [*]; done)), H', ⟨by have := HJ3.out; have := HJ10.out; first | omega | exact Nat.le_refl _⟩, ⟨by (with_reducible repeat (first | apply Kd.R_alloc | apply Kd.R_drewN | apply Kd.R_drew)); exact HO_6.out⟩, ⟨by (with_reducible repeat (first | apply Kd.R_alloc | apply Kd.R_drewN | apply Kd.R_drew)); exact HO_8.out⟩, ⟨by repeat (first | (with_reducible first | exact HB.out | apply below_alloc | apply pw_below_drewN | apply below_drew1) | exact HB.out)⟩⟩
              case rest =>
                clear HC18
                try clear c1
                try clear p2
                try clear c6
                try clear c6b0
                try clear c6b1
                try clear p6
                try clear c7
                try clear c7b0
                try clear c8
                try clear c14
                try clear c15
                try clear c16
                try clear c17
                try clear c19
                try clear c19b0
                try clear c19b1
                try clear c19b2
                try clear p2
                try clear p6
                obtain ⟨kq, x62_17, rfl, HA, HJ17, HO_6, HO_8, HB⟩ := hcut
                cases kq with
                | zero => exact absurd HA.out (by simp [decklelaw09_ShapeNext.j2])
                | succ kj17 =>
                  have H := HA.out
                  clear HA
                  simp only [decklelaw09_ShapeNext.j2] at H
                  by_cases c23 : x62_17 = true
                  · subst c23
                    have H1 : (none) = some r := by rw [if_pos rfl] at H; exact H
                    clear H
                    have H := H1
                    clear H1
                    exact absurd H (by simp)
                  · replace c23 := Bool.eq_false_iff.mpr c23
                    subst c23
                    have H1 : (decklelaw09_ShapeNext.l0 kj17 l0 t195 t196 t200 (wrap64 ((l0.length : Int) - 1))) = some r := by rw [if_neg (show ¬ (false = true) by decide)] at H; exact H
                    clear H
                    have H := H1
                    clear H1
                    have H' := Aside0.mk H
                    clear H
                    go_wp2
                    repeat (go_quiet (fail); try go_wp2)
                    go_loopg [10] kj17 (fun kq v10 w' => ∃ (x10_4 : Int), v10 = .int .i64 x10_4 ∧ Aside0 (decklelaw09_ShapeNext.l0 kq l0 t195 t196 t200 x10_4 = some r) ∧ Aside0 (kq ≤ kj17) ∧ Aside0 (Kd.R (Kd.int .i64) 3 w' w.heap.size (fun k_ => some k_ ≠ (v202 : Value).ownBlock) v198 t196) ∧ Aside0 (Kd.R (Kd.int .i64) 3 w' w.heap.size (fun k_ => some k_ ≠ (v198 : Value).ownBlock) v202 t200) ∧ Aside0 (Below w.heap.size w w'))
                    case atStart => exact ⟨(wrap64 ((l0.length : Int) - 1)), (by first | rfl | (simp; done) | (simp [*]; done)), H', ⟨Nat.le_refl _⟩, ⟨by (with_reducible repeat (first | apply Kd.R_alloc | apply Kd.R_drewN | apply Kd.R_drew)); exact HO_6.out⟩, ⟨by (with_reducible repeat (first | apply Kd.R_alloc | apply Kd.R_drewN | apply Kd.R_drew)); exact HO_8.out⟩, ⟨by repeat (first | (with_reducible first | exact HB.out | apply below_alloc | apply pw_below_drewN | apply below_drew1) | exact HB.out)⟩⟩
                    case round =>
                      clear H'
                      try clear c1
                      try clear c2
                      try clear p2
                      try clear c6
                      try clear c6b0
                      try clear c6b1
                      try clear p6
                      try clear c7
                      try clear c7b0
                      try clear c8
                      try clear c14
                      try clear c15
                      try clear c16
                      try clear c17
                      try clear c19
                      try clear c19b0
                      try clear c19b1
                      try clear c19b2
                      try clear c23
                      try clear p2
                      try clear p6
                      obtain ⟨x10_4, rfl, HA, HK4, HO_6, HO_8, HB⟩ := hrel
                      cases gk with
                      | zero => exact absurd HA.out (by simp [decklelaw09_ShapeNext.l0])
                      | succ k4 =>
                        have H := HA.out
                        clear HA
                        simp only [decklelaw09_ShapeNext.l0] at H
                        have HC24 := Aside0.mk H
                        clear H
                        go_upto_region 11 with (fail)
                        repeat (go_quiet (fail); go_upto_region 11 with (fail))
                        go_cut [79] (fun v79 wc => ∃ (kq : Nat) (x79_23 : Bool), v79 = .bool x79_23 ∧ Aside0 (decklelaw09_ShapeNext.j4 kq l0 t195 t196 t200 x10_4 x79_23 = some r) ∧ Aside0 (kq ≤ k4) ∧ Aside0 (Kd.R (Kd.int .i64) 3 wc w.heap.size (fun k_ => some k_ ≠ (v202 : Value).ownBlock) v198 t196) ∧ Aside0 (Kd.R (Kd.int .i64) 3 wc w.heap.size (fun k_ => some k_ ≠ (v198 : Value).ownBlock) v202 t200) ∧ Aside0 (Below w.heap.size w wc))
                        case first =>
                          have H := HC24.out
                          clear HC24
                          by_cases c25 : x10_4 ≥ 0
                          · rw [if_pos c25] at H
                            have c25b0 : decide (0 ≤ x10_4) = true := decide_eq_true c25
                            clear c25
                            (first | rw [c25b0] | (simp only [i64_w, i32_w]; rw [c25b0]) | skip)
                            by_cases c26 : 0 ≤ x10_4
                            · rw [if_pos c26] at H
                              have c26b0 : decide (0 ≤ x10_4) = true := decide_eq_true c26
                              clear c26
                              by_cases c27 : x10_4 < (t196.length : Int)
                              · rw [if_pos c27] at H
                                have c27b0 : decide (x10_4 < (t196.length : Int)) = true := decide_eq_true c27
                                clear c27
                                by_cases c28 : x10_4 < (l0.length : Int)
                                · rw [if_pos c28] at H
                                  have c28b0 : decide (x10_4 < (l0.length : Int)) = true := decide_eq_true c28
                                  clear c28
                                  have H' := Aside0.mk H
                                  clear H
                                  obtain ⟨Ao29, co29, eo29⟩ := Kd.R_slice HO_6.out
                                  subst eo29
                                  have p204 : 0 ≤ (x10_4 : Int) := of_decide_eq_true (by first | (with_reducible assumption) | assumption)
                                  have q204 : x10_4 < (t196.length : Int) := of_decide_eq_true (by first | (with_reducible assumption) | assumption)
                                  obtain ⟨ad204, e204, hx204_0⟩ := Kd.at_int (Kd.R_reads' HO_6.out).2.2 x10_4 p204 q204
                                  cases e204
                                  replace p204 := eq_true p204
                                  replace q204 := eq_true q204
                                  have p205 : 0 ≤ (x10_4 : Int) := of_decide_eq_true (by first | (with_reducible assumption) | assumption)
                                  have q205 : x10_4 < (l0.length : Int) := of_decide_eq_true (by first | (with_reducible assumption) | assumption)
                                  obtain ⟨ad205, e205, hx205_0⟩ := Kd.at_int HR0.out x10_4 p205 q205
                                  cases e205
                                  replace hx205_0 := (HB.out.cell (World.block_lt_of_cell? w _ hx205_0)).trans hx205_0
                                  replace p205 := eq_true p205
                                  replace q205 := eq_true q205
                                  go_wp2
                                  repeat (go_quiet (fail); try go_wp2)
                                  go_meet
                                  case rel => exact ⟨_, (((rd t196 x10_4) == (wrap64 ((rd l0 x10_4) - 1)))), (by first | rfl | (simp; done) | (simp [*]; done)), H', ⟨by have := HJ3.out; have := HJ10.out; have := HJ17.out; have := HK4.out; first | omega | exact Nat.le_refl _⟩, ⟨by (with_reducible repeat (first | apply Kd.R_alloc | apply Kd.R_drewN | apply Kd.R_drew)); exact HO_6.out⟩, ⟨by (with_reducible repeat (first | apply Kd.R_alloc | apply Kd.R_drewN | apply Kd.R_drew)); exact HO_8.out⟩, ⟨by repeat (first | (with_reducible first | exact HB.out | apply below_alloc | apply pw_below_drewN | apply below_drew1) | exact HB.out)⟩⟩
                                · rw [if_neg c28] at H
                                  exact absurd H (by simp)
                              · rw [if_neg c27] at H
                                exact absurd H (by simp)
                            · rw [if_neg c26] at H
                              exact absurd H (by simp)
                          · rw [if_neg c25] at H
                            have c25b0 : decide (0 ≤ x10_4) = false := decide_eq_false c25
                            clear c25
                            (first | rw [c25b0] | (simp only [i64_w, i32_w]; rw [c25b0]) | skip)
                            have H' := Aside0.mk H
                            clear H
                            go_wp2
                            repeat (go_quiet (fail); try go_wp2)
                            go_meet
                            case rel => exact ⟨_, (false), (by first | rfl | (simp; done) | (simp [*]; done)), H', ⟨by have := HJ3.out; have := HJ10.out; have := HJ17.out; have := HK4.out; first | omega | exact Nat.le_refl _⟩, ⟨by (with_reducible repeat (first | apply Kd.R_alloc | apply Kd.R_drewN | apply Kd.R_drew)); exact HO_6.out⟩, ⟨by (with_reducible repeat (first | apply Kd.R_alloc | apply Kd.R_drewN | apply Kd.R_drew)); exact HO_8.out⟩, ⟨by repeat (first | (with_reducible first | exact HB.out | apply below_alloc | apply pw_below_drewN | apply below_drew1) | exact HB.out)⟩⟩
                        case rest =>
                          clear HC24
                          try clear c1
                          try clear c2
                          try clear p2
                          try clear q2
                          try clear hx2
                          try clear c6
                          try clear c6b0
                          try clear c6b1
                          try clear p6
                          try clear c7
                          try clear c7b0
                          try clear c8
                          try clear c14
                          try clear c15
                          try clear c16
                          try clear c17
                          try clear c19
                          try clear c19b0
                          try clear c19b1
                          try clear c19b2
                          try clear p20
                          try clear q20
                          try clear hx20
                          try clear c23
                          try clear c25
                          try clear c25b0
                          try clear c26
                          try clear c26b0
                          try clear c27
                          try clear c27b0
                          try clear c28
                          try clear c28b0
                          try clear hx204_0
                          try clear hx205_0
                          try clear p2
                          try clear p204
                          try clear p205
                          try clear p6
                          try clear q204
                          try clear q205
                          obtain ⟨kq, x79_23, rfl, HA, HJ23, HO_6, HO_8, HB⟩ := hcut
                          cases kq with
                          | zero => exact absurd HA.out (by simp [decklelaw09_ShapeNext.j4])
                          | succ kj23 =>
                            have H := HA.out
                            clear HA
                            simp only [decklelaw09_ShapeNext.j4] at H
                            by_cases c30 : x79_23 = true
                            · subst c30
                              have H1 : (if 0 ≤ x10_4 then (if x10_4 < (t200.length : Int) then (if (rd t200 x10_4) = 0 then (decklelaw09_ShapeNext.l0 kj23 l0 t195 t196 t200 (wrap64 (x10_4 - 1))) else (none)) else (none)) else (none)) = some r := by rw [if_pos rfl] at H; exact H
                              clear H
                              have H := H1
                              clear H1
                              by_cases c31 : 0 ≤ x10_4
                              · rw [if_pos c31] at H
                                have c31b0 : decide (0 ≤ x10_4) = true := decide_eq_true c31
                                clear c31
                                by_cases c32 : x10_4 < (t200.length : Int)
                                · rw [if_pos c32] at H
                                  have c32b0 : decide (x10_4 < (t200.length : Int)) = true := decide_eq_true c32
                                  clear c32
                                  by_cases c33 : (rd t200 x10_4) = 0
                                  · rw [if_pos c33] at H
                                    have c33b0 : ((rd t200 x10_4) == 0) = true := beq_iff_eq.mpr c33
                                    have c33b1 : ((rd t200 x10_4) != 0) = false := bne_eq_false_iff_eq.mpr c33
                                    clear c33
                                    have H' := Aside0.mk H
                                    clear H
                                    obtain ⟨Ao34, co34, eo34⟩ := Kd.R_slice HO_8.out
                                    subst eo34
                                    have p206 : 0 ≤ (x10_4 : Int) := of_decide_eq_true (by first | (with_reducible assumption) | assumption)
                                    have q206 : x10_4 < (t200.length : Int) := of_decide_eq_true (by first | (with_reducible assumption) | assumption)
                                    obtain ⟨ad206, e206, hx206_0⟩ := Kd.at_int (Kd.R_reads' HO_8.out).2.2 x10_4 p206 q206
                                    cases e206
                                    replace p206 := eq_true p206
                                    replace q206 := eq_true q206
                                    go_wp2
                                    repeat (go_quiet (fail); try go_wp2)
                                    go_roundg kj23
                                    case measure => have := HJ3.out; have := HJ10.out; have := HJ17.out; have := HK4.out; have := HJ23.out; omega
                                    case rel => exact ⟨(wrap64 (x10_4 - 1)), (by first | rfl | (simp; done) | (simp [*]; done)), H', ⟨by have := HJ3.out; have := HJ10.out; have := HJ17.out; have := HK4.out; have := HJ23.out; omega⟩, ⟨by (with_reducible repeat (first | apply Kd.R_alloc | apply Kd.R_drewN | apply Kd.R_drew)); exact HO_6.out⟩, ⟨by (with_reducible repeat (first | apply Kd.R_alloc | apply Kd.R_drewN | apply Kd.R_drew)); exact HO_8.out⟩, ⟨by repeat (first | (with_reducible first | exact HB.out | apply below_alloc | apply pw_below_drewN | apply below_drew1) | exact HB.out)⟩⟩
                                  · rw [if_neg c33] at H
                                    exact absurd H (by simp)
                                · rw [if_neg c32] at H
                                  exact absurd H (by simp)
                              · rw [if_neg c31] at H
                                exact absurd H (by simp)
                            · replace c30 := Bool.eq_false_iff.mpr c30
                              subst c30
                              have H1 : (if t195 = true then (if x10_4 ≥ 0 then (if 0 ≤ x10_4 then (if x10_4 < (t200.length : Int) then (if x10_4 < (t196.length : Int) then (if (rd t200 x10_4) = (wrap64 ((rd t196 x10_4) + 1)) then (if x10_4 ≤ (t196.length : Int) then (if x10_4 ≤ (t200.length : Int) then ((deckleref01_Same.f kj23 (t196.take (x10_4 : Int).toNat) (t200.take (x10_4 : Int).toNat)).bind fun t217 => (some t217)) else (none)) else (none)) else (none)) else (none)) else (none)) else (none)) else (none)) else (none)) = some r := by rw [if_neg (show ¬ (false = true) by decide)] at H; exact H
                              clear H
                              have H := H1
                              clear H1
                              by_cases c35 : t195 = true
                              · subst c35
                                have H1 : (if x10_4 ≥ 0 then (if 0 ≤ x10_4 then (if x10_4 < (t200.length : Int) then (if x10_4 < (t196.length : Int) then (if (rd t200 x10_4) = (wrap64 ((rd t196 x10_4) + 1)) then (if x10_4 ≤ (t196.length : Int) then (if x10_4 ≤ (t200.length : Int) then ((deckleref01_Same.f kj23 (t196.take (x10_4 : Int).toNat) (t200.take (x10_4 : Int).toNat)).bind fun t217 => (some t217)) else (none)) else (none)) else (none)) else (none)) else (none)) else (none)) else (none)) = some r := by rw [if_pos rfl] at H; exact H
                                clear H
                                have H := H1
                                clear H1
                                by_cases c36 : x10_4 ≥ 0
                                · rw [if_pos c36] at H
                                  have c36b0 : decide (0 ≤ x10_4) = true := decide_eq_true c36
                                  clear c36
                                  by_cases c37 : 0 ≤ x10_4
                                  · rw [if_pos c37] at H
                                    have c37b0 : decide (0 ≤ x10_4) = true := decide_eq_true c37
                                    clear c37
                                    by_cases c38 : x10_4 < (t200.length : Int)
                                    · rw [if_pos c38] at H
                                      have c38b0 : decide (x10_4 < (t200.length : Int)) = true := decide_eq_true c38
                                      clear c38
                                      by_cases c39 : x10_4 < (t196.length : Int)
                                      · rw [if_pos c39] at H
                                        have c39b0 : decide (x10_4 < (t196.length : Int)) = true := decide_eq_true c39
                                        clear c39
                                        by_cases c40 : (rd t200 x10_4) = (wrap64 ((rd t196 x10_4) + 1))
                                        · rw [if_pos c40] at H
                                          have c40b0 : ((rd t200 x10_4) == (wrap64 ((rd t196 x10_4) + 1))) = true := beq_iff_eq.mpr c40
                                          have c40b1 : ((rd t200 x10_4) != (wrap64 ((rd t196 x10_4) + 1))) = false := bne_eq_false_iff_eq.mpr c40
                                          clear c40
                                          have c41b0 := eq_true (of_decide_eq_true (by first | (with_reducible assumption) | assumption) : 0 ≤ x10_4)
                                          by_cases c42 : x10_4 ≤ (t196.length : Int)
                                          · rw [if_pos c42] at H
                                            have c42b0 := eq_true c42
                                            have c42b1 : decide (x10_4 ≤ (t196.length : Int)) = true := decide_eq_true c42
                                            clear c42
                                            obtain ⟨y209, hy209⟩ : ∃ y_ : List Int, y_ = (t196.take (x10_4 : Int).toNat) := ⟨_, rfl⟩
                                            replace H : (if x10_4 ≤ (t200.length : Int) then ((deckleref01_Same.f kj23 y209 (t200.take (x10_4 : Int).toNat)).bind fun t217 => (some t217)) else (none)) = some r := by first | (rw [hy209]; with_reducible exact H) | (have H2_ := (Option.bind_some _ _).symm.trans H; rw [hy209]; with_reducible exact H2_) | (have H2_ := (Option.bind_some _ _).symm.trans H; with_reducible exact H2_) | with_reducible exact H | (rw [hy209]; exact H) | exact H
                                            have Ny209 := Aside0.mk hy209
                                            clear hy209
                                            have c43b0 := eq_true (of_decide_eq_true (by first | (with_reducible assumption) | assumption) : 0 ≤ x10_4)
                                            by_cases c44 : x10_4 ≤ (t200.length : Int)
                                            · rw [if_pos c44] at H
                                              have c44b0 := eq_true c44
                                              have c44b1 : decide (x10_4 ≤ (t200.length : Int)) = true := decide_eq_true c44
                                              clear c44
                                              obtain ⟨y213, hy213⟩ : ∃ y_ : List Int, y_ = (t200.take (x10_4 : Int).toNat) := ⟨_, rfl⟩
                                              replace H : ((deckleref01_Same.f kj23 y209 y213).bind fun t217 => (some t217)) = some r := by first | (rw [hy213]; with_reducible exact H) | (have H2_ := (Option.bind_some _ _).symm.trans H; rw [hy213]; with_reducible exact H2_) | (have H2_ := (Option.bind_some _ _).symm.trans H; with_reducible exact H2_) | with_reducible exact H | (rw [hy213]; exact H) | exact H
                                              have Ny213 := Aside0.mk hy213
                                              clear hy213
                                              replace H := Option.bind_eq_some_iff.mp H
                                              obtain ⟨t217, A450, H⟩ := H
                                              replace H : (some t217) = some r := H
                                              have A45 := Aside0.mk A450
                                              clear A450
                                              obtain rfl := Option.some.inj H
                                              obtain ⟨Ao46, co46, eo46⟩ := Kd.R_slice HO_8.out
                                              subst eo46
                                              have p207 : 0 ≤ (x10_4 : Int) := of_decide_eq_true (by first | (with_reducible assumption) | assumption)
                                              have q207 : x10_4 < (t200.length : Int) := of_decide_eq_true (by first | (with_reducible assumption) | assumption)
                                              obtain ⟨ad207, e207, hx207_0⟩ := Kd.at_int (Kd.R_reads' HO_8.out).2.2 x10_4 p207 q207
                                              cases e207
                                              replace p207 := eq_true p207
                                              replace q207 := eq_true q207
                                              obtain ⟨Ao47, co47, eo47⟩ := Kd.R_slice HO_6.out
                                              subst eo47
                                              have p208 : 0 ≤ (x10_4 : Int) := of_decide_eq_true (by first | (with_reducible assumption) | assumption)
                                              have q208 : x10_4 < (t196.length : Int) := of_decide_eq_true (by first | (with_reducible assumption) | assumption)
                                              obtain ⟨ad208, e208, hx208_0⟩ := Kd.at_int (Kd.R_reads' HO_6.out).2.2 x10_4 p208 q208
                                              cases e208
                                              replace p208 := eq_true p208
                                              replace q208 := eq_true q208
                                              have q48 : (x10_4 : Int) ≤ ((t196.length : Int) : Int) := of_decide_eq_true (by first | (with_reducible assumption) | assumption)
                                              obtain ⟨i048, hi048, _, hsz48, _⟩ := info_parts info3
                                              have hroom48 : t196.length ≤ co47 := (Kd.R_reads' HO_6.out).2.1
                                              have hC48 : Kd.C (Kd.int .i64) _ (some ad208) t196.length t196 := (Kd.R_reads' HO_6.out).2.2
                                              have hcut48 := cut_to (P := Try.prog) 22 3 .i64 Try.underlying22 hi048 (some ad208) t196.length co47 x10_4 (of_decide_eq_true (by first | (with_reducible assumption) | assumption)) q48 hroom48
                                              have hr48 := Kd.C_take (m := (x10_4 : Int).toNat) hC48 (by omega)
                                              have hy48 : y209.length = (x10_4 : Int).toNat := (by rw [Ny209.out, List.length_take]; omega)
                                              rw [← Ny209.out] at hr48
                                              rw [← hy48] at hcut48
                                              have HR212 := Aside0.mk hr48
                                              have HC212 := Aside0.mk (show y209.length ≤ co47 from by omega)
                                              clear hr48 hC48 hroom48 hi048 hsz48
                                              have KY48 := Aside0.mk hy48
                                              clear hy48
                                              have KL48 := Aside0.mk (show (x10_4 : Int).toNat ≤ t196.length from by omega)
                                              replace q48 := eq_true q48
                                              have q49 : (x10_4 : Int) ≤ ((t200.length : Int) : Int) := of_decide_eq_true (by first | (with_reducible assumption) | assumption)
                                              obtain ⟨i049, hi049, _, hsz49, _⟩ := info_parts info3
                                              have hroom49 : t200.length ≤ co46 := (Kd.R_reads' HO_8.out).2.1
                                              have hC49 : Kd.C (Kd.int .i64) _ (some ad207) t200.length t200 := (Kd.R_reads' HO_8.out).2.2
                                              have hcut49 := cut_to (P := Try.prog) 22 3 .i64 Try.underlying22 hi049 (some ad207) t200.length co46 x10_4 (of_decide_eq_true (by first | (with_reducible assumption) | assumption)) q49 hroom49
                                              have hr49 := Kd.C_take (m := (x10_4 : Int).toNat) hC49 (by omega)
                                              have hy49 : y213.length = (x10_4 : Int).toNat := (by rw [Ny213.out, List.length_take]; omega)
                                              rw [← Ny213.out] at hr49
                                              rw [← hy49] at hcut49
                                              have HR216 := Aside0.mk hr49
                                              have HC216 := Aside0.mk (show y213.length ≤ co46 from by omega)
                                              clear hr49 hC49 hroom49 hi049 hsz49
                                              have KY49 := Aside0.mk hy49
                                              clear hy49
                                              have KL49 := Aside0.mk (show (x10_4 : Int).toNat ≤ t200.length from by omega)
                                              replace q49 := eq_true q49
                                              go_wp2_with (first | (go_at_call 15; (with_reducible refine (deckleref01_Same.calls kj23 _ _ y209 _ _ y213 t217 _ ?side1 ?side2 ?side3 ?side4 A45.out).mono ?_); (case side1 => repeat (first | exact (by repeat (first | (with_reducible exact HR212.out) | (with_reducible refine Kd.C_alloc ?_ _) | (with_reducible refine Kd.C_drewN ?_ _) | (with_reducible refine Kd.C_drew ?_) | exact HR212.out)) | (with_reducible refine Kd.C_alloc ?_ _) | (with_reducible refine Kd.C_drewN ?_ _) | (with_reducible refine Kd.C_drew ?_))); (case side2 => exact HC212.out); (case side3 => repeat (first | exact (by repeat (first | (with_reducible exact HR216.out) | (with_reducible refine Kd.C_alloc ?_ _) | (with_reducible refine Kd.C_drewN ?_ _) | (with_reducible refine Kd.C_drew ?_) | exact HR216.out)) | (with_reducible refine Kd.C_alloc ?_ _) | (with_reducible refine Kd.C_drewN ?_ _) | (with_reducible refine Kd.C_drew ?_))); (case side4 => exact HC216.out); rintro e w' ⟨rfl, ⟨nd, rfl⟩⟩; (try first | exact ⟨rfl, _, World.drewN_drewN _ _ _⟩ | exact ⟨rfl, _, Eq.trans (World.drewN_drewN _ _ _) (congrArg (World.drewN _) (Nat.add_assoc _ _ _))⟩)))
                                              repeat (go_quiet (first | (go_at_call 15; (with_reducible refine (deckleref01_Same.calls kj23 _ _ y209 _ _ y213 t217 _ ?side1 ?side2 ?side3 ?side4 A45.out).mono ?_); (case side1 => repeat (first | exact (by repeat (first | (with_reducible exact HR212.out) | (with_reducible refine Kd.C_alloc ?_ _) | (with_reducible refine Kd.C_drewN ?_ _) | (with_reducible refine Kd.C_drew ?_) | exact HR212.out)) | (with_reducible refine Kd.C_alloc ?_ _) | (with_reducible refine Kd.C_drewN ?_ _) | (with_reducible refine Kd.C_drew ?_))); (case side2 => exact HC212.out); (case side3 => repeat (first | exact (by repeat (first | (with_reducible exact HR216.out) | (with_reducible refine Kd.C_alloc ?_ _) | (with_reducible refine Kd.C_drewN ?_ _) | (with_reducible refine Kd.C_drew ?_) | exact HR216.out)) | (with_reducible refine Kd.C_alloc ?_ _) | (with_reducible refine Kd.C_drewN ?_ _) | (with_reducible refine Kd.C_drew ?_))); (case side4 => exact HC216.out); rintro e w' ⟨rfl, ⟨nd, rfl⟩⟩; (try first | exact ⟨rfl, _, World.drewN_drewN _ _ _⟩ | exact ⟨rfl, _, Eq.trans (World.drewN_drewN _ _ _) (congrArg (World.drewN _) (Nat.add_assoc _ _ _))⟩))); try go_wp2_with (first | (go_at_call 15; (with_reducible refine (deckleref01_Same.calls kj23 _ _ y209 _ _ y213 t217 _ ?side1 ?side2 ?side3 ?side4 A45.out).mono ?_); (case side1 => repeat (first | exact (by repeat (first | (with_reducible exact HR212.out) | (with_reducible refine Kd.C_alloc ?_ _) | (with_reducible refine Kd.C_drewN ?_ _) | (with_reducible refine Kd.C_drew ?_) | exact HR212.out)) | (with_reducible refine Kd.C_alloc ?_ _) | (with_reducible refine Kd.C_drewN ?_ _) | (with_reducible refine Kd.C_drew ?_))); (case side2 => exact HC212.out); (case side3 => repeat (first | exact (by repeat (first | (with_reducible exact HR216.out) | (with_reducible refine Kd.C_alloc ?_ _) | (with_reducible refine Kd.C_drewN ?_ _) | (with_reducible refine Kd.C_drew ?_) | exact HR216.out)) | (with_reducible refine Kd.C_alloc ?_ _) | (with_reducible refine Kd.C_drewN ?_ _) | (with_reducible refine Kd.C_drew ?_))); (case side4 => exact HC216.out); rintro e w' ⟨rfl, ⟨nd, rfl⟩⟩; (try first | exact ⟨rfl, _, World.drewN_drewN _ _ _⟩ | exact ⟨rfl, _, Eq.trans (World.drewN_drewN _ _ _) (congrArg (World.drewN _) (Nat.add_assoc _ _ _))⟩))))
                                              go_ret
                                              exact ⟨by first | rfl | (simp [errW_none, errW_some] <;> rfl) | (simp [*, errW_none, errW_some] <;> rfl), by repeat (first | (with_reducible first | exact HB.out | apply below_alloc | apply pw_below_drewN | apply below_drew1) | exact HB.out)⟩
                                            · rw [if_neg c44] at H
                                              exact absurd H (by simp)
                                          · rw [if_neg c42] at H
                                            exact absurd H (by simp)
                                        · rw [if_neg c40] at H
                                          exact absurd H (by simp)
                                      · rw [if_neg c39] at H
                                        exact absurd H (by simp)
                                    · rw [if_neg c38] at H
                                      exact absurd H (by simp)
                                  · rw [if_neg c37] at H
                                    exact absurd H (by simp)
                                · rw [if_neg c36] at H
                                  exact absurd H (by simp)
                              · replace c35 := Bool.eq_false_iff.mpr c35
                                subst c35
                                have H1 : (none) = some r := by rw [if_neg (show ¬ (false = true) by decide)] at H; exact H
                                clear H
                                have H := H1
                                clear H1
                                exact absurd H (by simp)

/-- THE ONE PURE STATEMENT of decklelaw09_ShapeNext: yours. -/
def decklelaw09_ShapeNext.Pure : Prop := ∀ (l0 : List Int) (a1 : Int), l0.length ≤ maxLen → l0.length * 8 ≤ 140737488351232 → (∀ x ∈ l0, (Lit.int .i64 x).wf = true) → (Lit.int .i64 a1).wf = true → ∃ k, decklelaw09_ShapeNext.f k l0 a1 = some true
theorem decklelaw09_ShapeNext.walk (P : decklelaw09_ShapeNext.Pure) (a0 : Option Addr) (len0 cap0 : Nat) (z0 : List Int) (a1 : Int) (w : World) (w0 : (a0 = none ∧ len0 = 0 ∧ cap0 = 0 ∧ z0 = []) ∨ ∃ x, a0 = some x ∧ len0 ≤ cap0 ∧ cap0 ≤ maxLen ∧ z0.length = cap0 ∧ (∀ i, i < z0.length → w.cell? (x.add i) = some (.int .i64 (z0.getD i 0))) ∧ ∀ n ∈ z0, (Lit.int .i64 n).wf = true) (y0 : len0 * 8 ≤ 140737488351232) (w1 : (Lit.int .i64 a1).wf = true) :
    Calls Try.prog 7 #[.slice a0 len0 cap0, .int .i64 a1] w fun e w' => e = .returned (.bool true) ∧ Below w.heap.size w w' := by
  obtain ⟨l0, rfl, hr0, hm0, hw0, hc0⟩ := ReadsInt.ofRowC w0
  obtain ⟨k, h⟩ := P l0 a1 hm0 y0 hw0 w1
  refine (decklelaw09_ShapeNext.calls k _ _ l0 a1 true w (Kd.C_of_reads (d := (0 : Int)) (h1 := fun _ => rfl) hr0) hc0 h).mono ?_
  rintro e w' ⟨rfl, hd⟩
  exact ⟨rfl, hd⟩

end Go.Proofs.Ytngpdacbmkfbcaa.HShapeNext
