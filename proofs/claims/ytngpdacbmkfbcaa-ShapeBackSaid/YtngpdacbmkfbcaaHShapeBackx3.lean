-- Written by the session's program hy.py.
import Derived.Test.YtngpdacbmkfbcaaHShapeBackx0
import Derived.Test.YtngpdacbmkfbcaaHShapeBackx1
import Derived.Test.YtngpdacbmkfbcaaHShapeBackx2
namespace Go.Proofs.Ytngpdacbmkfbcaa.HShapeBack
open Go.RowKit Go.Proofs.YtngpdacbmkfbcaaW.PrintWords Go.Proofs.YtngpdacbmkfbcaaW.PrintLast Go.Proofs.YtngpdacbmkfbcaaW.PrintMore
attribute [local go_sem] max2_int min2_int max_two min_two max_three min_three max_four min_four   -- for this text's walks alone
set_option linter.unusedVariables false
set_option linter.unusedSimpArgs false

/-! ### decklelaw09_ShapeBack: function 4 -/
mutual
def decklelaw09_ShapeBack.j0 : Nat → List Int → List Int → Int → Bool → Bool → Option (Bool)
  | 0, _, _, _, _, _ => none
  | k + 1, x0, x1, x2, x7, x26 => if x26 = true then (some x7) else ((shape_Count.f k x0).bind fun bt196 => ((shape_Index.f k x0 x2).bind fun bt198 => ((shape_Place.f k x0 bt198.1).bind fun bt202 => (if bt196.2 = true then (if x2 ≥ 0 then (if (bt198.2 != (decide (x2 < bt196.1))) = true then (decklelaw09_ShapeBack.j1 k x0 x1 x7 bt196.1 bt196.2 true) else (if bt198.2 = true then (if bt202.2 = true then (if bt202.1 = x2 then (decklelaw09_ShapeBack.j1 k x0 x1 x7 bt196.1 bt196.2 ((bt198.1.length : Int) != (x0.length : Int))) else (decklelaw09_ShapeBack.j1 k x0 x1 x7 bt196.1 bt196.2 true)) else (decklelaw09_ShapeBack.j1 k x0 x1 x7 bt196.1 bt196.2 true)) else (decklelaw09_ShapeBack.j1 k x0 x1 x7 bt196.1 bt196.2 false))) else (if (bt198.2 != false) = true then (decklelaw09_ShapeBack.j1 k x0 x1 x7 bt196.1 bt196.2 true) else (if bt198.2 = true then (if bt202.2 = true then (if bt202.1 = x2 then (decklelaw09_ShapeBack.j1 k x0 x1 x7 bt196.1 bt196.2 ((bt198.1.length : Int) != (x0.length : Int))) else (decklelaw09_ShapeBack.j1 k x0 x1 x7 bt196.1 bt196.2 true)) else (decklelaw09_ShapeBack.j1 k x0 x1 x7 bt196.1 bt196.2 true)) else (decklelaw09_ShapeBack.j1 k x0 x1 x7 bt196.1 bt196.2 false)))) else (if (bt198.2 != false) = true then (decklelaw09_ShapeBack.j1 k x0 x1 x7 bt196.1 bt196.2 true) else (if bt198.2 = true then (if bt202.2 = true then (if bt202.1 = x2 then (decklelaw09_ShapeBack.j1 k x0 x1 x7 bt196.1 bt196.2 ((bt198.1.length : Int) != (x0.length : Int))) else (decklelaw09_ShapeBack.j1 k x0 x1 x7 bt196.1 bt196.2 true)) else (decklelaw09_ShapeBack.j1 k x0 x1 x7 bt196.1 bt196.2 true)) else (decklelaw09_ShapeBack.j1 k x0 x1 x7 bt196.1 bt196.2 false)))))))
def decklelaw09_ShapeBack.j1 : Nat → List Int → List Int → Bool → Int → Bool → Bool → Option (Bool)
  | 0, _, _, _, _, _, _ => none
  | k + 1, x0, x1, x7, x8, x9, x75 => if x75 = true then (none) else ((shape_Place.f k x0 x1).bind fun bt204 => ((shape_Index.f k x0 bt204.1).bind fun bt206 => (if x7 = true then (if bt204.2 = true then (if x9 = true then (if bt204.1 ≥ 0 then (if bt204.1 < x8 then (if bt206.2 = true then ((deckleref01_Same.f k bt206.1 x1).bind fun t210 => (some t210)) else (none)) else (none)) else (none)) else (none)) else (some true)) else (none))))
end
def decklelaw09_ShapeBack.f (k : Nat) (l0 : List Int) (l1 : List Int) (a2 : Int) : Option (Bool) := (decklelaw09_small.f k).bind fun t195 => (if (l0.length : Int) > 50 then (decklelaw09_ShapeBack.j0 k l0 l1 a2 t195 true) else (decklelaw09_ShapeBack.j0 k l0 l1 a2 t195 (decide ((l1.length : Int) > 50))))
theorem decklelaw09_ShapeBack.mono_l : ∀ k, (∀ y0 y1 y2 y3 y4, LeO (decklelaw09_ShapeBack.j0 k y0 y1 y2 y3 y4) (decklelaw09_ShapeBack.j0 (k + 1) y0 y1 y2 y3 y4)) ∧ (∀ y0 y1 y2 y3 y4 y5, LeO (decklelaw09_ShapeBack.j1 k y0 y1 y2 y3 y4 y5) (decklelaw09_ShapeBack.j1 (k + 1) y0 y1 y2 y3 y4 y5))
  | 0 => ⟨fun _ _ _ _ _ r h => by simp [decklelaw09_ShapeBack.j0] at h, fun _ _ _ _ _ _ r h => by simp [decklelaw09_ShapeBack.j1] at h⟩
  | k + 1 => by
    obtain ⟨ih0, ih1⟩ := decklelaw09_ShapeBack.mono_l k
    refine ⟨?_, ?_⟩
    · intro y0 y1 y2 y3 y4
      unfold decklelaw09_ShapeBack.j0
      repeat' first
      | (with_reducible exact ih0 _ _ _ _ _)
      | (with_reducible exact ih1 _ _ _ _ _ _)
      | (with_reducible exact decklelaw09_small.mono _)
      | (with_reducible exact deckleref01_Same.mono _ _ _)
      | (with_reducible exact shape_Count.mono _ _)
      | (with_reducible exact shape_Index.mono _ _ _)
      | (with_reducible exact shape_Place.mono _ _ _)
      | (with_reducible exact LeO.refl _)
      | (with_reducible exact LeO.none _)
      | (with_reducible refine LeO.ite ?_ ?_)
      | (with_reducible refine LeO.bind ?_ (fun _ => ?_))
      | exact ih0 _ _ _ _ _
      | exact ih1 _ _ _ _ _ _
      | exact decklelaw09_small.mono _
      | exact deckleref01_Same.mono _ _ _
      | exact shape_Count.mono _ _
      | exact shape_Index.mono _ _ _
      | exact shape_Place.mono _ _ _
      | exact LeO.none _
      | refine LeO.ite ?_ ?_
      | refine LeO.bind ?_ (fun _ => ?_)
    · intro y0 y1 y2 y3 y4 y5
      unfold decklelaw09_ShapeBack.j1
      repeat' first
      | (with_reducible exact ih0 _ _ _ _ _)
      | (with_reducible exact ih1 _ _ _ _ _ _)
      | (with_reducible exact decklelaw09_small.mono _)
      | (with_reducible exact deckleref01_Same.mono _ _ _)
      | (with_reducible exact shape_Count.mono _ _)
      | (with_reducible exact shape_Index.mono _ _ _)
      | (with_reducible exact shape_Place.mono _ _ _)
      | (with_reducible exact LeO.refl _)
      | (with_reducible exact LeO.none _)
      | (with_reducible refine LeO.ite ?_ ?_)
      | (with_reducible refine LeO.bind ?_ (fun _ => ?_))
      | exact ih0 _ _ _ _ _
      | exact ih1 _ _ _ _ _ _
      | exact decklelaw09_small.mono _
      | exact deckleref01_Same.mono _ _ _
      | exact shape_Count.mono _ _
      | exact shape_Index.mono _ _ _
      | exact shape_Place.mono _ _ _
      | exact LeO.none _
      | refine LeO.ite ?_ ?_
      | refine LeO.bind ?_ (fun _ => ?_)
theorem decklelaw09_ShapeBack.mono : ∀ a0 a1 a2 k, LeO (decklelaw09_ShapeBack.f k a0 a1 a2) (decklelaw09_ShapeBack.f (k + 1) a0 a1 a2) := by
  intro a0 a1 a2 k
  obtain ⟨ih0, ih1⟩ := decklelaw09_ShapeBack.mono_l k
  unfold decklelaw09_ShapeBack.f
  repeat' first
      | (with_reducible exact ih0 _ _ _ _ _)
      | (with_reducible exact ih1 _ _ _ _ _ _)
      | (with_reducible exact decklelaw09_small.mono _)
      | (with_reducible exact deckleref01_Same.mono _ _ _)
      | (with_reducible exact shape_Count.mono _ _)
      | (with_reducible exact shape_Index.mono _ _ _)
      | (with_reducible exact shape_Place.mono _ _ _)
      | (with_reducible exact LeO.refl _)
      | (with_reducible exact LeO.none _)
      | (with_reducible refine LeO.ite ?_ ?_)
      | (with_reducible refine LeO.bind ?_ (fun _ => ?_))
      | exact ih0 _ _ _ _ _
      | exact ih1 _ _ _ _ _ _
      | exact decklelaw09_small.mono _
      | exact deckleref01_Same.mono _ _ _
      | exact shape_Count.mono _ _
      | exact shape_Index.mono _ _ _
      | exact shape_Place.mono _ _ _
      | exact LeO.none _
      | refine LeO.ite ?_ ?_
      | refine LeO.bind ?_ (fun _ => ?_)
set_option maxHeartbeats 8000000 in
set_option maxRecDepth 100000 in
theorem decklelaw09_ShapeBack.calls (k : Nat) (A0 : Option Addr) (c0 : Nat) (l0 : List Int) (A1 : Option Addr) (c1 : Nat) (l1 : List Int) (a2 : Int) (r : Bool) (w : World) (hr0 : Kd.C (Kd.int .i64) w A0 l0.length l0) (hc0 : l0.length ≤ c0) (hr1 : Kd.C (Kd.int .i64) w A1 l1.length l1) (hc1 : l1.length ≤ c1) (h : decklelaw09_ShapeBack.f k l0 l1 a2 = some r) :
    Calls Try.prog 4 #[.slice A0 l0.length c0, .slice A1 l1.length c1, .int .i64 a2] w fun e w' => e = .returned (.bool r) ∧ Below w.heap.size w w' := by
  have HR0 := Aside0.mk hr0
  have HC0 := Aside0.mk hc0
  clear hr0 hc0
  have HR1 := Aside0.mk hr1
  have HC1 := Aside0.mk hc1
  clear hr1 hc1
  have HB := Aside0.mk (Below.refl w.heap.size w)
  have H : ((decklelaw09_small.f k).bind fun t195 => (if (l0.length : Int) > 50 then (decklelaw09_ShapeBack.j0 k l0 l1 a2 t195 true) else (decklelaw09_ShapeBack.j0 k l0 l1 a2 t195 (decide ((l1.length : Int) > 50))))) = some r := h
  clear h
  replace H := Option.bind_eq_some_iff.mp H
  obtain ⟨t195, A40, H⟩ := H
  replace H : (if (l0.length : Int) > 50 then (decklelaw09_ShapeBack.j0 k l0 l1 a2 t195 true) else (decklelaw09_ShapeBack.j0 k l0 l1 a2 t195 (decide ((l1.length : Int) > 50)))) = some r := H
  have A4 := Aside0.mk A40
  clear A40
  have HC5 := Aside0.mk H
  clear H
  go_enter Try.func4, Try.ntmps4
  go_upto_region 2 with (first | ((with_reducible refine gate_callee (f := 8) rfl ?_); refine goesL_ (some 18) rfl rfl Try.func8 (by kernel_rfl) rfl #[] rfl (by (try simp only [List.map_toArray, List.map_cons, List.map_nil]); first | done | rfl | (simp only [List.length_drop, List.length_take]; rfl)) ?_; (with_reducible refine (decklelaw09_small.calls k  t195 _ A4.out).mono ?_); rintro e w6 ⟨rfl, hb⟩; refine ⟨_, rfl, ?_⟩; have n0_ := Aside0.mk (below_step (by repeat (first | (with_reducible first | exact HB.out | apply below_alloc | apply pw_below_drewN | apply below_drew1) | exact HB.out)) hb); clear HB; have HB := n0_; clear n0_; (try clear hb); (try clear hb2); (try clear hk); (try clear hi)))
  (try simp only [Act.put, List.setIfInBounds_toArray, List.set_cons_zero, List.set_cons_succ])
  go_cut [26] (fun v26 wc => ∃ (kq : Nat) (x26_4 : Bool), v26 = .bool x26_4 ∧ Aside0 (decklelaw09_ShapeBack.j0 kq l0 l1 a2 t195 x26_4 = some r) ∧ Aside0 (kq ≤ k) ∧ Aside0 (Below w.heap.size w wc))
  case first =>
    have H := HC5.out
    clear HC5
    by_cases c7 : (l0.length : Int) > 50
    · rw [if_pos c7] at H
      have c7b0 : decide (50 < (l0.length : Int)) = true := decide_eq_true c7
      have c7b1 : decide (50 < l0.length) = true := decide_eq_true (by omega)
      clear c7
      (first | rw [c7b0] | (simp only [i64_w, i32_w]; rw [c7b0]) | skip)
      have H' := Aside0.mk H
      clear H
      go_wp2
      go_meet
      case rel => exact ⟨_, (true), (by first | rfl | (simp; done) | (simp [*]; done)), H', ⟨by first | omega | exact Nat.le_refl _⟩, ⟨by repeat (first | (with_reducible first | exact HB.out | apply below_alloc | apply pw_below_drewN | apply below_drew1) | exact HB.out)⟩⟩
    · rw [if_neg c7] at H
      have c7b0 : decide (50 < (l0.length : Int)) = false := decide_eq_false c7
      have c7b1 : decide (50 < l0.length) = false := decide_eq_false (by omega)
      clear c7
      (first | rw [c7b0] | (simp only [i64_w, i32_w]; rw [c7b0]) | skip)
      have H' := Aside0.mk H
      clear H
      go_wp2
      go_meet
      case rel => exact ⟨_, (decide ((l1.length : Int) > 50)), (by first | rfl | (simp; done) | (simp [*]; done)), H', ⟨by first | omega | exact Nat.le_refl _⟩, ⟨by repeat (first | (with_reducible first | exact HB.out | apply below_alloc | apply pw_below_drewN | apply below_drew1) | exact HB.out)⟩⟩
  case rest =>
    clear HC5
    try clear c1
    try clear p2
    try clear c4
    try clear c7
    try clear c7b0
    try clear c7b1
    obtain ⟨kq, x26_4, rfl, HA, HJ4, HB⟩ := hcut
    cases kq with
    | zero => exact absurd HA.out (by simp [decklelaw09_ShapeBack.j0])
    | succ kj4 =>
      have H := HA.out
      clear HA
      simp only [decklelaw09_ShapeBack.j0] at H
      by_cases c8 : x26_4 = true
      · subst c8
        have H1 : (some t195) = some r := by rw [if_pos rfl] at H; exact H
        clear H
        have H := H1
        clear H1
        obtain rfl := Option.some.inj H
        go_wp2
        go_ret
        exact ⟨by first | rfl | (simp [errW_none, errW_some] <;> rfl) | (simp [*, errW_none, errW_some] <;> rfl), by repeat (first | (with_reducible first | exact HB.out | apply below_alloc | apply pw_below_drewN | apply below_drew1) | exact HB.out)⟩
      · replace c8 := Bool.eq_false_iff.mpr c8
        subst c8
        have H1 : ((shape_Count.f kj4 l0).bind fun bt196 => ((shape_Index.f kj4 l0 a2).bind fun bt198 => ((shape_Place.f kj4 l0 bt198.1).bind fun bt202 => (if bt196.2 = true then (if a2 ≥ 0 then (if (bt198.2 != (decide (a2 < bt196.1))) = true then (decklelaw09_ShapeBack.j1 kj4 l0 l1 t195 bt196.1 bt196.2 true) else (if bt198.2 = true then (if bt202.2 = true then (if bt202.1 = a2 then (decklelaw09_ShapeBack.j1 kj4 l0 l1 t195 bt196.1 bt196.2 ((bt198.1.length : Int) != (l0.length : Int))) else (decklelaw09_ShapeBack.j1 kj4 l0 l1 t195 bt196.1 bt196.2 true)) else (decklelaw09_ShapeBack.j1 kj4 l0 l1 t195 bt196.1 bt196.2 true)) else (decklelaw09_ShapeBack.j1 kj4 l0 l1 t195 bt196.1 bt196.2 false))) else (if (bt198.2 != false) = true then (decklelaw09_ShapeBack.j1 kj4 l0 l1 t195 bt196.1 bt196.2 true) else (if bt198.2 = true then (if bt202.2 = true then (if bt202.1 = a2 then (decklelaw09_ShapeBack.j1 kj4 l0 l1 t195 bt196.1 bt196.2 ((bt198.1.length : Int) != (l0.length : Int))) else (decklelaw09_ShapeBack.j1 kj4 l0 l1 t195 bt196.1 bt196.2 true)) else (decklelaw09_ShapeBack.j1 kj4 l0 l1 t195 bt196.1 bt196.2 true)) else (decklelaw09_ShapeBack.j1 kj4 l0 l1 t195 bt196.1 bt196.2 false)))) else (if (bt198.2 != false) = true then (decklelaw09_ShapeBack.j1 kj4 l0 l1 t195 bt196.1 bt196.2 true) else (if bt198.2 = true then (if bt202.2 = true then (if bt202.1 = a2 then (decklelaw09_ShapeBack.j1 kj4 l0 l1 t195 bt196.1 bt196.2 ((bt198.1.length : Int) != (l0.length : Int))) else (decklelaw09_ShapeBack.j1 kj4 l0 l1 t195 bt196.1 bt196.2 true)) else (decklelaw09_ShapeBack.j1 kj4 l0 l1 t195 bt196.1 bt196.2 true)) else (decklelaw09_ShapeBack.j1 kj4 l0 l1 t195 bt196.1 bt196.2 false))))))) = some r := by rw [if_neg (show ¬ (false = true) by decide)] at H; exact H
        clear H
        have H := H1
        clear H1
        replace H := Option.bind_eq_some_iff.mp H
        obtain ⟨⟨t196, t197⟩, A90, H⟩ := H
        replace H : ((shape_Index.f kj4 l0 a2).bind fun bt198 => ((shape_Place.f kj4 l0 bt198.1).bind fun bt202 => (if t197 = true then (if a2 ≥ 0 then (if (bt198.2 != (decide (a2 < t196))) = true then (decklelaw09_ShapeBack.j1 kj4 l0 l1 t195 t196 t197 true) else (if bt198.2 = true then (if bt202.2 = true then (if bt202.1 = a2 then (decklelaw09_ShapeBack.j1 kj4 l0 l1 t195 t196 t197 ((bt198.1.length : Int) != (l0.length : Int))) else (decklelaw09_ShapeBack.j1 kj4 l0 l1 t195 t196 t197 true)) else (decklelaw09_ShapeBack.j1 kj4 l0 l1 t195 t196 t197 true)) else (decklelaw09_ShapeBack.j1 kj4 l0 l1 t195 t196 t197 false))) else (if (bt198.2 != false) = true then (decklelaw09_ShapeBack.j1 kj4 l0 l1 t195 t196 t197 true) else (if bt198.2 = true then (if bt202.2 = true then (if bt202.1 = a2 then (decklelaw09_ShapeBack.j1 kj4 l0 l1 t195 t196 t197 ((bt198.1.length : Int) != (l0.length : Int))) else (decklelaw09_ShapeBack.j1 kj4 l0 l1 t195 t196 t197 true)) else (decklelaw09_ShapeBack.j1 kj4 l0 l1 t195 t196 t197 true)) else (decklelaw09_ShapeBack.j1 kj4 l0 l1 t195 t196 t197 false)))) else (if (bt198.2 != false) = true then (decklelaw09_ShapeBack.j1 kj4 l0 l1 t195 t196 t197 true) else (if bt198.2 = true then (if bt202.2 = true then (if bt202.1 = a2 then (decklelaw09_ShapeBack.j1 kj4 l0 l1 t195 t196 t197 ((bt198.1.length : Int) != (l0.length : Int))) else (decklelaw09_ShapeBack.j1 kj4 l0 l1 t195 t196 t197 true)) else (decklelaw09_ShapeBack.j1 kj4 l0 l1 t195 t196 t197 true)) else (decklelaw09_ShapeBack.j1 kj4 l0 l1 t195 t196 t197 false)))))) = some r := H
        have A9 := Aside0.mk A90
        clear A90
        replace H := Option.bind_eq_some_iff.mp H
        obtain ⟨⟨t198, t199⟩, A100, H⟩ := H
        replace H : ((shape_Place.f kj4 l0 t198).bind fun bt202 => (if t197 = true then (if a2 ≥ 0 then (if (t199 != (decide (a2 < t196))) = true then (decklelaw09_ShapeBack.j1 kj4 l0 l1 t195 t196 t197 true) else (if t199 = true then (if bt202.2 = true then (if bt202.1 = a2 then (decklelaw09_ShapeBack.j1 kj4 l0 l1 t195 t196 t197 ((t198.length : Int) != (l0.length : Int))) else (decklelaw09_ShapeBack.j1 kj4 l0 l1 t195 t196 t197 true)) else (decklelaw09_ShapeBack.j1 kj4 l0 l1 t195 t196 t197 true)) else (decklelaw09_ShapeBack.j1 kj4 l0 l1 t195 t196 t197 false))) else (if (t199 != false) = true then (decklelaw09_ShapeBack.j1 kj4 l0 l1 t195 t196 t197 true) else (if t199 = true then (if bt202.2 = true then (if bt202.1 = a2 then (decklelaw09_ShapeBack.j1 kj4 l0 l1 t195 t196 t197 ((t198.length : Int) != (l0.length : Int))) else (decklelaw09_ShapeBack.j1 kj4 l0 l1 t195 t196 t197 true)) else (decklelaw09_ShapeBack.j1 kj4 l0 l1 t195 t196 t197 true)) else (decklelaw09_ShapeBack.j1 kj4 l0 l1 t195 t196 t197 false)))) else (if (t199 != false) = true then (decklelaw09_ShapeBack.j1 kj4 l0 l1 t195 t196 t197 true) else (if t199 = true then (if bt202.2 = true then (if bt202.1 = a2 then (decklelaw09_ShapeBack.j1 kj4 l0 l1 t195 t196 t197 ((t198.length : Int) != (l0.length : Int))) else (decklelaw09_ShapeBack.j1 kj4 l0 l1 t195 t196 t197 true)) else (decklelaw09_ShapeBack.j1 kj4 l0 l1 t195 t196 t197 true)) else (decklelaw09_ShapeBack.j1 kj4 l0 l1 t195 t196 t197 false))))) = some r := H
        have A10 := Aside0.mk A100
        clear A100
        replace H := Option.bind_eq_some_iff.mp H
        obtain ⟨⟨t202, t203⟩, A110, H⟩ := H
        replace H : (if t197 = true then (if a2 ≥ 0 then (if (t199 != (decide (a2 < t196))) = true then (decklelaw09_ShapeBack.j1 kj4 l0 l1 t195 t196 t197 true) else (if t199 = true then (if t203 = true then (if t202 = a2 then (decklelaw09_ShapeBack.j1 kj4 l0 l1 t195 t196 t197 ((t198.length : Int) != (l0.length : Int))) else (decklelaw09_ShapeBack.j1 kj4 l0 l1 t195 t196 t197 true)) else (decklelaw09_ShapeBack.j1 kj4 l0 l1 t195 t196 t197 true)) else (decklelaw09_ShapeBack.j1 kj4 l0 l1 t195 t196 t197 false))) else (if (t199 != false) = true then (decklelaw09_ShapeBack.j1 kj4 l0 l1 t195 t196 t197 true) else (if t199 = true then (if t203 = true then (if t202 = a2 then (decklelaw09_ShapeBack.j1 kj4 l0 l1 t195 t196 t197 ((t198.length : Int) != (l0.length : Int))) else (decklelaw09_ShapeBack.j1 kj4 l0 l1 t195 t196 t197 true)) else (decklelaw09_ShapeBack.j1 kj4 l0 l1 t195 t196 t197 true)) else (decklelaw09_ShapeBack.j1 kj4 l0 l1 t195 t196 t197 false)))) else (if (t199 != false) = true then (decklelaw09_ShapeBack.j1 kj4 l0 l1 t195 t196 t197 true) else (if t199 = true then (if t203 = true then (if t202 = a2 then (decklelaw09_ShapeBack.j1 kj4 l0 l1 t195 t196 t197 ((t198.length : Int) != (l0.length : Int))) else (decklelaw09_ShapeBack.j1 kj4 l0 l1 t195 t196 t197 true)) else (decklelaw09_ShapeBack.j1 kj4 l0 l1 t195 t196 t197 true)) else (decklelaw09_ShapeBack.j1 kj4 l0 l1 t195 t196 t197 false)))) = some r := H
        have A11 := Aside0.mk A110
        clear A110
        have HC12 := Aside0.mk H
        clear H
        go_upto_region 7 with (first | ((with_reducible refine gate_callee (f := 9) rfl ?_); refine goesL_ (some 30) rfl rfl Try.func9 (by kernel_rfl) rfl #[.slice A0 l0.length c0] rfl (by (try simp only [List.map_toArray, List.map_cons, List.map_nil]); first | done | rfl | (simp only [List.length_drop, List.length_take]; rfl)) ?_; (with_reducible refine (shape_Count.calls kj4 _ _ l0 t196 t197 _ ?side1 ?side2 A9.out).mono ?_); (case side1 => repeat (first | exact (Kd.C_below HR0.out HB.out) | (with_reducible refine Kd.C_alloc ?_ _) | (with_reducible refine Kd.C_drewN ?_ _) | (with_reducible refine Kd.C_drew ?_))); (case side2 => exact HC0.out); rintro e w' ⟨rfl, ⟨nd, rfl⟩⟩; refine ⟨_, rfl, ?_⟩) | ((with_reducible refine gate_callee (f := 13) rfl ?_); refine goesL_ (some 36) rfl rfl Try.func13 (by kernel_rfl) rfl #[.slice A0 l0.length c0, .int .i64 a2] rfl (by (try simp only [List.map_toArray, List.map_cons, List.map_nil]); first | done | rfl | (simp only [List.length_drop, List.length_take]; rfl)) ?_; (with_reducible refine (shape_Index.calls kj4 _ _ l0 a2 t198 t199 _ ?side1 ?side2 A10.out).mono ?_); (case side1 => repeat (first | exact (Kd.C_below HR0.out (by repeat (first | (with_reducible first | exact HB.out | apply below_alloc | apply pw_below_drewN | apply below_drew1) | exact HB.out))) | (with_reducible refine Kd.C_alloc ?_ _) | (with_reducible refine Kd.C_drewN ?_ _) | (with_reducible refine Kd.C_drew ?_))); (case side2 => exact HC0.out); rintro e w13 ⟨v200, rfl, ho0, hb⟩; refine ⟨_, rfl, ?_⟩; have n0_ := Aside0.mk (Kd.R_lower ho0 (below_size (by repeat (first | (with_reducible first | exact HB.out | apply below_alloc | apply pw_below_drewN | apply below_drew1) | exact HB.out)))); have n1_ := Aside0.mk (below_step (by repeat (first | (with_reducible first | exact HB.out | apply below_alloc | apply pw_below_drewN | apply below_drew1) | exact HB.out)) hb); clear HB; have HO201 := n0_; have HB := n1_; clear n0_ n1_; (try clear hb); (try clear hb2); (try clear hk); (try clear hi); (try clear ho0); obtain ⟨Ao14, co14, eo14⟩ := Kd.R_slice HO201.out; subst eo14) | ((with_reducible refine gate_callee (f := 11) rfl ?_); refine goesL_ (some 42) rfl rfl Try.func11 (by kernel_rfl) rfl #[.slice A0 l0.length c0, .slice Ao14 t198.length co14] rfl (by (try simp only [List.map_toArray, List.map_cons, List.map_nil]); first | done | rfl | (simp only [List.length_drop, List.length_take]; rfl)) ?_; (with_reducible refine (shape_Place.calls kj4 _ _ l0 _ _ t198 t202 t203 _ ?side1 ?side2 ?side3 ?side4 A11.out).mono ?_); (case side1 => repeat (first | exact (Kd.C_below HR0.out HB.out) | (with_reducible refine Kd.C_alloc ?_ _) | (with_reducible refine Kd.C_drewN ?_ _) | (with_reducible refine Kd.C_drew ?_))); (case side2 => exact HC0.out); (case side3 => repeat (first | exact (Kd.R_reads' HO201.out).2.2 | (with_reducible refine Kd.C_alloc ?_ _) | (with_reducible refine Kd.C_drewN ?_ _) | (with_reducible refine Kd.C_drew ?_))); (case side4 => exact (Kd.R_reads' HO201.out).2.1); rintro e w' ⟨rfl, ⟨nd, rfl⟩⟩; refine ⟨_, rfl, ?_⟩))
        (try simp only [Act.put, List.setIfInBounds_toArray, List.set_cons_zero, List.set_cons_succ])
        go_cut [75] (fun v75 wc => ∃ (kq : Nat) (x75_11 : Bool), v75 = .bool x75_11 ∧ Aside0 (decklelaw09_ShapeBack.j1 kq l0 l1 t195 t196 t197 x75_11 = some r) ∧ Aside0 (kq ≤ kj4) ∧ Aside0 (Below w.heap.size w wc))
        case first =>
          have H := HC12.out
          clear HC12
          by_cases c15 : t197 = true
          · subst c15
            have H1 : (if a2 ≥ 0 then (if (t199 != (decide (a2 < t196))) = true then (decklelaw09_ShapeBack.j1 kj4 l0 l1 t195 t196 true true) else (if t199 = true then (if t203 = true then (if t202 = a2 then (decklelaw09_ShapeBack.j1 kj4 l0 l1 t195 t196 true ((t198.length : Int) != (l0.length : Int))) else (decklelaw09_ShapeBack.j1 kj4 l0 l1 t195 t196 true true)) else (decklelaw09_ShapeBack.j1 kj4 l0 l1 t195 t196 true true)) else (decklelaw09_ShapeBack.j1 kj4 l0 l1 t195 t196 true false))) else (if (t199 != false) = true then (decklelaw09_ShapeBack.j1 kj4 l0 l1 t195 t196 true true) else (if t199 = true then (if t203 = true then (if t202 = a2 then (decklelaw09_ShapeBack.j1 kj4 l0 l1 t195 t196 true ((t198.length : Int) != (l0.length : Int))) else (decklelaw09_ShapeBack.j1 kj4 l0 l1 t195 t196 true true)) else (decklelaw09_ShapeBack.j1 kj4 l0 l1 t195 t196 true true)) else (decklelaw09_ShapeBack.j1 kj4 l0 l1 t195 t196 true false)))) = some r := by rw [if_pos rfl] at H; exact H
            clear H
            have H := H1
            clear H1
            by_cases c16 : a2 ≥ 0
            · rw [if_pos c16] at H
              have c16b0 : decide (0 ≤ a2) = true := decide_eq_true c16
              clear c16
              (first | rw [c16b0] | (simp only [i64_w, i32_w]; rw [c16b0]) | skip)
              by_cases c17 : (t199 != (decide (a2 < t196))) = true
              · rw [if_pos c17] at H
                have c17b0 : (t199 != (decide (a2 < t196))) = true := c17
                (try (have c17b1 : decide (t199 = (decide (a2 < t196))) = false := by simpa using c17))
                (try (have c17b2 : (t199 == (decide (a2 < t196))) = false := by simpa using c17))
                (try (have c17b3 : ¬ (t199 = (decide (a2 < t196))) := by simpa using c17))
                clear c17
                have H' := Aside0.mk H
                clear H
                go_wp2
                go_meet
                case rel => exact ⟨_, (true), (by first | rfl | (simp; done) | (simp [*]; done)), H', ⟨by have := HJ4.out; first | omega | exact Nat.le_refl _⟩, ⟨by repeat (first | (with_reducible first | exact HB.out | apply below_alloc | apply pw_below_drewN | apply below_drew1) | exact HB.out)⟩⟩
              · rw [if_neg c17] at H
                have c17b0 : (t199 != (decide (a2 < t196))) = false := by simpa using c17
                (try (have c17b1 : decide (t199 = (decide (a2 < t196))) = true := by simpa using c17))
                (try (have c17b2 : (t199 == (decide (a2 < t196))) = true := by simpa using c17))
                clear c17
                by_cases c18 : t199 = true
                · subst c18
                  have H1 : (if t203 = true then (if t202 = a2 then (decklelaw09_ShapeBack.j1 kj4 l0 l1 t195 t196 true ((t198.length : Int) != (l0.length : Int))) else (decklelaw09_ShapeBack.j1 kj4 l0 l1 t195 t196 true true)) else (decklelaw09_ShapeBack.j1 kj4 l0 l1 t195 t196 true true)) = some r := by rw [if_pos rfl] at H; exact H
                  clear H
                  have H := H1
                  clear H1
                  by_cases c19 : t203 = true
                  · subst c19
                    have H1 : (if t202 = a2 then (decklelaw09_ShapeBack.j1 kj4 l0 l1 t195 t196 true ((t198.length : Int) != (l0.length : Int))) else (decklelaw09_ShapeBack.j1 kj4 l0 l1 t195 t196 true true)) = some r := by rw [if_pos rfl] at H; exact H
                    clear H
                    have H := H1
                    clear H1
                    by_cases c20 : t202 = a2
                    · rw [if_pos c20] at H
                      have c20b0 : (t202 == a2) = true := beq_iff_eq.mpr c20
                      have c20b1 : (t202 != a2) = false := bne_eq_false_iff_eq.mpr c20
                      clear c20
                      have H' := Aside0.mk H
                      clear H
                      go_wp2
                      go_meet
                      case rel => exact ⟨_, (((t198.length : Int) != (l0.length : Int))), (by first | rfl | (simp; done) | (simp [*]; done)), H', ⟨by have := HJ4.out; first | omega | exact Nat.le_refl _⟩, ⟨by repeat (first | (with_reducible first | exact HB.out | apply below_alloc | apply pw_below_drewN | apply below_drew1) | exact HB.out)⟩⟩
                    · rw [if_neg c20] at H
                      have c20b0 : (t202 == a2) = false := beq_eq_false_iff_ne.mpr c20
                      have c20b1 : (t202 != a2) = true := bne_iff_ne.mpr c20
                      have H' := Aside0.mk H
                      clear H
                      go_wp2
                      go_meet
                      case rel => exact ⟨_, (true), (by first | rfl | (simp; done) | (simp [*]; done)), H', ⟨by have := HJ4.out; first | omega | exact Nat.le_refl _⟩, ⟨by repeat (first | (with_reducible first | exact HB.out | apply below_alloc | apply pw_below_drewN | apply below_drew1) | exact HB.out)⟩⟩
                  · replace c19 := Bool.eq_false_iff.mpr c19
                    subst c19
                    have H1 : (decklelaw09_ShapeBack.j1 kj4 l0 l1 t195 t196 true true) = some r := by rw [if_neg (show ¬ (false = true) by decide)] at H; exact H
                    clear H
                    have H := H1
                    clear H1
                    have H' := Aside0.mk H
                    clear H
                    go_wp2
                    go_meet
                    case rel => exact ⟨_, (true), (by first | rfl | (simp; done) | (simp [*]; done)), H', ⟨by have := HJ4.out; first | omega | exact Nat.le_refl _⟩, ⟨by repeat (first | (with_reducible first | exact HB.out | apply below_alloc | apply pw_below_drewN | apply below_drew1) | exact HB.out)⟩⟩
                · replace c18 := Bool.eq_false_iff.mpr c18
                  subst c18
                  have H1 : (decklelaw09_ShapeBack.j1 kj4 l0 l1 t195 t196 true false) = some r := by rw [if_neg (show ¬ (false = true) by decide)] at H; exact H
                  clear H
                  have H := H1
                  clear H1
                  have H' := Aside0.mk H
                  clear H
                  go_wp2
                  go_meet
                  case rel => exact ⟨_, (false), (by first | rfl | (simp; done) | (simp [*]; done)), H', ⟨by have := HJ4.out; first | omega | exact Nat.le_refl _⟩, ⟨by repeat (first | (with_reducible first | exact HB.out | apply below_alloc | apply pw_below_drewN | apply below_drew1) | exact HB.out)⟩⟩
            · rw [if_neg c16] at H
              have c16b0 : decide (0 ≤ a2) = false := decide_eq_false c16
              clear c16
              (first | rw [c16b0] | (simp only [i64_w, i32_w]; rw [c16b0]) | skip)
              by_cases c21 : (t199 != false) = true
              · rw [if_pos c21] at H
                have c21b0 : (t199 != false) = true := c21
                (try (have c21b1 : decide (t199 = false) = false := by simpa using c21))
                (try (have c21b2 : (t199 == false) = false := by simpa using c21))
                (try (have c21b3 : ¬ (t199 = false) := by simpa using c21))
                clear c21
                have H' := Aside0.mk H
                clear H
                go_wp2
                go_meet
                case rel => exact ⟨_, (true), (by first | rfl | (simp; done) | (simp [*]; done)), H', ⟨by have := HJ4.out; first | omega | exact Nat.le_refl _⟩, ⟨by repeat (first | (with_reducible first | exact HB.out | apply below_alloc | apply pw_below_drewN | apply below_drew1) | exact HB.out)⟩⟩
              · rw [if_neg c21] at H
                have c21b0 : (t199 != false) = false := by simpa using c21
                (try (have c21b1 : decide (t199 = false) = true := by simpa using c21))
                (try (have c21b2 : (t199 == false) = true := by simpa using c21))
                clear c21
                by_cases c22 : t199 = true
                · subst c22
                  have H1 : (if t203 = true then (if t202 = a2 then (decklelaw09_ShapeBack.j1 kj4 l0 l1 t195 t196 true ((t198.length : Int) != (l0.length : Int))) else (decklelaw09_ShapeBack.j1 kj4 l0 l1 t195 t196 true true)) else (decklelaw09_ShapeBack.j1 kj4 l0 l1 t195 t196 true true)) = some r := by rw [if_pos rfl] at H; exact H
                  clear H
                  have H := H1
                  clear H1
                  by_cases c23 : t203 = true
                  · subst c23
                    have H1 : (if t202 = a2 then (decklelaw09_ShapeBack.j1 kj4 l0 l1 t195 t196 true ((t198.length : Int) != (l0.length : Int))) else (decklelaw09_ShapeBack.j1 kj4 l0 l1 t195 t196 true true)) = some r := by rw [if_pos rfl] at H; exact H
                    clear H
                    have H := H1
                    clear H1
                    by_cases c24 : t202 = a2
                    · rw [if_pos c24] at H
                      have c24b0 : (t202 == a2) = true := beq_iff_eq.mpr c24
                      have c24b1 : (t202 != a2) = false := bne_eq_false_iff_eq.mpr c24
                      clear c24
                      have H' := Aside0.mk H
                      clear H
                      go_wp2
                      go_meet
                      case rel => exact ⟨_, (((t198.length : Int) != (l0.length : Int))), (by first | rfl | (simp; done) | (simp [*]; done)), H', ⟨by have := HJ4.out; first | omega | exact Nat.le_refl _⟩, ⟨by repeat (first | (with_reducible first | exact HB.out | apply below_alloc | apply pw_below_drewN | apply below_drew1) | exact HB.out)⟩⟩
                    · rw [if_neg c24] at H
                      have c24b0 : (t202 == a2) = false := beq_eq_false_iff_ne.mpr c24
                      have c24b1 : (t202 != a2) = true := bne_iff_ne.mpr c24
                      have H' := Aside0.mk H
                      clear H
                      go_wp2
                      go_meet
                      case rel => exact ⟨_, (true), (by first | rfl | (simp; done) | (simp [*]; done)), H', ⟨by have := HJ4.out; first | omega | exact Nat.le_refl _⟩, ⟨by repeat (first | (with_reducible first | exact HB.out | apply below_alloc | apply pw_below_drewN | apply below_drew1) | exact HB.out)⟩⟩
                  · replace c23 := Bool.eq_false_iff.mpr c23
                    subst c23
                    have H1 : (decklelaw09_ShapeBack.j1 kj4 l0 l1 t195 t196 true true) = some r := by rw [if_neg (show ¬ (false = true) by decide)] at H; exact H
                    clear H
                    have H := H1
                    clear H1
                    have H' := Aside0.mk H
                    clear H
                    go_wp2
                    go_meet
                    case rel => exact ⟨_, (true), (by first | rfl | (simp; done) | (simp [*]; done)), H', ⟨by have := HJ4.out; first | omega | exact Nat.le_refl _⟩, ⟨by repeat (first | (with_reducible first | exact HB.out | apply below_alloc | apply pw_below_drewN | apply below_drew1) | exact HB.out)⟩⟩
                · replace c22 := Bool.eq_false_iff.mpr c22
                  subst c22
                  have H1 : (decklelaw09_ShapeBack.j1 kj4 l0 l1 t195 t196 true false) = some r := by rw [if_neg (show ¬ (false = true) by decide)] at H; exact H
                  clear H
                  have H := H1
                  clear H1
                  have H' := Aside0.mk H
                  clear H
                  go_wp2
                  go_meet
                  case rel => exact ⟨_, (false), (by first | rfl | (simp; done) | (simp [*]; done)), H', ⟨by have := HJ4.out; first | omega | exact Nat.le_refl _⟩, ⟨by repeat (first | (with_reducible first | exact HB.out | apply below_alloc | apply pw_below_drewN | apply below_drew1) | exact HB.out)⟩⟩
          · replace c15 := Bool.eq_false_iff.mpr c15
            subst c15
            have H1 : (if (t199 != false) = true then (decklelaw09_ShapeBack.j1 kj4 l0 l1 t195 t196 false true) else (if t199 = true then (if t203 = true then (if t202 = a2 then (decklelaw09_ShapeBack.j1 kj4 l0 l1 t195 t196 false ((t198.length : Int) != (l0.length : Int))) else (decklelaw09_ShapeBack.j1 kj4 l0 l1 t195 t196 false true)) else (decklelaw09_ShapeBack.j1 kj4 l0 l1 t195 t196 false true)) else (decklelaw09_ShapeBack.j1 kj4 l0 l1 t195 t196 false false))) = some r := by rw [if_neg (show ¬ (false = true) by decide)] at H; exact H
            clear H
            have H := H1
            clear H1
            by_cases c25 : (t199 != false) = true
            · rw [if_pos c25] at H
              have c25b0 : (t199 != false) = true := c25
              (try (have c25b1 : decide (t199 = false) = false := by simpa using c25))
              (try (have c25b2 : (t199 == false) = false := by simpa using c25))
              (try (have c25b3 : ¬ (t199 = false) := by simpa using c25))
              clear c25
              have H' := Aside0.mk H
              clear H
              go_wp2
              go_meet
              case rel => exact ⟨_, (true), (by first | rfl | (simp; done) | (simp [*]; done)), H', ⟨by have := HJ4.out; first | omega | exact Nat.le_refl _⟩, ⟨by repeat (first | (with_reducible first | exact HB.out | apply below_alloc | apply pw_below_drewN | apply below_drew1) | exact HB.out)⟩⟩
            · rw [if_neg c25] at H
              have c25b0 : (t199 != false) = false := by simpa using c25
              (try (have c25b1 : decide (t199 = false) = true := by simpa using c25))
              (try (have c25b2 : (t199 == false) = true := by simpa using c25))
              clear c25
              by_cases c26 : t199 = true
              · subst c26
                have H1 : (if t203 = true then (if t202 = a2 then (decklelaw09_ShapeBack.j1 kj4 l0 l1 t195 t196 false ((t198.length : Int) != (l0.length : Int))) else (decklelaw09_ShapeBack.j1 kj4 l0 l1 t195 t196 false true)) else (decklelaw09_ShapeBack.j1 kj4 l0 l1 t195 t196 false true)) = some r := by rw [if_pos rfl] at H; exact H
                clear H
                have H := H1
                clear H1
                by_cases c27 : t203 = true
                · subst c27
                  have H1 : (if t202 = a2 then (decklelaw09_ShapeBack.j1 kj4 l0 l1 t195 t196 false ((t198.length : Int) != (l0.length : Int))) else (decklelaw09_ShapeBack.j1 kj4 l0 l1 t195 t196 false true)) = some r := by rw [if_pos rfl] at H; exact H
                  clear H
                  have H := H1
                  clear H1
                  by_cases c28 : t202 = a2
                  · rw [if_pos c28] at H
                    have c28b0 : (t202 == a2) = true := beq_iff_eq.mpr c28
                    have c28b1 : (t202 != a2) = false := bne_eq_false_iff_eq.mpr c28
                    clear c28
                    have H' := Aside0.mk H
                    clear H
                    go_wp2
                    go_meet
                    case rel => exact ⟨_, (((t198.length : Int) != (l0.length : Int))), (by first | rfl | (simp; done) | (simp [*]; done)), H', ⟨by have := HJ4.out; first | omega | exact Nat.le_refl _⟩, ⟨by repeat (first | (with_reducible first | exact HB.out | apply below_alloc | apply pw_below_drewN | apply below_drew1) | exact HB.out)⟩⟩
                  · rw [if_neg c28] at H
                    have c28b0 : (t202 == a2) = false := beq_eq_false_iff_ne.mpr c28
                    have c28b1 : (t202 != a2) = true := bne_iff_ne.mpr c28
                    have H' := Aside0.mk H
                    clear H
                    go_wp2
                    go_meet
                    case rel => exact ⟨_, (true), (by first | rfl | (simp; done) | (simp [*]; done)), H', ⟨by have := HJ4.out; first | omega | exact Nat.le_refl _⟩, ⟨by repeat (first | (with_reducible first | exact HB.out | apply below_alloc | apply pw_below_drewN | apply below_drew1) | exact HB.out)⟩⟩
                · replace c27 := Bool.eq_false_iff.mpr c27
                  subst c27
                  have H1 : (decklelaw09_ShapeBack.j1 kj4 l0 l1 t195 t196 false true) = some r := by rw [if_neg (show ¬ (false = true) by decide)] at H; exact H
                  clear H
                  have H := H1
                  clear H1
                  have H' := Aside0.mk H
                  clear H
                  go_wp2
                  go_meet
                  case rel => exact ⟨_, (true), (by first | rfl | (simp; done) | (simp [*]; done)), H', ⟨by have := HJ4.out; first | omega | exact Nat.le_refl _⟩, ⟨by repeat (first | (with_reducible first | exact HB.out | apply below_alloc | apply pw_below_drewN | apply below_drew1) | exact HB.out)⟩⟩
              · replace c26 := Bool.eq_false_iff.mpr c26
                subst c26
                have H1 : (decklelaw09_ShapeBack.j1 kj4 l0 l1 t195 t196 false false) = some r := by rw [if_neg (show ¬ (false = true) by decide)] at H; exact H
                clear H
                have H := H1
                clear H1
                have H' := Aside0.mk H
                clear H
                go_wp2
                go_meet
                case rel => exact ⟨_, (false), (by first | rfl | (simp; done) | (simp [*]; done)), H', ⟨by have := HJ4.out; first | omega | exact Nat.le_refl _⟩, ⟨by repeat (first | (with_reducible first | exact HB.out | apply below_alloc | apply pw_below_drewN | apply below_drew1) | exact HB.out)⟩⟩
        case rest =>
          clear HC12
          try clear c1
          try clear c2
          try clear p2
          try clear c4
          try clear c7
          try clear c7b0
          try clear c7b1
          try clear c8
          try clear c9
          try clear c11
          try clear c13
          try clear c15
          try clear c16
          try clear c16b0
          try clear c17
          try clear c17b0
          try clear c17b1
          try clear c17b2
          try clear c18
          try clear c19
          try clear c20
          try clear c20b0
          try clear c20b1
          try clear c21
          try clear c21b0
          try clear c21b1
          try clear c21b2
          try clear c22
          try clear c23
          try clear c24
          try clear c24b0
          try clear c24b1
          try clear c25
          try clear c25b0
          try clear c25b1
          try clear c25b2
          try clear c26
          try clear c27
          try clear c28
          try clear c28b0
          try clear c28b1
          try clear p2
          obtain ⟨kq, x75_11, rfl, HA, HJ11, HB⟩ := hcut
          cases kq with
          | zero => exact absurd HA.out (by simp [decklelaw09_ShapeBack.j1])
          | succ kj11 =>
            have H := HA.out
            clear HA
            simp only [decklelaw09_ShapeBack.j1] at H
            by_cases c29 : x75_11 = true
            · subst c29
              have H1 : (none) = some r := by rw [if_pos rfl] at H; exact H
              clear H
              have H := H1
              clear H1
              exact absurd H (by simp)
            · replace c29 := Bool.eq_false_iff.mpr c29
              subst c29
              have H1 : ((shape_Place.f kj11 l0 l1).bind fun bt204 => ((shape_Index.f kj11 l0 bt204.1).bind fun bt206 => (if t195 = true then (if bt204.2 = true then (if t197 = true then (if bt204.1 ≥ 0 then (if bt204.1 < t196 then (if bt206.2 = true then ((deckleref01_Same.f kj11 bt206.1 l1).bind fun t210 => (some t210)) else (none)) else (none)) else (none)) else (none)) else (some true)) else (none)))) = some r := by rw [if_neg (show ¬ (false = true) by decide)] at H; exact H
              clear H
              have H := H1
              clear H1
              replace H := Option.bind_eq_some_iff.mp H
              obtain ⟨⟨t204, t205⟩, A300, H⟩ := H
              replace H : ((shape_Index.f kj11 l0 t204).bind fun bt206 => (if t195 = true then (if t205 = true then (if t197 = true then (if t204 ≥ 0 then (if t204 < t196 then (if bt206.2 = true then ((deckleref01_Same.f kj11 bt206.1 l1).bind fun t210 => (some t210)) else (none)) else (none)) else (none)) else (none)) else (some true)) else (none))) = some r := H
              have A30 := Aside0.mk A300
              clear A300
              replace H := Option.bind_eq_some_iff.mp H
              obtain ⟨⟨t206, t207⟩, A310, H⟩ := H
              replace H : (if t195 = true then (if t205 = true then (if t197 = true then (if t204 ≥ 0 then (if t204 < t196 then (if t207 = true then ((deckleref01_Same.f kj11 t206 l1).bind fun t210 => (some t210)) else (none)) else (none)) else (none)) else (none)) else (some true)) else (none)) = some r := H
              have A31 := Aside0.mk A310
              clear A310
              by_cases c32 : t195 = true
              · subst c32
                have H1 : (if t205 = true then (if t197 = true then (if t204 ≥ 0 then (if t204 < t196 then (if t207 = true then ((deckleref01_Same.f kj11 t206 l1).bind fun t210 => (some t210)) else (none)) else (none)) else (none)) else (none)) else (some true)) = some r := by rw [if_pos rfl] at H; exact H
                clear H
                have H := H1
                clear H1
                by_cases c33 : t205 = true
                · subst c33
                  have H1 : (if t197 = true then (if t204 ≥ 0 then (if t204 < t196 then (if t207 = true then ((deckleref01_Same.f kj11 t206 l1).bind fun t210 => (some t210)) else (none)) else (none)) else (none)) else (none)) = some r := by rw [if_pos rfl] at H; exact H
                  clear H
                  have H := H1
                  clear H1
                  by_cases c34 : t197 = true
                  · subst c34
                    have H1 : (if t204 ≥ 0 then (if t204 < t196 then (if t207 = true then ((deckleref01_Same.f kj11 t206 l1).bind fun t210 => (some t210)) else (none)) else (none)) else (none)) = some r := by rw [if_pos rfl] at H; exact H
                    clear H
                    have H := H1
                    clear H1
                    by_cases c35 : t204 ≥ 0
                    · rw [if_pos c35] at H
                      have c35b0 : decide (0 ≤ t204) = true := decide_eq_true c35
                      clear c35
                      by_cases c36 : t204 < t196
                      · rw [if_pos c36] at H
                        have c36b0 : decide (t204 < t196) = true := decide_eq_true c36
                        clear c36
                        by_cases c37 : t207 = true
                        · subst c37
                          have H1 : ((deckleref01_Same.f kj11 t206 l1).bind fun t210 => (some t210)) = some r := by rw [if_pos rfl] at H; exact H
                          clear H
                          have H := H1
                          clear H1
                          replace H := Option.bind_eq_some_iff.mp H
                          obtain ⟨t210, A380, H⟩ := H
                          replace H : (some t210) = some r := H
                          have A38 := Aside0.mk A380
                          clear A380
                          obtain rfl := Option.some.inj H
                          go_wp2_with (first | ((with_reducible refine gate_callee (f := 11) rfl ?_); refine goesL_ (some 79) rfl rfl Try.func11 (by kernel_rfl) rfl #[.slice A0 l0.length c0, .slice A1 l1.length c1] rfl (by (try simp only [List.map_toArray, List.map_cons, List.map_nil]); first | done | rfl | (simp only [List.length_drop, List.length_take]; rfl)) ?_; (with_reducible refine (shape_Place.calls kj11 _ _ l0 _ _ l1 t204 true _ ?side1 ?side2 ?side3 ?side4 A30.out).mono ?_); (case side1 => repeat (first | exact (Kd.C_below HR0.out HB.out) | (with_reducible refine Kd.C_alloc ?_ _) | (with_reducible refine Kd.C_drewN ?_ _) | (with_reducible refine Kd.C_drew ?_))); (case side2 => exact HC0.out); (case side3 => repeat (first | exact (Kd.C_below HR1.out HB.out) | (with_reducible refine Kd.C_alloc ?_ _) | (with_reducible refine Kd.C_drewN ?_ _) | (with_reducible refine Kd.C_drew ?_))); (case side4 => exact HC1.out); rintro e w' ⟨rfl, ⟨nd, rfl⟩⟩; refine ⟨_, rfl, ?_⟩) | ((with_reducible refine gate_callee (f := 13) rfl ?_); refine goesL_ (some 85) rfl rfl Try.func13 (by kernel_rfl) rfl #[.slice A0 l0.length c0, .int .i64 t204] rfl (by (try simp only [List.map_toArray, List.map_cons, List.map_nil]); first | done | rfl | (simp only [List.length_drop, List.length_take]; rfl)) ?_; (with_reducible refine (shape_Index.calls kj11 _ _ l0 t204 t206 true _ ?side1 ?side2 A31.out).mono ?_); (case side1 => repeat (first | exact (Kd.C_below HR0.out (by repeat (first | (with_reducible first | exact HB.out | apply below_alloc | apply pw_below_drewN | apply below_drew1) | exact HB.out))) | (with_reducible refine Kd.C_alloc ?_ _) | (with_reducible refine Kd.C_drewN ?_ _) | (with_reducible refine Kd.C_drew ?_))); (case side2 => exact HC0.out); rintro e w39 ⟨v208, rfl, ho0, hb⟩; refine ⟨_, rfl, ?_⟩; have n0_ := Aside0.mk (Kd.R_lower ho0 (below_size (by repeat (first | (with_reducible first | exact HB.out | apply below_alloc | apply pw_below_drewN | apply below_drew1) | exact HB.out)))); have n1_ := Aside0.mk (below_step (by repeat (first | (with_reducible first | exact HB.out | apply below_alloc | apply pw_below_drewN | apply below_drew1) | exact HB.out)) hb); clear HB; have HO209 := n0_; have HB := n1_; clear n0_ n1_; (try clear hb); (try clear hb2); (try clear hk); (try clear hi); (try clear ho0); obtain ⟨Ao40, co40, eo40⟩ := Kd.R_slice HO209.out; subst eo40) | (go_at_call 15; (with_reducible refine (deckleref01_Same.calls kj11 _ _ t206 _ _ l1 t210 _ ?side1 ?side2 ?side3 ?side4 A38.out).mono ?_); (case side1 => repeat (first | exact (Kd.R_reads' HO209.out).2.2 | (with_reducible refine Kd.C_alloc ?_ _) | (with_reducible refine Kd.C_drewN ?_ _) | (with_reducible refine Kd.C_drew ?_))); (case side2 => exact (Kd.R_reads' HO209.out).2.1); (case side3 => repeat (first | exact (Kd.C_below HR1.out HB.out) | (with_reducible refine Kd.C_alloc ?_ _) | (with_reducible refine Kd.C_drewN ?_ _) | (with_reducible refine Kd.C_drew ?_))); (case side4 => exact HC1.out); rintro e w' ⟨rfl, ⟨nd, rfl⟩⟩))
                          go_ret
                          exact ⟨by first | rfl | (simp [errW_none, errW_some] <;> rfl) | (simp [*, errW_none, errW_some] <;> rfl), by repeat (first | (with_reducible first | exact HB.out | apply below_alloc | apply pw_below_drewN | apply below_drew1) | exact HB.out)⟩
                        · replace c37 := Bool.eq_false_iff.mpr c37
                          subst c37
                          have H1 : (none) = some r := by rw [if_neg (show ¬ (false = true) by decide)] at H; exact H
                          clear H
                          have H := H1
                          clear H1
                          exact absurd H (by simp)
                      · rw [if_neg c36] at H
                        exact absurd H (by simp)
                    · rw [if_neg c35] at H
                      exact absurd H (by simp)
                  · replace c34 := Bool.eq_false_iff.mpr c34
                    subst c34
                    have H1 : (none) = some r := by rw [if_neg (show ¬ (false = true) by decide)] at H; exact H
                    clear H
                    have H := H1
                    clear H1
                    exact absurd H (by simp)
                · replace c33 := Bool.eq_false_iff.mpr c33
                  subst c33
                  have H1 : (some true) = some r := by rw [if_neg (show ¬ (false = true) by decide)] at H; exact H
                  clear H
                  have H := H1
                  clear H1
                  obtain rfl := Option.some.inj H
                  go_wp2_with (first | ((with_reducible refine gate_callee (f := 11) rfl ?_); refine goesL_ (some 79) rfl rfl Try.func11 (by kernel_rfl) rfl #[.slice A0 l0.length c0, .slice A1 l1.length c1] rfl (by (try simp only [List.map_toArray, List.map_cons, List.map_nil]); first | done | rfl | (simp only [List.length_drop, List.length_take]; rfl)) ?_; (with_reducible refine (shape_Place.calls kj11 _ _ l0 _ _ l1 t204 false _ ?side1 ?side2 ?side3 ?side4 A30.out).mono ?_); (case side1 => repeat (first | exact (Kd.C_below HR0.out HB.out) | (with_reducible refine Kd.C_alloc ?_ _) | (with_reducible refine Kd.C_drewN ?_ _) | (with_reducible refine Kd.C_drew ?_))); (case side2 => exact HC0.out); (case side3 => repeat (first | exact (Kd.C_below HR1.out HB.out) | (with_reducible refine Kd.C_alloc ?_ _) | (with_reducible refine Kd.C_drewN ?_ _) | (with_reducible refine Kd.C_drew ?_))); (case side4 => exact HC1.out); rintro e w' ⟨rfl, ⟨nd, rfl⟩⟩; refine ⟨_, rfl, ?_⟩) | ((with_reducible refine gate_callee (f := 13) rfl ?_); refine goesL_ (some 85) rfl rfl Try.func13 (by kernel_rfl) rfl #[.slice A0 l0.length c0, .int .i64 t204] rfl (by (try simp only [List.map_toArray, List.map_cons, List.map_nil]); first | done | rfl | (simp only [List.length_drop, List.length_take]; rfl)) ?_; (with_reducible refine (shape_Index.calls kj11 _ _ l0 t204 t206 t207 _ ?side1 ?side2 A31.out).mono ?_); (case side1 => repeat (first | exact (Kd.C_below HR0.out (by repeat (first | (with_reducible first | exact HB.out | apply below_alloc | apply pw_below_drewN | apply below_drew1) | exact HB.out))) | (with_reducible refine Kd.C_alloc ?_ _) | (with_reducible refine Kd.C_drewN ?_ _) | (with_reducible refine Kd.C_drew ?_))); (case side2 => exact HC0.out); rintro e w41 ⟨v208, rfl, ho0, hb⟩; refine ⟨_, rfl, ?_⟩; have n0_ := Aside0.mk (Kd.R_lower ho0 (below_size (by repeat (first | (with_reducible first | exact HB.out | apply below_alloc | apply pw_below_drewN | apply below_drew1) | exact HB.out)))); have n1_ := Aside0.mk (below_step (by repeat (first | (with_reducible first | exact HB.out | apply below_alloc | apply pw_below_drewN | apply below_drew1) | exact HB.out)) hb); clear HB; have HO209 := n0_; have HB := n1_; clear n0_ n1_; (try clear hb); (try clear hb2); (try clear hk); (try clear hi); (try clear ho0)))
                  go_ret
                  exact ⟨by first | rfl | (simp [errW_none, errW_some] <;> rfl) | (simp [*, errW_none, errW_some] <;> rfl), by repeat (first | (with_reducible first | exact HB.out | apply below_alloc | apply pw_below_drewN | apply below_drew1) | exact HB.out)⟩
              · replace c32 := Bool.eq_false_iff.mpr c32
                subst c32
                have H1 : (none) = some r := by rw [if_neg (show ¬ (false = true) by decide)] at H; exact H
                clear H
                have H := H1
                clear H1
                exact absurd H (by simp)

/-- THE ONE PURE STATEMENT of decklelaw09_ShapeBack: yours. -/
def decklelaw09_ShapeBack.Pure : Prop := ∀ (l0 : List Int) (l1 : List Int) (a2 : Int), l0.length ≤ maxLen → l0.length * 8 ≤ 140737488351232 → (∀ x ∈ l0, (Lit.int .i64 x).wf = true) → l1.length ≤ maxLen → l1.length * 8 ≤ 140737488351232 → (∀ x ∈ l1, (Lit.int .i64 x).wf = true) → (Lit.int .i64 a2).wf = true → ∃ k, decklelaw09_ShapeBack.f k l0 l1 a2 = some true
theorem decklelaw09_ShapeBack.walk (P : decklelaw09_ShapeBack.Pure) (a0 : Option Addr) (len0 cap0 : Nat) (z0 : List Int) (a1 : Option Addr) (len1 cap1 : Nat) (z1 : List Int) (a2 : Int) (w : World) (w0 : (a0 = none ∧ len0 = 0 ∧ cap0 = 0 ∧ z0 = []) ∨ ∃ x, a0 = some x ∧ len0 ≤ cap0 ∧ cap0 ≤ maxLen ∧ z0.length = cap0 ∧ (∀ i, i < z0.length → w.cell? (x.add i) = some (.int .i64 (z0.getD i 0))) ∧ ∀ n ∈ z0, (Lit.int .i64 n).wf = true) (y0 : len0 * 8 ≤ 140737488351232) (w1 : (a1 = none ∧ len1 = 0 ∧ cap1 = 0 ∧ z1 = []) ∨ ∃ x, a1 = some x ∧ len1 ≤ cap1 ∧ cap1 ≤ maxLen ∧ z1.length = cap1 ∧ (∀ i, i < z1.length → w.cell? (x.add i) = some (.int .i64 (z1.getD i 0))) ∧ ∀ n ∈ z1, (Lit.int .i64 n).wf = true) (y1 : len1 * 8 ≤ 140737488351232) (w2 : (Lit.int .i64 a2).wf = true) :
    Calls Try.prog 4 #[.slice a0 len0 cap0, .slice a1 len1 cap1, .int .i64 a2] w fun e w' => e = .returned (.bool true) ∧ Below w.heap.size w w' := by
  obtain ⟨l0, rfl, hr0, hm0, hw0, hc0⟩ := ReadsInt.ofRowC w0
  obtain ⟨l1, rfl, hr1, hm1, hw1, hc1⟩ := ReadsInt.ofRowC w1
  obtain ⟨k, h⟩ := P l0 l1 a2 hm0 y0 hw0 hm1 y1 hw1 w2
  refine (decklelaw09_ShapeBack.calls k _ _ l0 _ _ l1 a2 true w (Kd.C_of_reads (d := (0 : Int)) (h1 := fun _ => rfl) hr0) hc0 (Kd.C_of_reads (d := (0 : Int)) (h1 := fun _ => rfl) hr1) hc1 h).mono ?_
  rintro e w' ⟨rfl, hd⟩
  exact ⟨rfl, hd⟩

end Go.Proofs.Ytngpdacbmkfbcaa.HShapeBack
