-- Written by the session's program hy.py.
import Derived.Test.YtgbmbcippldhnaaHArrayDeepx0
import Derived.Test.YtgbmbcippldhnaaHArrayDeepx6
import Derived.Test.YtgbmbcippldhnaaHArrayDeepx8
import Derived.Test.YtgbmbcippldhnaaHArrayDeepx9
namespace Go.Proofs.Ytgbmbcippldhnaa.HArrayDeep
open Go.RowKit Go.Proofs.YtgbmbcippldhnaaW.PrintWords Go.Proofs.YtgbmbcippldhnaaW.PrintLast Go.Proofs.YtgbmbcippldhnaaW.PrintMore
attribute [local go_sem] max2_int min2_int max_two min_two max_three min_three max_four min_four   -- for this text's walks alone
set_option linter.unusedVariables false
set_option linter.unusedSimpArgs false

/-! ### decklelaw10_Few: function 9 -/
mutual
def decklelaw10_Few.l0 : Nat → List (S32) → Int → Int → Option (Bool)
  | 0, _, _, _ => none
  | k + 1, x0, x3, x4 => if x4 < (x0.length : Int) then (decklelaw10_Few.j1 k x0 x3 x4 (decide (x4 < 200))) else (decklelaw10_Few.j1 k x0 x3 x4 false)
def decklelaw10_Few.j1 : Nat → List (S32) → Int → Int → Bool → Option (Bool)
  | 0, _, _, _, _ => none
  | k + 1, x0, x3, x4, x12 => if x12 = true then (if 0 ≤ x4 then (if x4 < (x0.length : Int) then (if (((rd_T32 x0 x4).f1).length : Int) > 30 then (some false) else (if (((rd_T32 x0 x4).f2).length : Int) > 300 then (some false) else (if (((rd_T32 x0 x4).f3).length : Int) > 300 then (some false) else (decklelaw10_Few.l0 k x0 (wrap64 ((wrap64 (x3 + (((rd_T32 x0 x4).f2).length : Int))) + (((rd_T32 x0 x4).f3).length : Int))) (wrap64 (x4 + 1)))))) else (none)) else (none)) else (if (x0.length : Int) ≤ 100 then (some (decide (x3 ≤ 1000))) else (some false))
end
def decklelaw10_Few.f (k : Nat) (l0 : List (S32)) : Option (Bool) := decklelaw10_Few.l0 k l0 0 0
theorem decklelaw10_Few.mono_l : ∀ k, (∀ y0 y1 y2, LeO (decklelaw10_Few.l0 k y0 y1 y2) (decklelaw10_Few.l0 (k + 1) y0 y1 y2)) ∧ (∀ y0 y1 y2 y3, LeO (decklelaw10_Few.j1 k y0 y1 y2 y3) (decklelaw10_Few.j1 (k + 1) y0 y1 y2 y3))
  | 0 => ⟨fun _ _ _ r h => by simp [decklelaw10_Few.l0] at h, fun _ _ _ _ r h => by simp [decklelaw10_Few.j1] at h⟩
  | k + 1 => by
    obtain ⟨ih0, ih1⟩ := decklelaw10_Few.mono_l k
    refine ⟨?_, ?_⟩
    · intro y0 y1 y2
      unfold decklelaw10_Few.l0
      repeat' first
      | (with_reducible exact ih0 _ _ _)
      | (with_reducible exact ih1 _ _ _ _)
      | (with_reducible exact LeO.refl _)
      | (with_reducible exact LeO.none _)
      | (with_reducible refine LeO.ite ?_ ?_)
      | (with_reducible refine LeO.bind ?_ (fun _ => ?_))
      | exact ih0 _ _ _
      | exact ih1 _ _ _ _
      | exact LeO.none _
      | refine LeO.ite ?_ ?_
      | refine LeO.bind ?_ (fun _ => ?_)
    · intro y0 y1 y2 y3
      unfold decklelaw10_Few.j1
      repeat' first
      | (with_reducible exact ih0 _ _ _)
      | (with_reducible exact ih1 _ _ _ _)
      | (with_reducible exact LeO.refl _)
      | (with_reducible exact LeO.none _)
      | (with_reducible refine LeO.ite ?_ ?_)
      | (with_reducible refine LeO.bind ?_ (fun _ => ?_))
      | exact ih0 _ _ _
      | exact ih1 _ _ _ _
      | exact LeO.none _
      | refine LeO.ite ?_ ?_
      | refine LeO.bind ?_ (fun _ => ?_)
theorem decklelaw10_Few.mono : ∀ a0 k, LeO (decklelaw10_Few.f k a0) (decklelaw10_Few.f (k + 1) a0) := by
  intro a0 k
  obtain ⟨ih0, ih1⟩ := decklelaw10_Few.mono_l k
  unfold decklelaw10_Few.f
  repeat' first
      | (with_reducible exact ih0 _ _ _)
      | (with_reducible exact ih1 _ _ _ _)
      | (with_reducible exact LeO.refl _)
      | (with_reducible exact LeO.none _)
      | (with_reducible refine LeO.ite ?_ ?_)
      | (with_reducible refine LeO.bind ?_ (fun _ => ?_))
      | exact ih0 _ _ _
      | exact ih1 _ _ _ _
      | exact LeO.none _
      | refine LeO.ite ?_ ?_
      | refine LeO.bind ?_ (fun _ => ?_)
set_option maxHeartbeats 8000000 in
set_option maxRecDepth 100000 in
theorem decklelaw10_Few.calls (k : Nat) (A0 : Option Addr) (c0 : Nat) (l0 : List (S32)) (r : Bool) (w : World) (hr0 : Kd.C k32 w A0 l0.length l0) (hc0 : l0.length ≤ c0) (h : decklelaw10_Few.f k l0 = some r) :
    Calls Try.prog 9 #[.slice A0 l0.length c0] w fun e w' => e = .returned (.bool r) ∧ Drawn0 w w' := by
  have HR0 := Aside0.mk hr0
  have HC0 := Aside0.mk hc0
  clear hr0 hc0
  have H : (decklelaw10_Few.l0 k l0 0 0) = some r := h
  clear h
  have H' := Aside0.mk H
  clear H
  go_enter Try.func9, Try.ntmps9
  go_wp2
  repeat (go_quiet (fail); try go_wp2)
  go_loopg [3, 4] k (fun kq v3 v4 w' => ∃ (x3_1 : Int) (x4_1 : Int), v3 = .int .i64 x3_1 ∧ v4 = .int .i64 x4_1 ∧ Aside0 (decklelaw10_Few.l0 kq l0 x3_1 x4_1 = some r) ∧ Aside0 (kq ≤ k) ∧ Drawn0 w w')
  case atStart => exact ⟨(0), (0), (by first | rfl | (simp; done) | (simp [*]; done)), (by first | rfl | (simp; done) | (simp [*]; done)), H', ⟨Nat.le_refl _⟩, by repeat (first | exact Drawn0.refl _ | apply Drawn0.step)⟩
  case round =>
    clear H'
    obtain ⟨x3_1, x4_1, rfl, rfl, HA, HK1, ⟨m1, rfl⟩⟩ := hrel
    cases gk with
    | zero => exact absurd HA.out (by simp [decklelaw10_Few.l0])
    | succ k1 =>
      have H := HA.out
      clear HA
      simp only [decklelaw10_Few.l0] at H
      have HC2 := Aside0.mk H
      clear H
      go_upto_region 3 with (fail)
      repeat (go_quiet (fail); go_upto_region 3 with (fail))
      go_cut [12] (fun v12 wc => ∃ (kq : Nat) (x12_1 : Bool), v12 = .bool x12_1 ∧ Aside0 (decklelaw10_Few.j1 kq l0 x3_1 x4_1 x12_1 = some r) ∧ Aside0 (kq ≤ k1) ∧ Drawn0 w wc)
      case first =>
        have H := HC2.out
        clear HC2
        by_cases c3 : x4_1 < (l0.length : Int)
        rotate_left
        · rw [if_neg c3] at H
          have c3b0 : decide (x4_1 < (l0.length : Int)) = false := decide_eq_false c3
          clear c3
          (first | rw [c3b0] | (simp only [i64_w, i32_w]; rw [c3b0]) | skip)
          have H' := Aside0.mk H
          clear H
          go_wp2
          repeat (go_quiet (fail); try go_wp2)
          go_meet
          case rel => exact ⟨_, (false), (by first | rfl | (simp; done) | (simp [*]; done)), H', ⟨by have := HK1.out; first | omega | exact Nat.le_refl _⟩, by repeat (first | exact Drawn0.refl _ | apply Drawn0.step)⟩
        rw [if_pos c3] at H
        have c3b0 : decide (x4_1 < (l0.length : Int)) = true := decide_eq_true c3
        clear c3
        (first | rw [c3b0] | (simp only [i64_w, i32_w]; rw [c3b0]) | skip)
        have H' := Aside0.mk H
        clear H
        go_wp2
        repeat (go_quiet (fail); try go_wp2)
        go_meet
        case rel => exact ⟨_, (decide (x4_1 < 200)), (by first | rfl | (simp; done) | (simp [*]; done)), H', ⟨by have := HK1.out; first | omega | exact Nat.le_refl _⟩, by repeat (first | exact Drawn0.refl _ | apply Drawn0.step)⟩
      case rest =>
        clear HC2
        try clear p2
        try clear c3
        try clear c3b0
        obtain ⟨kq, x12_1, rfl, HA, HJ1, ⟨mc1, rfl⟩⟩ := hcut
        cases kq with
        | zero => exact absurd HA.out (by simp [decklelaw10_Few.j1])
        | succ kj1 =>
          have H := HA.out
          clear HA
          simp only [decklelaw10_Few.j1] at H
          by_cases c4 : x12_1 = true
          rotate_left
          · replace c4 := Bool.eq_false_iff.mpr c4
            subst c4
            have H1 : (if (l0.length : Int) ≤ 100 then (some (decide (x3_1 ≤ 1000))) else (some false)) = some r := by rw [if_neg (show ¬ (false = true) by decide)] at H; exact H
            clear H
            have H := H1
            clear H1
            by_cases c10 : (l0.length : Int) ≤ 100
            · rw [if_pos c10] at H
              have c10b0 : decide ((l0.length : Int) ≤ 100) = true := decide_eq_true c10
              have c10b1 : decide (l0.length ≤ 100) = true := decide_eq_true (by omega)
              clear c10
              obtain rfl := Option.some.inj H
              go_wp2
              repeat (go_quiet (fail); try go_wp2)
              go_ret
              exact ⟨by first | rfl | (simp; done) | (simp [*]; done), by repeat (first | exact Drawn0.refl _ | apply Drawn0.step)⟩
            · rw [if_neg c10] at H
              have c10b0 : decide ((l0.length : Int) ≤ 100) = false := decide_eq_false c10
              have c10b1 : decide (l0.length ≤ 100) = false := decide_eq_false (by omega)
              clear c10
              obtain rfl := Option.some.inj H
              go_wp2
              repeat (go_quiet (fail); try go_wp2)
              go_ret
              exact ⟨by first | rfl | (simp; done) | (simp [*]; done), by repeat (first | exact Drawn0.refl _ | apply Drawn0.step)⟩
          subst c4
          have H1 : (if 0 ≤ x4_1 then (if x4_1 < (l0.length : Int) then (if (((rd_T32 l0 x4_1).f1).length : Int) > 30 then (some false) else (if (((rd_T32 l0 x4_1).f2).length : Int) > 300 then (some false) else (if (((rd_T32 l0 x4_1).f3).length : Int) > 300 then (some false) else (decklelaw10_Few.l0 kj1 l0 (wrap64 ((wrap64 (x3_1 + (((rd_T32 l0 x4_1).f2).length : Int))) + (((rd_T32 l0 x4_1).f3).length : Int))) (wrap64 (x4_1 + 1)))))) else (none)) else (none)) = some r := by rw [if_pos rfl] at H; exact H
          clear H
          have H := H1
          clear H1
          by_cases c5 : 0 ≤ x4_1
          rotate_left
          · rw [if_neg c5] at H
            exact absurd H (by simp)
          rw [if_pos c5] at H
          have c5b0 : decide (0 ≤ x4_1) = true := decide_eq_true c5
          clear c5
          by_cases c6 : x4_1 < (l0.length : Int)
          rotate_left
          · rw [if_neg c6] at H
            exact absurd H (by simp)
          rw [if_pos c6] at H
          have c6b0 : decide (x4_1 < (l0.length : Int)) = true := decide_eq_true c6
          clear c6
          by_cases c7 : (((rd_T32 l0 x4_1).f1).length : Int) > 30
          · rw [if_pos c7] at H
            have c7b0 : decide (30 < (((rd_T32 l0 x4_1).f1).length : Int)) = true := decide_eq_true c7
            have c7b1 : decide (30 < ((rd_T32 l0 x4_1).f1).length) = true := decide_eq_true (by omega)
            clear c7
            obtain rfl := Option.some.inj H
            have p350 : 0 ≤ (x4_1 : Int) := of_decide_eq_true (by first | (with_reducible assumption) | assumption)
            have q350 : x4_1 < (l0.length : Int) := of_decide_eq_true (by first | (with_reducible assumption) | assumption)
            obtain ⟨ad350, A350_1, c350_1, A350_2, c350_2, A350_3, c350_3, e350, hx350_0, hx350_1, hx350_2, hx350_3, hl350_1, hi350_1, hl350_2, hi350_2, hl350_3, hi350_3⟩ := at_T32 HR0.out x4_1 p350 q350
            cases e350
            have HR350_1 := Aside0.mk hi350_1
            have HC350_1 := Aside0.mk hl350_1
            clear hi350_1 hl350_1
            have HR350_2 := Aside0.mk hi350_2
            have HC350_2 := Aside0.mk hl350_2
            clear hi350_2 hl350_2
            have HR350_3 := Aside0.mk hi350_3
            have HC350_3 := Aside0.mk hl350_3
            clear hi350_3 hl350_3
            replace p350 := eq_true p350
            replace q350 := eq_true q350
            go_wp2
            repeat (go_quiet (fail); try go_wp2)
            go_ret
            exact ⟨by first | rfl | (simp; done) | (simp [*]; done), by repeat (first | exact Drawn0.refl _ | apply Drawn0.step)⟩
          rw [if_neg c7] at H
          have c7b0 : decide (30 < (((rd_T32 l0 x4_1).f1).length : Int)) = false := decide_eq_false c7
          have c7b1 : decide (30 < ((rd_T32 l0 x4_1).f1).length) = false := decide_eq_false (by omega)
          clear c7
          by_cases c8 : (((rd_T32 l0 x4_1).f2).length : Int) > 300
          · rw [if_pos c8] at H
            have c8b0 : decide (300 < (((rd_T32 l0 x4_1).f2).length : Int)) = true := decide_eq_true c8
            have c8b1 : decide (300 < ((rd_T32 l0 x4_1).f2).length) = true := decide_eq_true (by omega)
            clear c8
            obtain rfl := Option.some.inj H
            have p350 : 0 ≤ (x4_1 : Int) := of_decide_eq_true (by first | (with_reducible assumption) | assumption)
            have q350 : x4_1 < (l0.length : Int) := of_decide_eq_true (by first | (with_reducible assumption) | assumption)
            obtain ⟨ad350, A350_1, c350_1, A350_2, c350_2, A350_3, c350_3, e350, hx350_0, hx350_1, hx350_2, hx350_3, hl350_1, hi350_1, hl350_2, hi350_2, hl350_3, hi350_3⟩ := at_T32 HR0.out x4_1 p350 q350
            cases e350
            have HR350_1 := Aside0.mk hi350_1
            have HC350_1 := Aside0.mk hl350_1
            clear hi350_1 hl350_1
            have HR350_2 := Aside0.mk hi350_2
            have HC350_2 := Aside0.mk hl350_2
            clear hi350_2 hl350_2
            have HR350_3 := Aside0.mk hi350_3
            have HC350_3 := Aside0.mk hl350_3
            clear hi350_3 hl350_3
            replace p350 := eq_true p350
            replace q350 := eq_true q350
            have p351 : 0 ≤ (x4_1 : Int) := of_decide_eq_true (by first | (with_reducible assumption) | assumption)
            have q351 : x4_1 < (l0.length : Int) := of_decide_eq_true (by first | (with_reducible assumption) | assumption)
            obtain ⟨ad351, A351_1, c351_1, A351_2, c351_2, A351_3, c351_3, e351, hx351_0, hx351_1, hx351_2, hx351_3, hl351_1, hi351_1, hl351_2, hi351_2, hl351_3, hi351_3⟩ := at_T32 HR0.out x4_1 p351 q351
            obtain rfl : ad350 = ad351 := (by injection e351)
            have HR351_1 := Aside0.mk hi351_1
            have HC351_1 := Aside0.mk hl351_1
            clear hi351_1 hl351_1
            have HR351_2 := Aside0.mk hi351_2
            have HC351_2 := Aside0.mk hl351_2
            clear hi351_2 hl351_2
            have HR351_3 := Aside0.mk hi351_3
            have HC351_3 := Aside0.mk hl351_3
            clear hi351_3 hl351_3
            replace p351 := eq_true p351
            replace q351 := eq_true q351
            have ea_ := Option.some.inj (hx350_1.symm.trans hx351_1)
            injection ea_ with ea_ en_ ec_
            subst ea_
            subst ec_
            clear en_
            have ea_ := Option.some.inj (hx350_2.symm.trans hx351_2)
            injection ea_ with ea_ en_ ec_
            subst ea_
            subst ec_
            clear en_
            have ea_ := Option.some.inj (hx350_3.symm.trans hx351_3)
            injection ea_ with ea_ en_ ec_
            subst ea_
            subst ec_
            clear en_
            go_wp2
            repeat (go_quiet (fail); try go_wp2)
            go_ret
            exact ⟨by first | rfl | (simp; done) | (simp [*]; done), by repeat (first | exact Drawn0.refl _ | apply Drawn0.step)⟩
          rw [if_neg c8] at H
          have c8b0 : decide (300 < (((rd_T32 l0 x4_1).f2).length : Int)) = false := decide_eq_false c8
          have c8b1 : decide (300 < ((rd_T32 l0 x4_1).f2).length) = false := decide_eq_false (by omega)
          clear c8
          by_cases c9 : (((rd_T32 l0 x4_1).f3).length : Int) > 300
          · rw [if_pos c9] at H
            have c9b0 : decide (300 < (((rd_T32 l0 x4_1).f3).length : Int)) = true := decide_eq_true c9
            have c9b1 : decide (300 < ((rd_T32 l0 x4_1).f3).length) = true := decide_eq_true (by omega)
            clear c9
            obtain rfl := Option.some.inj H
            have p350 : 0 ≤ (x4_1 : Int) := of_decide_eq_true (by first | (with_reducible assumption) | assumption)
            have q350 : x4_1 < (l0.length : Int) := of_decide_eq_true (by first | (with_reducible assumption) | assumption)
            obtain ⟨ad350, A350_1, c350_1, A350_2, c350_2, A350_3, c350_3, e350, hx350_0, hx350_1, hx350_2, hx350_3, hl350_1, hi350_1, hl350_2, hi350_2, hl350_3, hi350_3⟩ := at_T32 HR0.out x4_1 p350 q350
            cases e350
            have HR350_1 := Aside0.mk hi350_1
            have HC350_1 := Aside0.mk hl350_1
            clear hi350_1 hl350_1
            have HR350_2 := Aside0.mk hi350_2
            have HC350_2 := Aside0.mk hl350_2
            clear hi350_2 hl350_2
            have HR350_3 := Aside0.mk hi350_3
            have HC350_3 := Aside0.mk hl350_3
            clear hi350_3 hl350_3
            replace p350 := eq_true p350
            replace q350 := eq_true q350
            have p351 : 0 ≤ (x4_1 : Int) := of_decide_eq_true (by first | (with_reducible assumption) | assumption)
            have q351 : x4_1 < (l0.length : Int) := of_decide_eq_true (by first | (with_reducible assumption) | assumption)
            obtain ⟨ad351, A351_1, c351_1, A351_2, c351_2, A351_3, c351_3, e351, hx351_0, hx351_1, hx351_2, hx351_3, hl351_1, hi351_1, hl351_2, hi351_2, hl351_3, hi351_3⟩ := at_T32 HR0.out x4_1 p351 q351
            obtain rfl : ad350 = ad351 := (by injection e351)
            have HR351_1 := Aside0.mk hi351_1
            have HC351_1 := Aside0.mk hl351_1
            clear hi351_1 hl351_1
            have HR351_2 := Aside0.mk hi351_2
            have HC351_2 := Aside0.mk hl351_2
            clear hi351_2 hl351_2
            have HR351_3 := Aside0.mk hi351_3
            have HC351_3 := Aside0.mk hl351_3
            clear hi351_3 hl351_3
            replace p351 := eq_true p351
            replace q351 := eq_true q351
            have ea_ := Option.some.inj (hx350_1.symm.trans hx351_1)
            injection ea_ with ea_ en_ ec_
            subst ea_
            subst ec_
            clear en_
            have ea_ := Option.some.inj (hx350_2.symm.trans hx351_2)
            injection ea_ with ea_ en_ ec_
            subst ea_
            subst ec_
            clear en_
            have ea_ := Option.some.inj (hx350_3.symm.trans hx351_3)
            injection ea_ with ea_ en_ ec_
            subst ea_
            subst ec_
            clear en_
            have p352 : 0 ≤ (x4_1 : Int) := of_decide_eq_true (by first | (with_reducible assumption) | assumption)
            have q352 : x4_1 < (l0.length : Int) := of_decide_eq_true (by first | (with_reducible assumption) | assumption)
            obtain ⟨ad352, A352_1, c352_1, A352_2, c352_2, A352_3, c352_3, e352, hx352_0, hx352_1, hx352_2, hx352_3, hl352_1, hi352_1, hl352_2, hi352_2, hl352_3, hi352_3⟩ := at_T32 HR0.out x4_1 p352 q352
            obtain rfl : ad350 = ad352 := (by injection e352)
            have HR352_1 := Aside0.mk hi352_1
            have HC352_1 := Aside0.mk hl352_1
            clear hi352_1 hl352_1
            have HR352_2 := Aside0.mk hi352_2
            have HC352_2 := Aside0.mk hl352_2
            clear hi352_2 hl352_2
            have HR352_3 := Aside0.mk hi352_3
            have HC352_3 := Aside0.mk hl352_3
            clear hi352_3 hl352_3
            replace p352 := eq_true p352
            replace q352 := eq_true q352
            have ea_ := Option.some.inj (hx350_1.symm.trans hx352_1)
            injection ea_ with ea_ en_ ec_
            subst ea_
            subst ec_
            clear en_
            have ea_ := Option.some.inj (hx350_2.symm.trans hx352_2)
            injection ea_ with ea_ en_ ec_
            subst ea_
            subst ec_
            clear en_
            have ea_ := Option.some.inj (hx350_3.symm.trans hx352_3)
            injection ea_ with ea_ en_ ec_
            subst ea_
            subst ec_
            clear en_
            go_wp2
            repeat (go_quiet (fail); try go_wp2)
            go_ret
            exact ⟨by first | rfl | (simp; done) | (simp [*]; done), by repeat (first | exact Drawn0.refl _ | apply Drawn0.step)⟩
          rw [if_neg c9] at H
          have c9b0 : decide (300 < (((rd_T32 l0 x4_1).f3).length : Int)) = false := decide_eq_false c9
          have c9b1 : decide (300 < ((rd_T32 l0 x4_1).f3).length) = false := decide_eq_false (by omega)
          clear c9
          have H' := Aside0.mk H
          clear H
          have p350 : 0 ≤ (x4_1 : Int) := of_decide_eq_true (by first | (with_reducible assumption) | assumption)
          have q350 : x4_1 < (l0.length : Int) := of_decide_eq_true (by first | (with_reducible assumption) | assumption)
          obtain ⟨ad350, A350_1, c350_1, A350_2, c350_2, A350_3, c350_3, e350, hx350_0, hx350_1, hx350_2, hx350_3, hl350_1, hi350_1, hl350_2, hi350_2, hl350_3, hi350_3⟩ := at_T32 HR0.out x4_1 p350 q350
          cases e350
          have HR350_1 := Aside0.mk hi350_1
          have HC350_1 := Aside0.mk hl350_1
          clear hi350_1 hl350_1
          have HR350_2 := Aside0.mk hi350_2
          have HC350_2 := Aside0.mk hl350_2
          clear hi350_2 hl350_2
          have HR350_3 := Aside0.mk hi350_3
          have HC350_3 := Aside0.mk hl350_3
          clear hi350_3 hl350_3
          replace p350 := eq_true p350
          replace q350 := eq_true q350
          have p351 : 0 ≤ (x4_1 : Int) := of_decide_eq_true (by first | (with_reducible assumption) | assumption)
          have q351 : x4_1 < (l0.length : Int) := of_decide_eq_true (by first | (with_reducible assumption) | assumption)
          obtain ⟨ad351, A351_1, c351_1, A351_2, c351_2, A351_3, c351_3, e351, hx351_0, hx351_1, hx351_2, hx351_3, hl351_1, hi351_1, hl351_2, hi351_2, hl351_3, hi351_3⟩ := at_T32 HR0.out x4_1 p351 q351
          obtain rfl : ad350 = ad351 := (by injection e351)
          have HR351_1 := Aside0.mk hi351_1
          have HC351_1 := Aside0.mk hl351_1
          clear hi351_1 hl351_1
          have HR351_2 := Aside0.mk hi351_2
          have HC351_2 := Aside0.mk hl351_2
          clear hi351_2 hl351_2
          have HR351_3 := Aside0.mk hi351_3
          have HC351_3 := Aside0.mk hl351_3
          clear hi351_3 hl351_3
          replace p351 := eq_true p351
          replace q351 := eq_true q351
          have ea_ := Option.some.inj (hx350_1.symm.trans hx351_1)
          injection ea_ with ea_ en_ ec_
          subst ea_
          subst ec_
          clear en_
          have ea_ := Option.some.inj (hx350_2.symm.trans hx351_2)
          injection ea_ with ea_ en_ ec_
          subst ea_
          subst ec_
          clear en_
          have ea_ := Option.some.inj (hx350_3.symm.trans hx351_3)
          injection ea_ with ea_ en_ ec_
          subst ea_
          subst ec_
          clear en_
          have p352 : 0 ≤ (x4_1 : Int) := of_decide_eq_true (by first | (with_reducible assumption) | assumption)
          have q352 : x4_1 < (l0.length : Int) := of_decide_eq_true (by first | (with_reducible assumption) | assumption)
          obtain ⟨ad352, A352_1, c352_1, A352_2, c352_2, A352_3, c352_3, e352, hx352_0, hx352_1, hx352_2, hx352_3, hl352_1, hi352_1, hl352_2, hi352_2, hl352_3, hi352_3⟩ := at_T32 HR0.out x4_1 p352 q352
          obtain rfl : ad350 = ad352 := (by injection e352)
          have HR352_1 := Aside0.mk hi352_1
          have HC352_1 := Aside0.mk hl352_1
          clear hi352_1 hl352_1
          have HR352_2 := Aside0.mk hi352_2
          have HC352_2 := Aside0.mk hl352_2
          clear hi352_2 hl352_2
          have HR352_3 := Aside0.mk hi352_3
          have HC352_3 := Aside0.mk hl352_3
          clear hi352_3 hl352_3
          replace p352 := eq_true p352
          replace q352 := eq_true q352
          have ea_ := Option.some.inj (hx350_1.symm.trans hx352_1)
          injection ea_ with ea_ en_ ec_
          subst ea_
          subst ec_
          clear en_
          have ea_ := Option.some.inj (hx350_2.symm.trans hx352_2)
          injection ea_ with ea_ en_ ec_
          subst ea_
          subst ec_
          clear en_
          have ea_ := Option.some.inj (hx350_3.symm.trans hx352_3)
          injection ea_ with ea_ en_ ec_
          subst ea_
          subst ec_
          clear en_
          have p353 : 0 ≤ (x4_1 : Int) := of_decide_eq_true (by first | (with_reducible assumption) | assumption)
          have q353 : x4_1 < (l0.length : Int) := of_decide_eq_true (by first | (with_reducible assumption) | assumption)
          obtain ⟨ad353, A353_1, c353_1, A353_2, c353_2, A353_3, c353_3, e353, hx353_0, hx353_1, hx353_2, hx353_3, hl353_1, hi353_1, hl353_2, hi353_2, hl353_3, hi353_3⟩ := at_T32 HR0.out x4_1 p353 q353
          obtain rfl : ad350 = ad353 := (by injection e353)
          have HR353_1 := Aside0.mk hi353_1
          have HC353_1 := Aside0.mk hl353_1
          clear hi353_1 hl353_1
          have HR353_2 := Aside0.mk hi353_2
          have HC353_2 := Aside0.mk hl353_2
          clear hi353_2 hl353_2
          have HR353_3 := Aside0.mk hi353_3
          have HC353_3 := Aside0.mk hl353_3
          clear hi353_3 hl353_3
          replace p353 := eq_true p353
          replace q353 := eq_true q353
          have ea_ := Option.some.inj (hx350_1.symm.trans hx353_1)
          injection ea_ with ea_ en_ ec_
          subst ea_
          subst ec_
          clear en_
          have ea_ := Option.some.inj (hx350_2.symm.trans hx353_2)
          injection ea_ with ea_ en_ ec_
          subst ea_
          subst ec_
          clear en_
          have ea_ := Option.some.inj (hx350_3.symm.trans hx353_3)
          injection ea_ with ea_ en_ ec_
          subst ea_
          subst ec_
          clear en_
          have p354 : 0 ≤ (x4_1 : Int) := of_decide_eq_true (by first | (with_reducible assumption) | assumption)
          have q354 : x4_1 < (l0.length : Int) := of_decide_eq_true (by first | (with_reducible assumption) | assumption)
          obtain ⟨ad354, A354_1, c354_1, A354_2, c354_2, A354_3, c354_3, e354, hx354_0, hx354_1, hx354_2, hx354_3, hl354_1, hi354_1, hl354_2, hi354_2, hl354_3, hi354_3⟩ := at_T32 HR0.out x4_1 p354 q354
          obtain rfl : ad350 = ad354 := (by injection e354)
          have HR354_1 := Aside0.mk hi354_1
          have HC354_1 := Aside0.mk hl354_1
          clear hi354_1 hl354_1
          have HR354_2 := Aside0.mk hi354_2
          have HC354_2 := Aside0.mk hl354_2
          clear hi354_2 hl354_2
          have HR354_3 := Aside0.mk hi354_3
          have HC354_3 := Aside0.mk hl354_3
          clear hi354_3 hl354_3
          replace p354 := eq_true p354
          replace q354 := eq_true q354
          have ea_ := Option.some.inj (hx350_1.symm.trans hx354_1)
          injection ea_ with ea_ en_ ec_
          subst ea_
          subst ec_
          clear en_
          have ea_ := Option.some.inj (hx350_2.symm.trans hx354_2)
          injection ea_ with ea_ en_ ec_
          subst ea_
          subst ec_
          clear en_
          have ea_ := Option.some.inj (hx350_3.symm.trans hx354_3)
          injection ea_ with ea_ en_ ec_
          subst ea_
          subst ec_
          clear en_
          go_wp2
          repeat (go_quiet (fail); try go_wp2)
          go_roundg kj1
          case measure => have := HK1.out; have := HJ1.out; omega
          case rel => exact ⟨(wrap64 ((wrap64 (x3_1 + (((rd_T32 l0 x4_1).f2).length : Int))) + (((rd_T32 l0 x4_1).f3).length : Int))), (wrap64 (x4_1 + 1)), (by first | rfl | (simp; done) | (simp [*]; done)), (by first | rfl | (simp; done) | (simp [*]; done)), H', ⟨by have := HK1.out; have := HJ1.out; omega⟩, by repeat (first | exact Drawn0.refl _ | apply Drawn0.step)⟩

/-! ### decklelaw10_ArrayDeep: function 6 -/
mutual
def decklelaw10_ArrayDeep.j0 : Nat → List (S32) → Bool → Bool → Option (Bool)
  | 0, _, _, _ => none
  | k + 1, x0, x3, x18 => if x18 = true then (some x3) else ((array_Depth.f k x0).bind fun t358 => (decklelaw10_ArrayDeep.l0 k x0 x3 t358 0))
def decklelaw10_ArrayDeep.l0 : Nat → List (S32) → Bool → Int → Int → Option (Bool)
  | 0, _, _, _, _ => none
  | k + 1, x0, x3, x5, x6 => if x6 < 20 then ((array_Nest.f k ([] : List Int) (([x0] : List (List (S32))))).bind fun bt362 => (if (bt362.2 != (decide (x5 < 16))) = true then (none) else (if bt362.2 = true then ((array_Depth.f k bt362.1).bind fun t366 => (if t366 = (wrap64 (x5 + 1)) then (if (bt362.1.length : Int) = (wrap64 ((x0.length : Int) + 1)) then (decklelaw10_ArrayDeep.l0 k bt362.1 x3 (wrap64 (x5 + 1)) (wrap64 (x6 + 1))) else (none)) else (none))) else (if x3 = true then (some ((bt362.1.length : Int) == 0)) else (none))))) else (none)
end
def decklelaw10_ArrayDeep.f (k : Nat) (l0 : List (S32)) : Option (Bool) := (decklelaw10_small.f k).bind fun t355 => ((decklelaw10_Few.f k l0).bind fun t356 => (if t356 = true then ((array_Right.f k l0).bind fun t357 => (decklelaw10_ArrayDeep.j0 k l0 t355 (!t357))) else (decklelaw10_ArrayDeep.j0 k l0 t355 true)))
theorem decklelaw10_ArrayDeep.mono_l : ∀ k, (∀ y0 y1 y2, LeO (decklelaw10_ArrayDeep.j0 k y0 y1 y2) (decklelaw10_ArrayDeep.j0 (k + 1) y0 y1 y2)) ∧ (∀ y0 y1 y2 y3, LeO (decklelaw10_ArrayDeep.l0 k y0 y1 y2 y3) (decklelaw10_ArrayDeep.l0 (k + 1) y0 y1 y2 y3))
  | 0 => ⟨fun _ _ _ r h => by simp [decklelaw10_ArrayDeep.j0] at h, fun _ _ _ _ r h => by simp [decklelaw10_ArrayDeep.l0] at h⟩
  | k + 1 => by
    obtain ⟨ih0, ih1⟩ := decklelaw10_ArrayDeep.mono_l k
    refine ⟨?_, ?_⟩
    · intro y0 y1 y2
      unfold decklelaw10_ArrayDeep.j0
      repeat' first
      | (with_reducible exact ih0 _ _ _)
      | (with_reducible exact ih1 _ _ _ _)
      | (with_reducible exact array_Depth.mono _ _)
      | (with_reducible exact array_Nest.mono _ _ _)
      | (with_reducible exact array_Right.mono _ _)
      | (with_reducible exact decklelaw10_Few.mono _ _)
      | (with_reducible exact decklelaw10_small.mono _)
      | (with_reducible exact LeO.refl _)
      | (with_reducible exact LeO.none _)
      | (with_reducible refine LeO.ite ?_ ?_)
      | (with_reducible refine LeO.bind ?_ (fun _ => ?_))
      | exact ih0 _ _ _
      | exact ih1 _ _ _ _
      | exact array_Depth.mono _ _
      | exact array_Nest.mono _ _ _
      | exact array_Right.mono _ _
      | exact decklelaw10_Few.mono _ _
      | exact decklelaw10_small.mono _
      | exact LeO.none _
      | refine LeO.ite ?_ ?_
      | refine LeO.bind ?_ (fun _ => ?_)
    · intro y0 y1 y2 y3
      unfold decklelaw10_ArrayDeep.l0
      repeat' first
      | (with_reducible exact ih0 _ _ _)
      | (with_reducible exact ih1 _ _ _ _)
      | (with_reducible exact array_Depth.mono _ _)
      | (with_reducible exact array_Nest.mono _ _ _)
      | (with_reducible exact array_Right.mono _ _)
      | (with_reducible exact decklelaw10_Few.mono _ _)
      | (with_reducible exact decklelaw10_small.mono _)
      | (with_reducible exact LeO.refl _)
      | (with_reducible exact LeO.none _)
      | (with_reducible refine LeO.ite ?_ ?_)
      | (with_reducible refine LeO.bind ?_ (fun _ => ?_))
      | exact ih0 _ _ _
      | exact ih1 _ _ _ _
      | exact array_Depth.mono _ _
      | exact array_Nest.mono _ _ _
      | exact array_Right.mono _ _
      | exact decklelaw10_Few.mono _ _
      | exact decklelaw10_small.mono _
      | exact LeO.none _
      | refine LeO.ite ?_ ?_
      | refine LeO.bind ?_ (fun _ => ?_)
theorem decklelaw10_ArrayDeep.mono : ∀ a0 k, LeO (decklelaw10_ArrayDeep.f k a0) (decklelaw10_ArrayDeep.f (k + 1) a0) := by
  intro a0 k
  obtain ⟨ih0, ih1⟩ := decklelaw10_ArrayDeep.mono_l k
  unfold decklelaw10_ArrayDeep.f
  repeat' first
      | (with_reducible exact ih0 _ _ _)
      | (with_reducible exact ih1 _ _ _ _)
      | (with_reducible exact array_Depth.mono _ _)
      | (with_reducible exact array_Nest.mono _ _ _)
      | (with_reducible exact array_Right.mono _ _)
      | (with_reducible exact decklelaw10_Few.mono _ _)
      | (with_reducible exact decklelaw10_small.mono _)
      | (with_reducible exact LeO.refl _)
      | (with_reducible exact LeO.none _)
      | (with_reducible refine LeO.ite ?_ ?_)
      | (with_reducible refine LeO.bind ?_ (fun _ => ?_))
      | exact ih0 _ _ _
      | exact ih1 _ _ _ _
      | exact array_Depth.mono _ _
      | exact array_Nest.mono _ _ _
      | exact array_Right.mono _ _
      | exact decklelaw10_Few.mono _ _
      | exact decklelaw10_small.mono _
      | exact LeO.none _
      | refine LeO.ite ?_ ?_
      | refine LeO.bind ?_ (fun _ => ?_)
set_option maxHeartbeats 8000000 in
set_option maxRecDepth 100000 in
theorem decklelaw10_ArrayDeep.calls (k : Nat) (P0_ : Nat → Prop) (A0 : Option Addr) (c0 : Nat) (l0 : List (S32)) (r : Bool) (w : World) (hs0 : Kd.V k32 32 w w.heap.size (fun k_ => P0_ k_) (.slice A0 l0.length c0) l0) (h : decklelaw10_ArrayDeep.f k l0 = some r) :
    Calls Try.prog 6 #[.slice A0 l0.length c0] w fun e w' => e = .returned (.bool r) ∧ Below w.heap.size w w' := by
  have HO0 := Aside0.mk (show Kd.V k32 32 w w.heap.size (fun k_ => (P0_ k_ ∨ w.heap.size ≤ k_)) (.slice A0 l0.length c0) l0 from Kd.V_mono hs0 (fun k_ hk => .inl hk))
  have HB := Aside0.mk (Below.refl w.heap.size w)
  have H : ((decklelaw10_small.f k).bind fun t355 => ((decklelaw10_Few.f k l0).bind fun t356 => (if t356 = true then ((array_Right.f k l0).bind fun t357 => (decklelaw10_ArrayDeep.j0 k l0 t355 (!t357))) else (decklelaw10_ArrayDeep.j0 k l0 t355 true)))) = some r := h
  clear h
  replace H := Option.bind_eq_some_iff.mp H
  obtain ⟨t355, A20, H⟩ := H
  replace H : ((decklelaw10_Few.f k l0).bind fun t356 => (if t356 = true then ((array_Right.f k l0).bind fun t357 => (decklelaw10_ArrayDeep.j0 k l0 t355 (!t357))) else (decklelaw10_ArrayDeep.j0 k l0 t355 true))) = some r := H
  have A2 := Aside0.mk A20
  clear A20
  replace H := Option.bind_eq_some_iff.mp H
  obtain ⟨t356, A30, H⟩ := H
  replace H : (if t356 = true then ((array_Right.f k l0).bind fun t357 => (decklelaw10_ArrayDeep.j0 k l0 t355 (!t357))) else (decklelaw10_ArrayDeep.j0 k l0 t355 true)) = some r := H
  have A3 := Aside0.mk A30
  clear A30
  have HC4 := Aside0.mk H
  clear H
  go_enter Try.func6, Try.ntmps6
  go_upto_region 3 with (first | ((with_reducible refine gate_callee (f := 8) rfl ?_); refine goesL_ (some 9) rfl rfl Try.func8 (by kernel_rfl) rfl #[] rfl (by (try simp only [List.map_toArray, List.map_cons, List.map_nil]); first | done | rfl | (simp only [List.length_drop, List.length_take]; rfl)) ?_; (with_reducible refine (decklelaw10_small.calls k  t355 _ A2.out).mono ?_); rintro e w5 ⟨rfl, hb⟩; refine ⟨_, rfl, ?_⟩; have n0_ := Aside0.mk (Kd.V_below (by (with_reducible repeat (first | apply Kd.V_alloc | apply Kd.V_drewN | apply Kd.V_drew)); exact HO0.out) hb); have n1_ := Aside0.mk (below_step (by repeat (first | (with_reducible first | exact HB.out | apply below_alloc | apply pw_below_drewN | apply below_drew1) | exact HB.out)) hb); clear HO0; clear HB; have HO0 := n0_; have HB := n1_; clear n0_ n1_; (try clear hb); (try clear hb2); (try clear hk); (try clear hi)) | ((with_reducible refine gate_callee (f := 9) rfl ?_); refine goesL_ (some 11) rfl rfl Try.func9 (by kernel_rfl) rfl #[.slice A0 l0.length c0] rfl (by (try simp only [List.map_toArray, List.map_cons, List.map_nil]); first | done | rfl | (simp only [List.length_drop, List.length_take]; rfl)) ?_; (with_reducible refine (decklelaw10_Few.calls k _ _ l0 t356 _ ?side1 ?side2 A3.out).mono ?_); (case side1 => repeat (first | exact (Kd.V_reads' HO0.out).2.2 | (with_reducible refine Kd.C_alloc ?_ _) | (with_reducible refine Kd.C_drewN ?_ _) | (with_reducible refine Kd.C_drew ?_))); (case side2 => exact (Kd.V_reads' HO0.out).2.1); rintro e w' ⟨rfl, ⟨nd, rfl⟩⟩; refine ⟨_, rfl, ?_⟩))
  (try simp only [Act.put, List.setIfInBounds_toArray, List.set_cons_zero, List.set_cons_succ])
  go_cut [18] (fun v18 wc => ∃ (kq : Nat) (x18_3 : Bool), v18 = .bool x18_3 ∧ Aside0 (decklelaw10_ArrayDeep.j0 kq l0 t355 x18_3 = some r) ∧ Aside0 (kq ≤ k) ∧ Aside0 (Kd.V k32 32 wc w.heap.size (fun k_ => (P0_ k_ ∨ w.heap.size ≤ k_)) (.slice A0 l0.length c0) l0) ∧ Aside0 (Below w.heap.size w wc))
  case first =>
    have H := HC4.out
    clear HC4
    by_cases c6 : t356 = true
    rotate_left
    · replace c6 := Bool.eq_false_iff.mpr c6
      subst c6
      have H1 : (decklelaw10_ArrayDeep.j0 k l0 t355 true) = some r := by rw [if_neg (show ¬ (false = true) by decide)] at H; exact H
      clear H
      have H := H1
      clear H1
      have H' := Aside0.mk H
      clear H
      go_wp2
      go_meet
      case rel => exact ⟨_, (true), (by first | rfl | (simp; done) | (simp [*]; done)), H', ⟨by first | omega | exact Nat.le_refl _⟩, ⟨by (with_reducible repeat (first | apply Kd.V_alloc | apply Kd.V_drewN | apply Kd.V_drew)); exact HO0.out⟩, ⟨by repeat (first | (with_reducible first | exact HB.out | apply below_alloc | apply pw_below_drewN | apply below_drew1) | exact HB.out)⟩⟩
    subst c6
    have H1 : ((array_Right.f k l0).bind fun t357 => (decklelaw10_ArrayDeep.j0 k l0 t355 (!t357))) = some r := by rw [if_pos rfl] at H; exact H
    clear H
    have H := H1
    clear H1
    replace H := Option.bind_eq_some_iff.mp H
    obtain ⟨t357, A70, H⟩ := H
    replace H : (decklelaw10_ArrayDeep.j0 k l0 t355 (!t357)) = some r := H
    have A7 := Aside0.mk A70
    clear A70
    have H' := Aside0.mk H
    clear H
    go_wp2_with (first | (go_at_call 14; (with_reducible refine (array_Right.calls k _ _ l0 t357 _ ?side1 ?side2 A7.out).mono ?_); (case side1 => repeat (first | exact (Kd.V_reads' HO0.out).2.2 | (with_reducible refine Kd.C_alloc ?_ _) | (with_reducible refine Kd.C_drewN ?_ _) | (with_reducible refine Kd.C_drew ?_))); (case side2 => exact (Kd.V_reads' HO0.out).2.1); rintro e w8 ⟨rfl, hb⟩; have n0_ := Aside0.mk (Kd.V_below (by (with_reducible repeat (first | apply Kd.V_alloc | apply Kd.V_drewN | apply Kd.V_drew)); exact HO0.out) hb); have n1_ := Aside0.mk (below_step (by repeat (first | (with_reducible first | exact HB.out | apply below_alloc | apply pw_below_drewN | apply below_drew1) | exact HB.out)) hb); clear HO0; clear HB; have HO0 := n0_; have HB := n1_; clear n0_ n1_; (try clear hb); (try clear hb2); (try clear hk); (try clear hi)))
    go_meet
    case rel => exact ⟨_, (!t357), (by first | rfl | (simp; done) | (simp [*]; done)), H', ⟨by first | omega | exact Nat.le_refl _⟩, ⟨by (with_reducible repeat (first | apply Kd.V_alloc | apply Kd.V_drewN | apply Kd.V_drew)); exact HO0.out⟩, ⟨by repeat (first | (with_reducible first | exact HB.out | apply below_alloc | apply pw_below_drewN | apply below_drew1) | exact HB.out)⟩⟩
  case rest =>
    clear HC4
    try clear p2
    try clear c6
    try clear c8
    obtain ⟨kq, x18_3, rfl, HA, HJ3, HO_0, HB⟩ := hcut
    cases kq with
    | zero => exact absurd HA.out (by simp [decklelaw10_ArrayDeep.j0])
    | succ kj3 =>
      have H := HA.out
      clear HA
      simp only [decklelaw10_ArrayDeep.j0] at H
      by_cases c9 : x18_3 = true
      · subst c9
        have H1 : (some t355) = some r := by rw [if_pos rfl] at H; exact H
        clear H
        have H := H1
        clear H1
        obtain rfl := Option.some.inj H
        go_wp2
        go_ret
        exact ⟨by first | rfl | (simp [errW_none, errW_some] <;> rfl) | (simp [*, errW_none, errW_some] <;> rfl), by repeat (first | (with_reducible first | exact HB.out | apply below_alloc | apply pw_below_drewN | apply below_drew1) | exact HB.out)⟩
      replace c9 := Bool.eq_false_iff.mpr c9
      subst c9
      have H1 : ((array_Depth.f kj3 l0).bind fun t358 => (decklelaw10_ArrayDeep.l0 kj3 l0 t355 t358 0)) = some r := by rw [if_neg (show ¬ (false = true) by decide)] at H; exact H
      clear H
      have H := H1
      clear H1
      replace H := Option.bind_eq_some_iff.mp H
      obtain ⟨t358, A100, H⟩ := H
      replace H : (decklelaw10_ArrayDeep.l0 kj3 l0 t355 t358 0) = some r := H
      have A10 := Aside0.mk A100
      clear A100
      have H' := Aside0.mk H
      clear H
      go_wp2_with (first | ((with_reducible refine gate_callee (f := 20) rfl ?_); refine goesL_ (some 21) rfl rfl Try.func20 (by kernel_rfl) rfl #[.slice A0 l0.length c0] rfl (by (try simp only [List.map_toArray, List.map_cons, List.map_nil]); first | done | rfl | (simp only [List.length_drop, List.length_take]; rfl)) ?_; (with_reducible refine (array_Depth.calls kj3 _ _ l0 t358 _ ?side1 ?side2 A10.out).mono ?_); (case side1 => repeat (first | exact (Kd.V_reads' HO_0.out).2.2 | (with_reducible refine Kd.C_alloc ?_ _) | (with_reducible refine Kd.C_drewN ?_ _) | (with_reducible refine Kd.C_drew ?_))); (case side2 => exact (Kd.V_reads' HO_0.out).2.1); rintro e w11 ⟨rfl, hb⟩; refine ⟨_, rfl, ?_⟩; have n0_ := Aside0.mk (Kd.V_below (by (with_reducible repeat (first | apply Kd.V_alloc | apply Kd.V_drewN | apply Kd.V_drew)); exact HO_0.out) hb); have n1_ := Aside0.mk (below_step (by repeat (first | (with_reducible first | exact HB.out | apply below_alloc | apply pw_below_drewN | apply below_drew1) | exact HB.out)) hb); clear HO_0; clear HB; have HO_0 := n0_; have HB := n1_; clear n0_ n1_; (try clear hb); (try clear hb2); (try clear hk); (try clear hi)))
      go_loopg [0, 5, 6] kj3 (fun kq v0 v5 v6 w' => ∃ (x0_2 : List (S32)) (x5_2 : Int) (x6_2 : Int), v5 = .int .i64 x5_2 ∧ v6 = .int .i64 x6_2 ∧ Aside0 (decklelaw10_ArrayDeep.l0 kq x0_2 t355 x5_2 x6_2 = some r) ∧ Aside0 (kq ≤ kj3) ∧ Aside0 (Kd.V k32 32 w' w.heap.size (fun k_ => (P0_ k_ ∨ w.heap.size ≤ k_)) v0 x0_2) ∧ Aside0 (Below w.heap.size w w'))
      case atStart => exact ⟨(l0), (t358), (0), (by first | rfl | (simp; done) | (simp [*]; done)), (by first | rfl | (simp; done) | (simp [*]; done)), H', ⟨Nat.le_refl _⟩, ⟨by (with_reducible repeat (first | apply Kd.V_alloc | apply Kd.V_drewN | apply Kd.V_drew)); exact HO_0.out⟩, ⟨by repeat (first | (with_reducible first | exact HB.out | apply below_alloc | apply pw_below_drewN | apply below_drew1) | exact HB.out)⟩⟩
      case round =>
        clear H'
        try clear c2
        try clear p2
        try clear c6
        try clear c8
        try clear c9
        try clear p2
        obtain ⟨x0_2, x5_2, x6_2, rfl, rfl, HA, HK2, HO_0, HB⟩ := hrel
        cases gk with
        | zero => exact absurd HA.out (by simp [decklelaw10_ArrayDeep.l0])
        | succ k2 =>
          have H := HA.out
          clear HA
          simp only [decklelaw10_ArrayDeep.l0] at H
          by_cases c12 : x6_2 < 20
          rotate_left
          · rw [if_neg c12] at H
            exact absurd H (by simp)
          rw [if_pos c12] at H
          have c12b0 : decide (x6_2 < 20) = true := decide_eq_true c12
          clear c12
          obtain ⟨y359, hy359⟩ : ∃ y_ : List (List (S32)), y_ = (([x0_2] : List (List (S32)))) := ⟨_, rfl⟩
          replace H : ((array_Nest.f k2 ([] : List Int) y359).bind fun bt362 => (if (bt362.2 != (decide (x5_2 < 16))) = true then (none) else (if bt362.2 = true then ((array_Depth.f k2 bt362.1).bind fun t366 => (if t366 = (wrap64 (x5_2 + 1)) then (if (bt362.1.length : Int) = (wrap64 ((x0_2.length : Int) + 1)) then (decklelaw10_ArrayDeep.l0 k2 bt362.1 t355 (wrap64 (x5_2 + 1)) (wrap64 (x6_2 + 1))) else (none)) else (none))) else (if t355 = true then (some ((bt362.1.length : Int) == 0)) else (none))))) = some r := by first | (rw [hy359]; with_reducible exact H) | (have H2_ := (Option.bind_some _ _).symm.trans H; rw [hy359]; with_reducible exact H2_) | (have H2_ := (Option.bind_some _ _).symm.trans H; with_reducible exact H2_) | with_reducible exact H | (rw [hy359]; exact H) | exact H
          have Ny359 := Aside0.mk hy359
          clear hy359
          replace H := Option.bind_eq_some_iff.mp H
          obtain ⟨⟨t362, t365⟩, A130, H⟩ := H
          replace H : (if (t365 != (decide (x5_2 < 16))) = true then (none) else (if t365 = true then ((array_Depth.f k2 t362).bind fun t366 => (if t366 = (wrap64 (x5_2 + 1)) then (if (t362.length : Int) = (wrap64 ((x0_2.length : Int) + 1)) then (decklelaw10_ArrayDeep.l0 k2 t362 t355 (wrap64 (x5_2 + 1)) (wrap64 (x6_2 + 1))) else (none)) else (none))) else (if t355 = true then (some ((t362.length : Int) == 0)) else (none)))) = some r := H
          have A13 := Aside0.mk A130
          clear A130
          by_cases c14 : (t365 != (decide (x5_2 < 16))) = true
          · rw [if_pos c14] at H
            exact absurd H (by simp)
          rw [if_neg c14] at H
          have c14b0 : (t365 != (decide (x5_2 < 16))) = false := by simpa using c14
          (try (have c14b1 : decide (t365 = (decide (x5_2 < 16))) = true := by simpa using c14))
          (try (have c14b2 : (t365 == (decide (x5_2 < 16))) = true := by simpa using c14))
          clear c14
          by_cases c15 : t365 = true
          rotate_left
          · replace c15 := Bool.eq_false_iff.mpr c15
            subst c15
            have H1 : (if t355 = true then (some ((t362.length : Int) == 0)) else (none)) = some r := by rw [if_neg (show ¬ (false = true) by decide)] at H; exact H
            clear H
            have H := H1
            clear H1
            by_cases c26 : t355 = true
            · subst c26
              have H1 : (some ((t362.length : Int) == 0)) = some r := by rw [if_pos rfl] at H; exact H
              clear H
              have H := H1
              clear H1
              obtain rfl := Option.some.inj H
              obtain ⟨Ao27, co27, eo27⟩ := Kd.V_slice HO_0.out
              subst eo27
              go_wp2_with (first | ((with_reducible refine gate_dst (N := 28) rfl ?_); (try (refine gate_guard (by rfl) ?_; dsimp only)); refine Kd.N_lit (Kd.slice 32 k32) _ 22 ?hg (N' := 28) ?hd (xs := ([x0_2] : List (List (S32)))) (inner := [.slice Ao27 x0_2.length co27]) (ok := (fun k_ => (P0_ k_ ∨ w.heap.size ≤ k_))) (okp := (fun k_ => (P0_ k_ ∨ w.heap.size ≤ k_))) ?hr ?hp (fun _ hk => hk) ((show ∀ k_, wr.heap.size ≤ k_ → (fun k_ => (P0_ k_ ∨ w.heap.size ≤ k_)) k_ from fun k_ hk => (.inr (Nat.le_trans (below_size (by repeat (first | (with_reducible first | exact HB.out | apply below_alloc | apply pw_below_drewN | apply below_drew1) | exact HB.out))) hk))) _ (Nat.le_refl _)) (Below.refl _ _) (Nat.le_refl _) (by simp) ?_; (case hd => rfl); (case hg => rfl); (case hr => first | (go_simp; done) | (go_simp; rfl)); (case hp => exact (Reps.one (show Kd.FK (Kd.slice 32 k32) _ _ x0_2 [.slice Ao27 x0_2.length co27] from (Kd.FK_slice_mk (Kd.V_reads' (Kd.V_mono (ok' := (fun k_ => (P0_ k_ ∨ w.heap.size ≤ k_))) (HO_0.out) (fun k_ hk => hk))).2.1 (Kd.V_F (Kd.V_mono (ok' := (fun k_ => (P0_ k_ ∨ w.heap.size ≤ k_))) (HO_0.out) (fun k_ hk => hk))))) (Reps.none _ _))); intro v360 w28 ho29 hb hg_ hnew_; clear hg_ hnew_; (first | rw [← Ny359.out] at ho29 | (simp only [Int.reduceToNat] at ho29; rw [← Ny359.out] at ho29)); have n0_ := Aside0.mk (Kd.V_elder' (by (with_reducible repeat (first | apply Kd.V_alloc | apply Kd.V_drewN | apply Kd.V_drew)); exact HO_0.out) (Kd.N_base ho29) hb); have n1_ := Aside0.mk (Kd.N_lower ho29 (below_size (by repeat (first | (with_reducible first | exact HB.out | apply below_alloc | apply pw_below_drewN | apply below_drew1) | exact HB.out)))); have n2_ := Aside0.mk (below_step (by repeat (first | (with_reducible first | exact HB.out | apply below_alloc | apply pw_below_drewN | apply below_drew1) | exact HB.out)) hb); clear HO_0; clear HB; have HO_0 := n0_; have HO361 := n1_; have HB := n2_; clear n0_ n1_ n2_; clear hb ho29; obtain ⟨Ao30, co30, eo30⟩ := Kd.N_slice HO361.out; subst eo30) | ((with_reducible refine gate_callee (f := 26) rfl ?_); refine goesL_ (some 29) rfl rfl Try.func26 (by kernel_rfl) rfl #[.slice none 0 0, .slice Ao30 y359.length co30] rfl (by (try simp only [List.map_toArray, List.map_cons, List.map_nil]); first | done | rfl | (simp only [List.length_drop, List.length_take]; rfl)) ?_; (refine (array_Nest.calls k2 (fun k_ => False) _ _ ([] : List Int) (fun k_ => (P0_ k_ ∨ w.heap.size ≤ k_)) _ _ y359 t362 false _ ?side1 ?side2 A13.out).mono ?_); (case side1 => exact Kd.V_nil _ _ _ _ _); (case side2 => exact Kd.N_V (HO361.out)); rintro e w31 ⟨v363, rfl, ho0, hb⟩; refine ⟨_, rfl, ?_⟩; have n0_ := Aside0.mk (Kd.V_elder' (by (with_reducible repeat (first | apply Kd.V_alloc | apply Kd.V_drewN | apply Kd.V_drew)); exact HO_0.out) (Kd.N_base ho0) hb); have n1_ := Aside0.mk (Kd.N_elder' (by (with_reducible repeat (first | apply Kd.N_alloc | apply Kd.N_drewN | apply Kd.N_drew)); exact HO361.out) (Kd.N_base ho0) hb); have n2_ := Aside0.mk (Kd.N_lower (Kd.N_mono (ok' := fun k_ => (P0_ k_ ∨ w.heap.size ≤ k_) ∧ some k_ ≠ (.slice Ao30 y359.length co30 : Value).ownBlock) ho0 (fun k_ hk_ => ⟨(.inr (Nat.le_trans (below_size (by repeat (first | (with_reducible first | exact HB.out | apply below_alloc | apply pw_below_drewN | apply below_drew1) | exact HB.out))) hk_)), (Kd.fresh' (Kd.N_lt (by (with_reducible repeat (first | apply Kd.N_alloc | apply Kd.N_drewN | apply Kd.N_drew)); exact HO361.out)) k_ hk_)⟩)) (below_size (by repeat (first | (with_reducible first | exact HB.out | apply below_alloc | apply pw_below_drewN | apply below_drew1) | exact HB.out)))); have n3_ := Aside0.mk (below_step (by repeat (first | (with_reducible first | exact HB.out | apply below_alloc | apply pw_below_drewN | apply below_drew1) | exact HB.out)) hb); clear HO_0; clear HO361; clear HB; have HO_0 := n0_; have HO361 := n1_; have HO364 := n2_; have HB := n3_; clear n0_ n1_ n2_ n3_; (try clear hb); (try clear hb2); (try clear hk); (try clear hi); (try clear ho0); obtain ⟨Ao32, co32, eo32⟩ := Kd.N_slice HO364.out; subst eo32))
              go_ret
              exact ⟨by first | rfl | (simp [errW_none, errW_some] <;> rfl) | (simp [*, errW_none, errW_some] <;> rfl), by repeat (first | (with_reducible first | exact HB.out | apply below_alloc | apply pw_below_drewN | apply below_drew1) | exact HB.out)⟩
            · replace c26 := Bool.eq_false_iff.mpr c26
              subst c26
              have H1 : (none) = some r := by rw [if_neg (show ¬ (false = true) by decide)] at H; exact H
              clear H
              have H := H1
              clear H1
              exact absurd H (by simp)
          subst c15
          have H1 : ((array_Depth.f k2 t362).bind fun t366 => (if t366 = (wrap64 (x5_2 + 1)) then (if (t362.length : Int) = (wrap64 ((x0_2.length : Int) + 1)) then (decklelaw10_ArrayDeep.l0 k2 t362 t355 (wrap64 (x5_2 + 1)) (wrap64 (x6_2 + 1))) else (none)) else (none))) = some r := by rw [if_pos rfl] at H; exact H
          clear H
          have H := H1
          clear H1
          replace H := Option.bind_eq_some_iff.mp H
          obtain ⟨t366, A160, H⟩ := H
          replace H : (if t366 = (wrap64 (x5_2 + 1)) then (if (t362.length : Int) = (wrap64 ((x0_2.length : Int) + 1)) then (decklelaw10_ArrayDeep.l0 k2 t362 t355 (wrap64 (x5_2 + 1)) (wrap64 (x6_2 + 1))) else (none)) else (none)) = some r := H
          have A16 := Aside0.mk A160
          clear A160
          by_cases c17 : t366 = (wrap64 (x5_2 + 1))
          rotate_left
          · rw [if_neg c17] at H
            exact absurd H (by simp)
          rw [if_pos c17] at H
          have c17b0 : (t366 == (wrap64 (x5_2 + 1))) = true := beq_iff_eq.mpr c17
          have c17b1 : (t366 != (wrap64 (x5_2 + 1))) = false := bne_eq_false_iff_eq.mpr c17
          clear c17
          by_cases c18 : (t362.length : Int) = (wrap64 ((x0_2.length : Int) + 1))
          rotate_left
          · rw [if_neg c18] at H
            exact absurd H (by simp)
          rw [if_pos c18] at H
          have c18b0 : ((t362.length : Int) == (wrap64 ((x0_2.length : Int) + 1))) = true := beq_iff_eq.mpr c18
          have c18b1 : ((t362.length : Int) != (wrap64 ((x0_2.length : Int) + 1))) = false := bne_eq_false_iff_eq.mpr c18
          clear c18
          have H' := Aside0.mk H
          clear H
          obtain ⟨Ao19, co19, eo19⟩ := Kd.V_slice HO_0.out
          subst eo19
          go_wp2_with (first | ((with_reducible refine gate_dst (N := 28) rfl ?_); (try (refine gate_guard (by rfl) ?_; dsimp only)); refine Kd.N_lit (Kd.slice 32 k32) _ 22 ?hg (N' := 28) ?hd (xs := ([x0_2] : List (List (S32)))) (inner := [.slice Ao19 x0_2.length co19]) (ok := (fun k_ => (P0_ k_ ∨ w.heap.size ≤ k_))) (okp := (fun k_ => (P0_ k_ ∨ w.heap.size ≤ k_))) ?hr ?hp (fun _ hk => hk) ((show ∀ k_, wr.heap.size ≤ k_ → (fun k_ => (P0_ k_ ∨ w.heap.size ≤ k_)) k_ from fun k_ hk => (.inr (Nat.le_trans (below_size (by repeat (first | (with_reducible first | exact HB.out | apply below_alloc | apply pw_below_drewN | apply below_drew1) | exact HB.out))) hk))) _ (Nat.le_refl _)) (Below.refl _ _) (Nat.le_refl _) (by simp) ?_; (case hd => rfl); (case hg => rfl); (case hr => first | (go_simp; done) | (go_simp; rfl)); (case hp => exact (Reps.one (show Kd.FK (Kd.slice 32 k32) _ _ x0_2 [.slice Ao19 x0_2.length co19] from (Kd.FK_slice_mk (Kd.V_reads' (Kd.V_mono (ok' := (fun k_ => (P0_ k_ ∨ w.heap.size ≤ k_))) (HO_0.out) (fun k_ hk => hk))).2.1 (Kd.V_F (Kd.V_mono (ok' := (fun k_ => (P0_ k_ ∨ w.heap.size ≤ k_))) (HO_0.out) (fun k_ hk => hk))))) (Reps.none _ _))); intro v360 w20 ho21 hb hg_ hnew_; clear hg_ hnew_; (first | rw [← Ny359.out] at ho21 | (simp only [Int.reduceToNat] at ho21; rw [← Ny359.out] at ho21)); have n0_ := Aside0.mk (Kd.V_elder' (by (with_reducible repeat (first | apply Kd.V_alloc | apply Kd.V_drewN | apply Kd.V_drew)); exact HO_0.out) (Kd.N_base ho21) hb); have n1_ := Aside0.mk (Kd.N_lower ho21 (below_size (by repeat (first | (with_reducible first | exact HB.out | apply below_alloc | apply pw_below_drewN | apply below_drew1) | exact HB.out)))); have n2_ := Aside0.mk (below_step (by repeat (first | (with_reducible first | exact HB.out | apply below_alloc | apply pw_below_drewN | apply below_drew1) | exact HB.out)) hb); clear HO_0; clear HB; have HO_0 := n0_; have HO361 := n1_; have HB := n2_; clear n0_ n1_ n2_; clear hb ho21; obtain ⟨Ao22, co22, eo22⟩ := Kd.N_slice HO361.out; subst eo22) | ((with_reducible refine gate_callee (f := 26) rfl ?_); refine goesL_ (some 29) rfl rfl Try.func26 (by kernel_rfl) rfl #[.slice none 0 0, .slice Ao22 y359.length co22] rfl (by (try simp only [List.map_toArray, List.map_cons, List.map_nil]); first | done | rfl | (simp only [List.length_drop, List.length_take]; rfl)) ?_; (refine (array_Nest.calls k2 (fun k_ => False) _ _ ([] : List Int) (fun k_ => (P0_ k_ ∨ w.heap.size ≤ k_)) _ _ y359 t362 true _ ?side1 ?side2 A13.out).mono ?_); (case side1 => exact Kd.V_nil _ _ _ _ _); (case side2 => exact Kd.N_V (HO361.out)); rintro e w23 ⟨v363, rfl, ho0, hb⟩; refine ⟨_, rfl, ?_⟩; have n0_ := Aside0.mk (Kd.V_elder' (by (with_reducible repeat (first | apply Kd.V_alloc | apply Kd.V_drewN | apply Kd.V_drew)); exact HO_0.out) (Kd.N_base ho0) hb); have n1_ := Aside0.mk (Kd.N_elder' (by (with_reducible repeat (first | apply Kd.N_alloc | apply Kd.N_drewN | apply Kd.N_drew)); exact HO361.out) (Kd.N_base ho0) hb); have n2_ := Aside0.mk (Kd.N_lower (Kd.N_mono (ok' := fun k_ => (P0_ k_ ∨ w.heap.size ≤ k_) ∧ some k_ ≠ (.slice Ao22 y359.length co22 : Value).ownBlock) ho0 (fun k_ hk_ => ⟨(.inr (Nat.le_trans (below_size (by repeat (first | (with_reducible first | exact HB.out | apply below_alloc | apply pw_below_drewN | apply below_drew1) | exact HB.out))) hk_)), (Kd.fresh' (Kd.N_lt (by (with_reducible repeat (first | apply Kd.N_alloc | apply Kd.N_drewN | apply Kd.N_drew)); exact HO361.out)) k_ hk_)⟩)) (below_size (by repeat (first | (with_reducible first | exact HB.out | apply below_alloc | apply pw_below_drewN | apply below_drew1) | exact HB.out)))); have n3_ := Aside0.mk (below_step (by repeat (first | (with_reducible first | exact HB.out | apply below_alloc | apply pw_below_drewN | apply below_drew1) | exact HB.out)) hb); clear HO_0; clear HO361; clear HB; have HO_0 := n0_; have HO361 := n1_; have HO364 := n2_; have HB := n3_; clear n0_ n1_ n2_ n3_; (try clear hb); (try clear hb2); (try clear hk); (try clear hi); (try clear ho0); obtain ⟨Ao24, co24, eo24⟩ := Kd.N_slice HO364.out; subst eo24) | ((with_reducible refine gate_callee (f := 20) rfl ?_); refine goesL_ (some 45) rfl rfl Try.func20 (by kernel_rfl) rfl #[.slice Ao24 t362.length co24] rfl (by (try simp only [List.map_toArray, List.map_cons, List.map_nil]); first | done | rfl | (simp only [List.length_drop, List.length_take]; rfl)) ?_; (with_reducible refine (array_Depth.calls k2 _ _ t362 t366 _ ?side1 ?side2 A16.out).mono ?_); (case side1 => repeat (first | exact (Kd.N_reads' HO364.out).2.2 | (with_reducible refine Kd.C_alloc ?_ _) | (with_reducible refine Kd.C_drewN ?_ _) | (with_reducible refine Kd.C_drew ?_))); (case side2 => exact (Kd.N_reads' HO364.out).2.1); rintro e w25 ⟨rfl, hb⟩; refine ⟨_, rfl, ?_⟩; have n0_ := Aside0.mk (Kd.V_below (by (with_reducible repeat (first | apply Kd.V_alloc | apply Kd.V_drewN | apply Kd.V_drew)); exact HO_0.out) hb); have n1_ := Aside0.mk (Kd.N_below (by (with_reducible repeat (first | apply Kd.N_alloc | apply Kd.N_drewN | apply Kd.N_drew)); exact HO361.out) hb); have n2_ := Aside0.mk (Kd.N_below (by (with_reducible repeat (first | apply Kd.N_alloc | apply Kd.N_drewN | apply Kd.N_drew)); exact HO364.out) hb); have n3_ := Aside0.mk (below_step (by repeat (first | (with_reducible first | exact HB.out | apply below_alloc | apply pw_below_drewN | apply below_drew1) | exact HB.out)) hb); clear HO_0; clear HO361; clear HO364; clear HB; have HO_0 := n0_; have HO361 := n1_; have HO364 := n2_; have HB := n3_; clear n0_ n1_ n2_ n3_; (try clear hb); (try clear hb2); (try clear hk); (try clear hi)))
          go_roundg k2
          case measure => have := HJ3.out; have := HK2.out; omega
          case rel => exact ⟨(t362), (wrap64 (x5_2 + 1)), (wrap64 (x6_2 + 1)), (by first | rfl | (simp; done) | (simp [*]; done)), (by first | rfl | (simp; done) | (simp [*]; done)), H', ⟨by have := HJ3.out; have := HK2.out; omega⟩, ⟨Kd.N_V (by (with_reducible repeat (first | apply Kd.N_alloc | apply Kd.N_drewN | apply Kd.N_drew)); exact Kd.N_mono HO364.out (fun _ hk => hk.1))⟩, ⟨by repeat (first | (with_reducible first | exact HB.out | apply below_alloc | apply pw_below_drewN | apply below_drew1) | exact HB.out)⟩⟩

end Go.Proofs.Ytgbmbcippldhnaa.HArrayDeep
