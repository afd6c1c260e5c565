/- What the Go functions of this claim answer, told as functions of numbers and lists, and that other memory stays as it was: words and walks, shortened by a program. -/
import Derived.Test.YtgbmbcippldhnaaSArraySamex0
namespace Go.Proofs.Ytgbmbcippldhnaa.HArraySame
open Go.RowKit Go.Proofs.YtgbmbcippldhnaaW.PrintWords Go.Proofs.YtgbmbcippldhnaaW.PrintLast Go.Proofs.YtgbmbcippldhnaaW.PrintMore
attribute [local go_sem] max2_int min2_int max_two min_two max_three min_three max_four min_four
set_option linter.unusedVariables false
set_option linter.unusedSimpArgs false
mutual
def decklelaw10_Few.l0 : Nat → List (S32) → Int → Int → Option (Bool)
  | 0, _, _, _ => none
  | k + 1, x0, x3, x4 => if x4 < (x0.length : Int) then (decklelaw10_Few.j1 k x0 x3 x4 (decide (x4 < 200))) else (decklelaw10_Few.j1 k x0 x3 x4 false)
def decklelaw10_Few.j1 : Nat → List (S32) → Int → Int → Bool → Option (Bool)
  | 0, _, _, _, _ => none
  | k + 1, x0, x3, x4, x12 => if x12 = true then (if 0 ≤ x4 then (if x4 < (x0.length : Int) then (if (((rd_T32 x0 x4).f1).length : Int) > 30 then (some false) else (if (((rd_T32 x0 x4).f2).length : Int) > 300 then (some false) else (if (((rd_T32 x0 x4).f3).length : Int) > 300 then (some false) else (decklelaw10_Few.l0 k x0 (wrap64 ((wrap64 (x3 + (((rd_T32 x0 x4).f2).length : Int))) + (((rd_T32 x0 x4).f3).length : Int))) (wrap64 (x4 + 1)))))) else (none)) else (none)) else (if (x0.length : Int) ≤ 100 then (some (decide (x3 ≤ 1000))) else (some false))
end
def decklelaw10_Few.f (k : Nat) (l0 : List (S32)) : Option (Bool) := decklelaw10_Few.l0 k l0 0 0
set_option maxHeartbeats 8000000 in
set_option maxRecDepth 100000 in
theorem decklelaw10_Few.calls (k : Nat) (A0 : Option Addr) (c0 : Nat) (l0 : List (S32)) (r : Bool) (w : World) (hr0 : Kd.C k32 w A0 l0.length l0) (hc0 : l0.length ≤ c0) (h : decklelaw10_Few.f k l0 = some r) :
    Calls Try.prog 9 #[.slice A0 l0.length c0] w fun e w' => e = .returned (.bool r) ∧ Drawn0 w w' := by
  have HR0 := Aside0.mk hr0
  have HC0 := Aside0.mk hc0
  clear hr0 hc0
  have H : (decklelaw10_Few.l0 k l0 0 0) = some r := h
  clear h
  have H' := Aside0.mk H
  clear H
  go_enter Try.func9, Try.ntmps9
  go_wp2
  repeat (go_quiet (fail); try go_wp2)
  go_loopg [3, 4] k (fun kq v3 v4 w' => ∃ (x3_1 : Int) (x4_1 : Int), v3 = .int .i64 x3_1 ∧ v4 = .int .i64 x4_1 ∧ Aside0 (decklelaw10_Few.l0 kq l0 x3_1 x4_1 = some r) ∧ Aside0 (kq ≤ k) ∧ Drawn0 w w')
  case atStart => exact ⟨(0), (0), J5, J5, H', ⟨Nat.le_refl _⟩, J6⟩
  case round =>
    clear H'
    obtain ⟨x3_1, x4_1, rfl, rfl, HA, HK1, ⟨m1, rfl⟩⟩ := hrel
    cases gk with
    | zero => exact absurd HA.out (by simp [decklelaw10_Few.l0])
    | succ k1 =>
      have H := HA.out
      clear HA
      simp only [decklelaw10_Few.l0] at H
      have HC2 := Aside0.mk H
      clear H
      go_upto_region 3 with (fail)
      repeat (go_quiet (fail); go_upto_region 3 with (fail))
      go_cut [12] (fun v12 wc => ∃ (kq : Nat) (x12_1 : Bool), v12 = .bool x12_1 ∧ Aside0 (decklelaw10_Few.j1 kq l0 x3_1 x4_1 x12_1 = some r) ∧ Aside0 (kq ≤ k1) ∧ Drawn0 w wc)
      case first =>
        have H := HC2.out
        clear HC2
        by_cases c3 : x4_1 < (l0.length : Int)
        rotate_left
        · rw [if_neg c3] at H
          have c3b0 := decide_eq_false c3
          clear c3
          (first | rw [c3b0] | (simp only [i64_w, i32_w]; rw [c3b0]) | skip)
          have H' := Aside0.mk H
          clear H
          go_wp2
          repeat (go_quiet (fail); try go_wp2)
          go_meet
          case rel => exact ⟨_, (false), J5, H', ⟨J42⟩, J6⟩
        rw [if_pos c3] at H
        have c3b0 := decide_eq_true c3
        clear c3
        (first | rw [c3b0] | (simp only [i64_w, i32_w]; rw [c3b0]) | skip)
        have H' := Aside0.mk H
        clear H
        go_wp2
        repeat (go_quiet (fail); try go_wp2)
        go_meet
        case rel => exact ⟨_, (decide (x4_1 < 200)), J5, H', ⟨J42⟩, J6⟩
      case rest =>
        clear HC2
        try clear p2
        try clear c3
        try clear c3b0
        obtain ⟨kq, x12_1, rfl, HA, HJ1, ⟨mc1, rfl⟩⟩ := hcut
        cases kq with
        | zero => exact absurd HA.out (by simp [decklelaw10_Few.j1])
        | succ kj1 =>
          have H := HA.out
          clear HA
          simp only [decklelaw10_Few.j1] at H
          by_cases c4 : x12_1 = true
          rotate_left
          · replace c4 := Bool.eq_false_iff.mpr c4
            subst c4
            have H1 : (if (l0.length : Int) ≤ 100 then (some (decide (x3_1 ≤ 1000))) else (some false)) = some r := J7
            clear H
            have H := H1
            clear H1
            by_cases c10 : (l0.length : Int) ≤ 100
            · rw [if_pos c10] at H
              have c10b0 := decide_eq_true c10
              have c10b1 : decide (l0.length ≤ 100) = true := decide_eq_true J28
              clear c10
              obtain rfl := Option.some.inj H
              go_wp2
              repeat (go_quiet (fail); try go_wp2)
              go_ret
              exact ⟨J5, J6⟩
            · rw [if_neg c10] at H
              have c10b0 := decide_eq_false c10
              have c10b1 : decide (l0.length ≤ 100) = false := decide_eq_false J28
              clear c10
              obtain rfl := Option.some.inj H
              go_wp2
              repeat (go_quiet (fail); try go_wp2)
              go_ret
              exact ⟨J5, J6⟩
          subst c4
          have H1 : (if 0 ≤ x4_1 then (if x4_1 < (l0.length : Int) then (if (((rd_T32 l0 x4_1).f1).length : Int) > 30 then (some false) else (if (((rd_T32 l0 x4_1).f2).length : Int) > 300 then (some false) else (if (((rd_T32 l0 x4_1).f3).length : Int) > 300 then (some false) else (decklelaw10_Few.l0 kj1 l0 (wrap64 ((wrap64 (x3_1 + (((rd_T32 l0 x4_1).f2).length : Int))) + (((rd_T32 l0 x4_1).f3).length : Int))) (wrap64 (x4_1 + 1)))))) else (none)) else (none)) = some r := J14
          clear H
          have H := H1
          clear H1
          by_cases c5 : 0 ≤ x4_1
          rotate_left
          · rw [if_neg c5] at H
            exact absurd H J21
          rw [if_pos c5] at H
          have c5b0 := decide_eq_true c5
          clear c5
          by_cases c6 : x4_1 < (l0.length : Int)
          rotate_left
          · rw [if_neg c6] at H
            exact absurd H J21
          rw [if_pos c6] at H
          have c6b0 := decide_eq_true c6
          clear c6
          by_cases c7 : (((rd_T32 l0 x4_1).f1).length : Int) > 30
          · rw [if_pos c7] at H
            have c7b0 := decide_eq_true c7
            have c7b1 : decide (30 < ((rd_T32 l0 x4_1).f1).length) = true := decide_eq_true J28
            clear c7
            obtain rfl := Option.some.inj H
            have p350 : 0 ≤ (x4_1 : Int) := of_decide_eq_true J2
            have q350 : x4_1 < (l0.length : Int) := of_decide_eq_true J2
            obtain ⟨ad350, A350_1, c350_1, A350_2, c350_2, A350_3, c350_3, e350, hx350_0, hx350_1, hx350_2, hx350_3, hl350_1, hi350_1, hl350_2, hi350_2, hl350_3, hi350_3⟩ := at_T32 HR0.out x4_1 p350 q350
            cases e350
            have HR350_1 := Aside0.mk hi350_1
            have HC350_1 := Aside0.mk hl350_1
            clear hi350_1 hl350_1
            have HR350_2 := Aside0.mk hi350_2
            have HC350_2 := Aside0.mk hl350_2
            clear hi350_2 hl350_2
            have HR350_3 := Aside0.mk hi350_3
            have HC350_3 := Aside0.mk hl350_3
            clear hi350_3 hl350_3
            replace p350 := eq_true p350
            replace q350 := eq_true q350
            go_wp2
            repeat (go_quiet (fail); try go_wp2)
            go_ret
            exact ⟨J5, J6⟩
          rw [if_neg c7] at H
          have c7b0 := decide_eq_false c7
          have c7b1 : decide (30 < ((rd_T32 l0 x4_1).f1).length) = false := decide_eq_false J28
          clear c7
          by_cases c8 : (((rd_T32 l0 x4_1).f2).length : Int) > 300
          · rw [if_pos c8] at H
            have c8b0 := decide_eq_true c8
            have c8b1 : decide (300 < ((rd_T32 l0 x4_1).f2).length) = true := decide_eq_true J28
            clear c8
            obtain rfl := Option.some.inj H
            have p350 : 0 ≤ (x4_1 : Int) := of_decide_eq_true J2
            have q350 : x4_1 < (l0.length : Int) := of_decide_eq_true J2
            obtain ⟨ad350, A350_1, c350_1, A350_2, c350_2, A350_3, c350_3, e350, hx350_0, hx350_1, hx350_2, hx350_3, hl350_1, hi350_1, hl350_2, hi350_2, hl350_3, hi350_3⟩ := at_T32 HR0.out x4_1 p350 q350
            cases e350
            have HR350_1 := Aside0.mk hi350_1
            have HC350_1 := Aside0.mk hl350_1
            clear hi350_1 hl350_1
            have HR350_2 := Aside0.mk hi350_2
            have HC350_2 := Aside0.mk hl350_2
            clear hi350_2 hl350_2
            have HR350_3 := Aside0.mk hi350_3
            have HC350_3 := Aside0.mk hl350_3
            clear hi350_3 hl350_3
            replace p350 := eq_true p350
            replace q350 := eq_true q350
            have p351 : 0 ≤ (x4_1 : Int) := of_decide_eq_true J2
            have q351 : x4_1 < (l0.length : Int) := of_decide_eq_true J2
            obtain ⟨ad351, A351_1, c351_1, A351_2, c351_2, A351_3, c351_3, e351, hx351_0, hx351_1, hx351_2, hx351_3, hl351_1, hi351_1, hl351_2, hi351_2, hl351_3, hi351_3⟩ := at_T32 HR0.out x4_1 p351 q351
            obtain rfl : ad350 = ad351 := (by injection e351)
            have HR351_1 := Aside0.mk hi351_1
            have HC351_1 := Aside0.mk hl351_1
            clear hi351_1 hl351_1
            have HR351_2 := Aside0.mk hi351_2
            have HC351_2 := Aside0.mk hl351_2
            clear hi351_2 hl351_2
            have HR351_3 := Aside0.mk hi351_3
            have HC351_3 := Aside0.mk hl351_3
            clear hi351_3 hl351_3
            replace p351 := eq_true p351
            replace q351 := eq_true q351
            have ea_ := Option.some.inj (hx350_1.symm.trans hx351_1)
            injection ea_ with ea_ en_ ec_
            subst ea_
            subst ec_
            clear en_
            have ea_ := Option.some.inj (hx350_2.symm.trans hx351_2)
            injection ea_ with ea_ en_ ec_
            subst ea_
            subst ec_
            clear en_
            have ea_ := Option.some.inj (hx350_3.symm.trans hx351_3)
            injection ea_ with ea_ en_ ec_
            subst ea_
            subst ec_
            clear en_
            go_wp2
            repeat (go_quiet (fail); try go_wp2)
            go_ret
            exact ⟨J5, J6⟩
          rw [if_neg c8] at H
          have c8b0 := decide_eq_false c8
          have c8b1 : decide (300 < ((rd_T32 l0 x4_1).f2).length) = false := decide_eq_false J28
          clear c8
          by_cases c9 : (((rd_T32 l0 x4_1).f3).length : Int) > 300
          · rw [if_pos c9] at H
            have c9b0 := decide_eq_true c9
            have c9b1 : decide (300 < ((rd_T32 l0 x4_1).f3).length) = true := decide_eq_true J28
            clear c9
            obtain rfl := Option.some.inj H
            have p350 : 0 ≤ (x4_1 : Int) := of_decide_eq_true J2
            have q350 : x4_1 < (l0.length : Int) := of_decide_eq_true J2
            obtain ⟨ad350, A350_1, c350_1, A350_2, c350_2, A350_3, c350_3, e350, hx350_0, hx350_1, hx350_2, hx350_3, hl350_1, hi350_1, hl350_2, hi350_2, hl350_3, hi350_3⟩ := at_T32 HR0.out x4_1 p350 q350
            cases e350
            have HR350_1 := Aside0.mk hi350_1
            have HC350_1 := Aside0.mk hl350_1
            clear hi350_1 hl350_1
            have HR350_2 := Aside0.mk hi350_2
            have HC350_2 := Aside0.mk hl350_2
            clear hi350_2 hl350_2
            have HR350_3 := Aside0.mk hi350_3
            have HC350_3 := Aside0.mk hl350_3
            clear hi350_3 hl350_3
            replace p350 := eq_true p350
            replace q350 := eq_true q350
            have p351 : 0 ≤ (x4_1 : Int) := of_decide_eq_true J2
            have q351 : x4_1 < (l0.length : Int) := of_decide_eq_true J2
            obtain ⟨ad351, A351_1, c351_1, A351_2, c351_2, A351_3, c351_3, e351, hx351_0, hx351_1, hx351_2, hx351_3, hl351_1, hi351_1, hl351_2, hi351_2, hl351_3, hi351_3⟩ := at_T32 HR0.out x4_1 p351 q351
            obtain rfl : ad350 = ad351 := (by injection e351)
            have HR351_1 := Aside0.mk hi351_1
            have HC351_1 := Aside0.mk hl351_1
            clear hi351_1 hl351_1
            have HR351_2 := Aside0.mk hi351_2
            have HC351_2 := Aside0.mk hl351_2
            clear hi351_2 hl351_2
            have HR351_3 := Aside0.mk hi351_3
            have HC351_3 := Aside0.mk hl351_3
            clear hi351_3 hl351_3
            replace p351 := eq_true p351
            replace q351 := eq_true q351
            have ea_ := Option.some.inj (hx350_1.symm.trans hx351_1)
            injection ea_ with ea_ en_ ec_
            subst ea_
            subst ec_
            clear en_
            have ea_ := Option.some.inj (hx350_2.symm.trans hx351_2)
            injection ea_ with ea_ en_ ec_
            subst ea_
            subst ec_
            clear en_
            have ea_ := Option.some.inj (hx350_3.symm.trans hx351_3)
            injection ea_ with ea_ en_ ec_
            subst ea_
            subst ec_
            clear en_
            have p352 : 0 ≤ (x4_1 : Int) := of_decide_eq_true J2
            have q352 : x4_1 < (l0.length : Int) := of_decide_eq_true J2
            obtain ⟨ad352, A352_1, c352_1, A352_2, c352_2, A352_3, c352_3, e352, hx352_0, hx352_1, hx352_2, hx352_3, hl352_1, hi352_1, hl352_2, hi352_2, hl352_3, hi352_3⟩ := at_T32 HR0.out x4_1 p352 q352
            obtain rfl : ad350 = ad352 := (by injection e352)
            have HR352_1 := Aside0.mk hi352_1
            have HC352_1 := Aside0.mk hl352_1
            clear hi352_1 hl352_1
            have HR352_2 := Aside0.mk hi352_2
            have HC352_2 := Aside0.mk hl352_2
            clear hi352_2 hl352_2
            have HR352_3 := Aside0.mk hi352_3
            have HC352_3 := Aside0.mk hl352_3
            clear hi352_3 hl352_3
            replace p352 := eq_true p352
            replace q352 := eq_true q352
            have ea_ := Option.some.inj (hx350_1.symm.trans hx352_1)
            injection ea_ with ea_ en_ ec_
            subst ea_
            subst ec_
            clear en_
            have ea_ := Option.some.inj (hx350_2.symm.trans hx352_2)
            injection ea_ with ea_ en_ ec_
            subst ea_
            subst ec_
            clear en_
            have ea_ := Option.some.inj (hx350_3.symm.trans hx352_3)
            injection ea_ with ea_ en_ ec_
            subst ea_
            subst ec_
            clear en_
            go_wp2
            repeat (go_quiet (fail); try go_wp2)
            go_ret
            exact ⟨J5, J6⟩
          rw [if_neg c9] at H
          have c9b0 := decide_eq_false c9
          have c9b1 : decide (300 < ((rd_T32 l0 x4_1).f3).length) = false := decide_eq_false J28
          clear c9
          have H' := Aside0.mk H
          clear H
          have p350 : 0 ≤ (x4_1 : Int) := of_decide_eq_true J2
          have q350 : x4_1 < (l0.length : Int) := of_decide_eq_true J2
          obtain ⟨ad350, A350_1, c350_1, A350_2, c350_2, A350_3, c350_3, e350, hx350_0, hx350_1, hx350_2, hx350_3, hl350_1, hi350_1, hl350_2, hi350_2, hl350_3, hi350_3⟩ := at_T32 HR0.out x4_1 p350 q350
          cases e350
          have HR350_1 := Aside0.mk hi350_1
          have HC350_1 := Aside0.mk hl350_1
          clear hi350_1 hl350_1
          have HR350_2 := Aside0.mk hi350_2
          have HC350_2 := Aside0.mk hl350_2
          clear hi350_2 hl350_2
          have HR350_3 := Aside0.mk hi350_3
          have HC350_3 := Aside0.mk hl350_3
          clear hi350_3 hl350_3
          replace p350 := eq_true p350
          replace q350 := eq_true q350
          have p351 : 0 ≤ (x4_1 : Int) := of_decide_eq_true J2
          have q351 : x4_1 < (l0.length : Int) := of_decide_eq_true J2
          obtain ⟨ad351, A351_1, c351_1, A351_2, c351_2, A351_3, c351_3, e351, hx351_0, hx351_1, hx351_2, hx351_3, hl351_1, hi351_1, hl351_2, hi351_2, hl351_3, hi351_3⟩ := at_T32 HR0.out x4_1 p351 q351
          obtain rfl : ad350 = ad351 := (by injection e351)
          have HR351_1 := Aside0.mk hi351_1
          have HC351_1 := Aside0.mk hl351_1
          clear hi351_1 hl351_1
          have HR351_2 := Aside0.mk hi351_2
          have HC351_2 := Aside0.mk hl351_2
          clear hi351_2 hl351_2
          have HR351_3 := Aside0.mk hi351_3
          have HC351_3 := Aside0.mk hl351_3
          clear hi351_3 hl351_3
          replace p351 := eq_true p351
          replace q351 := eq_true q351
          have ea_ := Option.some.inj (hx350_1.symm.trans hx351_1)
          injection ea_ with ea_ en_ ec_
          subst ea_
          subst ec_
          clear en_
          have ea_ := Option.some.inj (hx350_2.symm.trans hx351_2)
          injection ea_ with ea_ en_ ec_
          subst ea_
          subst ec_
          clear en_
          have ea_ := Option.some.inj (hx350_3.symm.trans hx351_3)
          injection ea_ with ea_ en_ ec_
          subst ea_
          subst ec_
          clear en_
          have p352 : 0 ≤ (x4_1 : Int) := of_decide_eq_true J2
          have q352 : x4_1 < (l0.length : Int) := of_decide_eq_true J2
          obtain ⟨ad352, A352_1, c352_1, A352_2, c352_2, A352_3, c352_3, e352, hx352_0, hx352_1, hx352_2, hx352_3, hl352_1, hi352_1, hl352_2, hi352_2, hl352_3, hi352_3⟩ := at_T32 HR0.out x4_1 p352 q352
          obtain rfl : ad350 = ad352 := (by injection e352)
          have HR352_1 := Aside0.mk hi352_1
          have HC352_1 := Aside0.mk hl352_1
          clear hi352_1 hl352_1
          have HR352_2 := Aside0.mk hi352_2
          have HC352_2 := Aside0.mk hl352_2
          clear hi352_2 hl352_2
          have HR352_3 := Aside0.mk hi352_3
          have HC352_3 := Aside0.mk hl352_3
          clear hi352_3 hl352_3
          replace p352 := eq_true p352
          replace q352 := eq_true q352
          have ea_ := Option.some.inj (hx350_1.symm.trans hx352_1)
          injection ea_ with ea_ en_ ec_
          subst ea_
          subst ec_
          clear en_
          have ea_ := Option.some.inj (hx350_2.symm.trans hx352_2)
          injection ea_ with ea_ en_ ec_
          subst ea_
          subst ec_
          clear en_
          have ea_ := Option.some.inj (hx350_3.symm.trans hx352_3)
          injection ea_ with ea_ en_ ec_
          subst ea_
          subst ec_
          clear en_
          have p353 : 0 ≤ (x4_1 : Int) := of_decide_eq_true J2
          have q353 : x4_1 < (l0.length : Int) := of_decide_eq_true J2
          obtain ⟨ad353, A353_1, c353_1, A353_2, c353_2, A353_3, c353_3, e353, hx353_0, hx353_1, hx353_2, hx353_3, hl353_1, hi353_1, hl353_2, hi353_2, hl353_3, hi353_3⟩ := at_T32 HR0.out x4_1 p353 q353
          obtain rfl : ad350 = ad353 := (by injection e353)
          have HR353_1 := Aside0.mk hi353_1
          have HC353_1 := Aside0.mk hl353_1
          clear hi353_1 hl353_1
          have HR353_2 := Aside0.mk hi353_2
          have HC353_2 := Aside0.mk hl353_2
          clear hi353_2 hl353_2
          have HR353_3 := Aside0.mk hi353_3
          have HC353_3 := Aside0.mk hl353_3
          clear hi353_3 hl353_3
          replace p353 := eq_true p353
          replace q353 := eq_true q353
          have ea_ := Option.some.inj (hx350_1.symm.trans hx353_1)
          injection ea_ with ea_ en_ ec_
          subst ea_
          subst ec_
          clear en_
          have ea_ := Option.some.inj (hx350_2.symm.trans hx353_2)
          injection ea_ with ea_ en_ ec_
          subst ea_
          subst ec_
          clear en_
          have ea_ := Option.some.inj (hx350_3.symm.trans hx353_3)
          injection ea_ with ea_ en_ ec_
          subst ea_
          subst ec_
          clear en_
          have p354 : 0 ≤ (x4_1 : Int) := of_decide_eq_true J2
          have q354 : x4_1 < (l0.length : Int) := of_decide_eq_true J2
          obtain ⟨ad354, A354_1, c354_1, A354_2, c354_2, A354_3, c354_3, e354, hx354_0, hx354_1, hx354_2, hx354_3, hl354_1, hi354_1, hl354_2, hi354_2, hl354_3, hi354_3⟩ := at_T32 HR0.out x4_1 p354 q354
          obtain rfl : ad350 = ad354 := (by injection e354)
          have HR354_1 := Aside0.mk hi354_1
          have HC354_1 := Aside0.mk hl354_1
          clear hi354_1 hl354_1
          have HR354_2 := Aside0.mk hi354_2
          have HC354_2 := Aside0.mk hl354_2
          clear hi354_2 hl354_2
          have HR354_3 := Aside0.mk hi354_3
          have HC354_3 := Aside0.mk hl354_3
          clear hi354_3 hl354_3
          replace p354 := eq_true p354
          replace q354 := eq_true q354
          have ea_ := Option.some.inj (hx350_1.symm.trans hx354_1)
          injection ea_ with ea_ en_ ec_
          subst ea_
          subst ec_
          clear en_
          have ea_ := Option.some.inj (hx350_2.symm.trans hx354_2)
          injection ea_ with ea_ en_ ec_
          subst ea_
          subst ec_
          clear en_
          have ea_ := Option.some.inj (hx350_3.symm.trans hx354_3)
          injection ea_ with ea_ en_ ec_
          subst ea_
          subst ec_
          clear en_
          go_wp2
          repeat (go_quiet (fail); try go_wp2)
          go_roundg kj1
          case measure => have := HK1.out; have := HJ1.out; omega
          case rel => exact ⟨(wrap64 ((wrap64 (x3_1 + (((rd_T32 l0 x4_1).f2).length : Int))) + (((rd_T32 l0 x4_1).f3).length : Int))), (wrap64 (x4_1 + 1)), J5, J5, H', ⟨by have := HK1.out; have := HJ1.out; omega⟩, J6⟩
end Go.Proofs.Ytgbmbcippldhnaa.HArraySame
