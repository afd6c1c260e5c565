/- What the Go functions of this claim answer, told as functions of numbers and lists, and that other memory stays as it was: words and walks, shortened by a program. -/
import Derived.Test.YtecdklheppcihaaSTightOncex0
import Derived.Test.YtecdklheppcihaaSTightOncex5
import Derived.Test.YtecdklheppcihaaSTightOncex6
import Derived.Test.YtecdklheppcihaaSTightOncex11
import Derived.Test.YtecdklheppcihaaSTightOncex12
import Derived.Test.YtecdklheppcihaaSTightOncex13
import Derived.Test.YtecdklheppcihaaSTightOncex14
namespace Go.Proofs.Ytecdklheppcihaa.HTightNumbers
open Go.RowKit Go.Proofs.YtecdklheppcihaaW.PrintWords Go.Proofs.YtecdklheppcihaaW.PrintLast Go.Proofs.YtecdklheppcihaaW.PrintMore
attribute [local go_sem] max2_int min2_int max_two min_two max_three min_three max_four min_four
set_option linter.unusedVariables false
set_option linter.unusedSimpArgs false
mutual
def decklelaw10_Few.l0 : Nat → List (S30) → Int → Int → Option (Bool)
  | 0, _, _, _ => none
  | k + 1, x0, x3, x4 => if x4 < (x0.length : Int) then (decklelaw10_Few.j1 k x0 x3 x4 (decide (x4 < 200))) else (decklelaw10_Few.j1 k x0 x3 x4 false)
def decklelaw10_Few.j1 : Nat → List (S30) → Int → Int → Bool → Option (Bool)
  | 0, _, _, _, _ => none
  | k + 1, x0, x3, x4, x12 => if x12 = true then (if 0 ≤ x4 then (if x4 < (x0.length : Int) then (if (((rd_T30 x0 x4).f1).length : Int) > 30 then (some false) else (if (((rd_T30 x0 x4).f2).length : Int) > 300 then (some false) else (if (((rd_T30 x0 x4).f3).length : Int) > 300 then (some false) else (decklelaw10_Few.l0 k x0 (wrap64 ((wrap64 (x3 + (((rd_T30 x0 x4).f2).length : Int))) + (((rd_T30 x0 x4).f3).length : Int))) (wrap64 (x4 + 1)))))) else (none)) else (none)) else (if (x0.length : Int) ≤ 100 then (some (decide (x3 ≤ 1000))) else (some false))
end
def decklelaw10_Few.f (k : Nat) (l0 : List (S30)) : Option (Bool) := decklelaw10_Few.l0 k l0 0 0
set_option maxHeartbeats 8000000 in
set_option maxRecDepth 100000 in
theorem decklelaw10_Few.calls (k : Nat) (A0 : Option Addr) (c0 : Nat) (l0 : List (S30)) (r : Bool) (w : World) (hr0 : Kd.C k30 w A0 l0.length l0) (hc0 : l0.length ≤ c0) (h : decklelaw10_Few.f k l0 = some r) :
    Calls Try.prog 10 #[.slice A0 l0.length c0] w fun e w' => e = .returned (.bool r) ∧ Drawn0 w w' := by
  have HR0 := Aside0.mk hr0
  have HC0 := Aside0.mk hc0
  clear hr0 hc0
  have H : (decklelaw10_Few.l0 k l0 0 0) = some r := h
  clear h
  have H' := Aside0.mk H
  clear H
  go_enter Try.func10, Try.ntmps10
  go_wp2
  repeat (go_quiet (fail); try go_wp2)
  go_loopg [3, 4] k (fun kq v3 v4 w' => ∃ (x3_1 : Int) (x4_1 : Int), v3 = .int .i64 x3_1 ∧ v4 = .int .i64 x4_1 ∧ Aside0 (decklelaw10_Few.l0 kq l0 x3_1 x4_1 = some r) ∧ Aside0 (kq ≤ k) ∧ Drawn0 w w')
  case atStart => exact ⟨(0), (0), J5, J5, H', ⟨Nat.le_refl _⟩, J6⟩
  case round =>
    clear H'
    try clear c1
    obtain ⟨x3_1, x4_1, rfl, rfl, HA, HK1, ⟨m1, rfl⟩⟩ := hrel
    cases gk with
    | zero => exact absurd HA.out (by simp [decklelaw10_Few.l0])
    | succ k1 =>
      have H := HA.out
      clear HA
      simp only [decklelaw10_Few.l0] at H
      have HC2 := Aside0.mk H
      clear H
      go_upto_region 3 with (fail)
      repeat (go_quiet (fail); go_upto_region 3 with (fail))
      go_cut [12] (fun v12 wc => ∃ (kq : Nat) (x12_1 : Bool), v12 = .bool x12_1 ∧ Aside0 (decklelaw10_Few.j1 kq l0 x3_1 x4_1 x12_1 = some r) ∧ Aside0 (kq ≤ k1) ∧ Drawn0 w wc)
      case first =>
        have H := HC2.out
        clear HC2
        by_cases c3 : x4_1 < (l0.length : Int)
        rotate_left
        · rw [if_neg c3] at H
          have c3b0 := decide_eq_false c3
          clear c3
          (first | rw [c3b0] | (simp only [i64_w, i32_w]; rw [c3b0]) | skip)
          have H' := Aside0.mk H
          clear H
          go_wp2
          repeat (go_quiet (fail); try go_wp2)
          go_meet
          case rel => exact ⟨_, (false), J5, H', ⟨J70⟩, J6⟩
        rw [if_pos c3] at H
        have c3b0 := decide_eq_true c3
        clear c3
        (first | rw [c3b0] | (simp only [i64_w, i32_w]; rw [c3b0]) | skip)
        have H' := Aside0.mk H
        clear H
        go_wp2
        repeat (go_quiet (fail); try go_wp2)
        go_meet
        case rel => exact ⟨_, (decide (x4_1 < 200)), J5, H', ⟨J70⟩, J6⟩
      case rest =>
        clear HC2
        try clear c1
        try clear p2
        try clear c3
        try clear c3b0
        obtain ⟨kq, x12_1, rfl, HA, HJ1, ⟨mc1, rfl⟩⟩ := hcut
        cases kq with
        | zero => exact absurd HA.out (by simp [decklelaw10_Few.j1])
        | succ kj1 =>
          have H := HA.out
          clear HA
          simp only [decklelaw10_Few.j1] at H
          by_cases c4 : x12_1 = true
          rotate_left
          · replace c4 := Bool.eq_false_iff.mpr c4
            subst c4
            rw [if_neg (show ¬ (false = true) by decide)] at H
            by_cases c10 : (l0.length : Int) ≤ 100
            · rw [if_pos c10] at H
              have c10b0 := decide_eq_true c10
              have c10b1 : decide (l0.length ≤ 100) = true := decide_eq_true J40
              clear c10
              obtain rfl := Option.some.inj H
              go_wp2
              repeat (go_quiet (fail); try go_wp2)
              go_ret
              exact ⟨J5, J6⟩
            · rw [if_neg c10] at H
              have c10b0 := decide_eq_false c10
              have c10b1 : decide (l0.length ≤ 100) = false := decide_eq_false J40
              clear c10
              obtain rfl := Option.some.inj H
              go_wp2
              repeat (go_quiet (fail); try go_wp2)
              go_ret
              exact ⟨J5, J6⟩
          subst c4
          rw [if_pos rfl] at H
          by_cases c5 : 0 ≤ x4_1
          rotate_left
          · rw [if_neg c5] at H
            exact absurd H J27
          rw [if_pos c5] at H
          have c5b0 := decide_eq_true c5
          clear c5
          by_cases c6 : x4_1 < (l0.length : Int)
          rotate_left
          · rw [if_neg c6] at H
            exact absurd H J27
          rw [if_pos c6] at H
          have c6b0 := decide_eq_true c6
          clear c6
          by_cases c7 : (((rd_T30 l0 x4_1).f1).length : Int) > 30
          · rw [if_pos c7] at H
            have c7b0 := decide_eq_true c7
            have c7b1 : decide (30 < ((rd_T30 l0 x4_1).f1).length) = true := decide_eq_true J40
            clear c7
            obtain rfl := Option.some.inj H
            have p584 : 0 ≤ (x4_1 : Int) := of_decide_eq_true J3
            have q584 : x4_1 < (l0.length : Int) := of_decide_eq_true J3
            obtain ⟨ad584, A584_1, c584_1, A584_2, c584_2, A584_3, c584_3, e584, hx584_0, hx584_1, hx584_2, hx584_3, hl584_1, hi584_1, hl584_2, hi584_2, hl584_3, hi584_3⟩ := at_T30 HR0.out x4_1 p584 q584
            cases e584
            have HR584_1 := Aside0.mk hi584_1
            have HC584_1 := Aside0.mk hl584_1
            clear hi584_1 hl584_1
            have HR584_2 := Aside0.mk hi584_2
            have HC584_2 := Aside0.mk hl584_2
            clear hi584_2 hl584_2
            have HR584_3 := Aside0.mk hi584_3
            have HC584_3 := Aside0.mk hl584_3
            clear hi584_3 hl584_3
            replace p584 := eq_true p584
            replace q584 := eq_true q584
            go_wp2
            repeat (go_quiet (fail); try go_wp2)
            go_ret
            exact ⟨J5, J6⟩
          rw [if_neg c7] at H
          have c7b0 := decide_eq_false c7
          have c7b1 : decide (30 < ((rd_T30 l0 x4_1).f1).length) = false := decide_eq_false J40
          clear c7
          by_cases c8 : (((rd_T30 l0 x4_1).f2).length : Int) > 300
          · rw [if_pos c8] at H
            have c8b0 := decide_eq_true c8
            have c8b1 : decide (300 < ((rd_T30 l0 x4_1).f2).length) = true := decide_eq_true J40
            clear c8
            obtain rfl := Option.some.inj H
            have p584 : 0 ≤ (x4_1 : Int) := of_decide_eq_true J3
            have q584 : x4_1 < (l0.length : Int) := of_decide_eq_true J3
            obtain ⟨ad584, A584_1, c584_1, A584_2, c584_2, A584_3, c584_3, e584, hx584_0, hx584_1, hx584_2, hx584_3, hl584_1, hi584_1, hl584_2, hi584_2, hl584_3, hi584_3⟩ := at_T30 HR0.out x4_1 p584 q584
            cases e584
            have HR584_1 := Aside0.mk hi584_1
            have HC584_1 := Aside0.mk hl584_1
            clear hi584_1 hl584_1
            have HR584_2 := Aside0.mk hi584_2
            have HC584_2 := Aside0.mk hl584_2
            clear hi584_2 hl584_2
            have HR584_3 := Aside0.mk hi584_3
            have HC584_3 := Aside0.mk hl584_3
            clear hi584_3 hl584_3
            replace p584 := eq_true p584
            replace q584 := eq_true q584
            have p585 : 0 ≤ (x4_1 : Int) := of_decide_eq_true J3
            have q585 : x4_1 < (l0.length : Int) := of_decide_eq_true J3
            obtain ⟨ad585, A585_1, c585_1, A585_2, c585_2, A585_3, c585_3, e585, hx585_0, hx585_1, hx585_2, hx585_3, hl585_1, hi585_1, hl585_2, hi585_2, hl585_3, hi585_3⟩ := at_T30 HR0.out x4_1 p585 q585
            obtain rfl : ad584 = ad585 := (by injection e585)
            have HR585_1 := Aside0.mk hi585_1
            have HC585_1 := Aside0.mk hl585_1
            clear hi585_1 hl585_1
            have HR585_2 := Aside0.mk hi585_2
            have HC585_2 := Aside0.mk hl585_2
            clear hi585_2 hl585_2
            have HR585_3 := Aside0.mk hi585_3
            have HC585_3 := Aside0.mk hl585_3
            clear hi585_3 hl585_3
            replace p585 := eq_true p585
            replace q585 := eq_true q585
            have ea_ := Option.some.inj (hx584_1.symm.trans hx585_1)
            injection ea_ with ea_ en_ ec_
            subst ea_
            subst ec_
            clear en_
            have ea_ := Option.some.inj (hx584_2.symm.trans hx585_2)
            injection ea_ with ea_ en_ ec_
            subst ea_
            subst ec_
            clear en_
            have ea_ := Option.some.inj (hx584_3.symm.trans hx585_3)
            injection ea_ with ea_ en_ ec_
            subst ea_
            subst ec_
            clear en_
            go_wp2
            repeat (go_quiet (fail); try go_wp2)
            go_ret
            exact ⟨J5, J6⟩
          rw [if_neg c8] at H
          have c8b0 := decide_eq_false c8
          have c8b1 : decide (300 < ((rd_T30 l0 x4_1).f2).length) = false := decide_eq_false J40
          clear c8
          by_cases c9 : (((rd_T30 l0 x4_1).f3).length : Int) > 300
          · rw [if_pos c9] at H
            have c9b0 := decide_eq_true c9
            have c9b1 : decide (300 < ((rd_T30 l0 x4_1).f3).length) = true := decide_eq_true J40
            clear c9
            obtain rfl := Option.some.inj H
            have p584 : 0 ≤ (x4_1 : Int) := of_decide_eq_true J3
            have q584 : x4_1 < (l0.length : Int) := of_decide_eq_true J3
            obtain ⟨ad584, A584_1, c584_1, A584_2, c584_2, A584_3, c584_3, e584, hx584_0, hx584_1, hx584_2, hx584_3, hl584_1, hi584_1, hl584_2, hi584_2, hl584_3, hi584_3⟩ := at_T30 HR0.out x4_1 p584 q584
            cases e584
            have HR584_1 := Aside0.mk hi584_1
            have HC584_1 := Aside0.mk hl584_1
            clear hi584_1 hl584_1
            have HR584_2 := Aside0.mk hi584_2
            have HC584_2 := Aside0.mk hl584_2
            clear hi584_2 hl584_2
            have HR584_3 := Aside0.mk hi584_3
            have HC584_3 := Aside0.mk hl584_3
            clear hi584_3 hl584_3
            replace p584 := eq_true p584
            replace q584 := eq_true q584
            have p585 : 0 ≤ (x4_1 : Int) := of_decide_eq_true J3
            have q585 : x4_1 < (l0.length : Int) := of_decide_eq_true J3
            obtain ⟨ad585, A585_1, c585_1, A585_2, c585_2, A585_3, c585_3, e585, hx585_0, hx585_1, hx585_2, hx585_3, hl585_1, hi585_1, hl585_2, hi585_2, hl585_3, hi585_3⟩ := at_T30 HR0.out x4_1 p585 q585
            obtain rfl : ad584 = ad585 := (by injection e585)
            have HR585_1 := Aside0.mk hi585_1
            have HC585_1 := Aside0.mk hl585_1
            clear hi585_1 hl585_1
            have HR585_2 := Aside0.mk hi585_2
            have HC585_2 := Aside0.mk hl585_2
            clear hi585_2 hl585_2
            have HR585_3 := Aside0.mk hi585_3
            have HC585_3 := Aside0.mk hl585_3
            clear hi585_3 hl585_3
            replace p585 := eq_true p585
            replace q585 := eq_true q585
            have ea_ := Option.some.inj (hx584_1.symm.trans hx585_1)
            injection ea_ with ea_ en_ ec_
            subst ea_
            subst ec_
            clear en_
            have ea_ := Option.some.inj (hx584_2.symm.trans hx585_2)
            injection ea_ with ea_ en_ ec_
            subst ea_
            subst ec_
            clear en_
            have ea_ := Option.some.inj (hx584_3.symm.trans hx585_3)
            injection ea_ with ea_ en_ ec_
            subst ea_
            subst ec_
            clear en_
            have p586 : 0 ≤ (x4_1 : Int) := of_decide_eq_true J3
            have q586 : x4_1 < (l0.length : Int) := of_decide_eq_true J3
            obtain ⟨ad586, A586_1, c586_1, A586_2, c586_2, A586_3, c586_3, e586, hx586_0, hx586_1, hx586_2, hx586_3, hl586_1, hi586_1, hl586_2, hi586_2, hl586_3, hi586_3⟩ := at_T30 HR0.out x4_1 p586 q586
            obtain rfl : ad584 = ad586 := (by injection e586)
            have HR586_1 := Aside0.mk hi586_1
            have HC586_1 := Aside0.mk hl586_1
            clear hi586_1 hl586_1
            have HR586_2 := Aside0.mk hi586_2
            have HC586_2 := Aside0.mk hl586_2
            clear hi586_2 hl586_2
            have HR586_3 := Aside0.mk hi586_3
            have HC586_3 := Aside0.mk hl586_3
            clear hi586_3 hl586_3
            replace p586 := eq_true p586
            replace q586 := eq_true q586
            have ea_ := Option.some.inj (hx584_1.symm.trans hx586_1)
            injection ea_ with ea_ en_ ec_
            subst ea_
            subst ec_
            clear en_
            have ea_ := Option.some.inj (hx584_2.symm.trans hx586_2)
            injection ea_ with ea_ en_ ec_
            subst ea_
            subst ec_
            clear en_
            have ea_ := Option.some.inj (hx584_3.symm.trans hx586_3)
            injection ea_ with ea_ en_ ec_
            subst ea_
            subst ec_
            clear en_
            go_wp2
            repeat (go_quiet (fail); try go_wp2)
            go_ret
            exact ⟨J5, J6⟩
          rw [if_neg c9] at H
          have c9b0 := decide_eq_false c9
          have c9b1 : decide (300 < ((rd_T30 l0 x4_1).f3).length) = false := decide_eq_false J40
          clear c9
          have H' := Aside0.mk H
          clear H
          have p584 : 0 ≤ (x4_1 : Int) := of_decide_eq_true J3
          have q584 : x4_1 < (l0.length : Int) := of_decide_eq_true J3
          obtain ⟨ad584, A584_1, c584_1, A584_2, c584_2, A584_3, c584_3, e584, hx584_0, hx584_1, hx584_2, hx584_3, hl584_1, hi584_1, hl584_2, hi584_2, hl584_3, hi584_3⟩ := at_T30 HR0.out x4_1 p584 q584
          cases e584
          have HR584_1 := Aside0.mk hi584_1
          have HC584_1 := Aside0.mk hl584_1
          clear hi584_1 hl584_1
          have HR584_2 := Aside0.mk hi584_2
          have HC584_2 := Aside0.mk hl584_2
          clear hi584_2 hl584_2
          have HR584_3 := Aside0.mk hi584_3
          have HC584_3 := Aside0.mk hl584_3
          clear hi584_3 hl584_3
          replace p584 := eq_true p584
          replace q584 := eq_true q584
          have p585 : 0 ≤ (x4_1 : Int) := of_decide_eq_true J3
          have q585 : x4_1 < (l0.length : Int) := of_decide_eq_true J3
          obtain ⟨ad585, A585_1, c585_1, A585_2, c585_2, A585_3, c585_3, e585, hx585_0, hx585_1, hx585_2, hx585_3, hl585_1, hi585_1, hl585_2, hi585_2, hl585_3, hi585_3⟩ := at_T30 HR0.out x4_1 p585 q585
          obtain rfl : ad584 = ad585 := (by injection e585)
          have HR585_1 := Aside0.mk hi585_1
          have HC585_1 := Aside0.mk hl585_1
          clear hi585_1 hl585_1
          have HR585_2 := Aside0.mk hi585_2
          have HC585_2 := Aside0.mk hl585_2
          clear hi585_2 hl585_2
          have HR585_3 := Aside0.mk hi585_3
          have HC585_3 := Aside0.mk hl585_3
          clear hi585_3 hl585_3
          replace p585 := eq_true p585
          replace q585 := eq_true q585
          have ea_ := Option.some.inj (hx584_1.symm.trans hx585_1)
          injection ea_ with ea_ en_ ec_
          subst ea_
          subst ec_
          clear en_
          have ea_ := Option.some.inj (hx584_2.symm.trans hx585_2)
          injection ea_ with ea_ en_ ec_
          subst ea_
          subst ec_
          clear en_
          have ea_ := Option.some.inj (hx584_3.symm.trans hx585_3)
          injection ea_ with ea_ en_ ec_
          subst ea_
          subst ec_
          clear en_
          have p586 : 0 ≤ (x4_1 : Int) := of_decide_eq_true J3
          have q586 : x4_1 < (l0.length : Int) := of_decide_eq_true J3
          obtain ⟨ad586, A586_1, c586_1, A586_2, c586_2, A586_3, c586_3, e586, hx586_0, hx586_1, hx586_2, hx586_3, hl586_1, hi586_1, hl586_2, hi586_2, hl586_3, hi586_3⟩ := at_T30 HR0.out x4_1 p586 q586
          obtain rfl : ad584 = ad586 := (by injection e586)
          have HR586_1 := Aside0.mk hi586_1
          have HC586_1 := Aside0.mk hl586_1
          clear hi586_1 hl586_1
          have HR586_2 := Aside0.mk hi586_2
          have HC586_2 := Aside0.mk hl586_2
          clear hi586_2 hl586_2
          have HR586_3 := Aside0.mk hi586_3
          have HC586_3 := Aside0.mk hl586_3
          clear hi586_3 hl586_3
          replace p586 := eq_true p586
          replace q586 := eq_true q586
          have ea_ := Option.some.inj (hx584_1.symm.trans hx586_1)
          injection ea_ with ea_ en_ ec_
          subst ea_
          subst ec_
          clear en_
          have ea_ := Option.some.inj (hx584_2.symm.trans hx586_2)
          injection ea_ with ea_ en_ ec_
          subst ea_
          subst ec_
          clear en_
          have ea_ := Option.some.inj (hx584_3.symm.trans hx586_3)
          injection ea_ with ea_ en_ ec_
          subst ea_
          subst ec_
          clear en_
          have p587 : 0 ≤ (x4_1 : Int) := of_decide_eq_true J3
          have q587 : x4_1 < (l0.length : Int) := of_decide_eq_true J3
          obtain ⟨ad587, A587_1, c587_1, A587_2, c587_2, A587_3, c587_3, e587, hx587_0, hx587_1, hx587_2, hx587_3, hl587_1, hi587_1, hl587_2, hi587_2, hl587_3, hi587_3⟩ := at_T30 HR0.out x4_1 p587 q587
          obtain rfl : ad584 = ad587 := (by injection e587)
          have HR587_1 := Aside0.mk hi587_1
          have HC587_1 := Aside0.mk hl587_1
          clear hi587_1 hl587_1
          have HR587_2 := Aside0.mk hi587_2
          have HC587_2 := Aside0.mk hl587_2
          clear hi587_2 hl587_2
          have HR587_3 := Aside0.mk hi587_3
          have HC587_3 := Aside0.mk hl587_3
          clear hi587_3 hl587_3
          replace p587 := eq_true p587
          replace q587 := eq_true q587
          have ea_ := Option.some.inj (hx584_1.symm.trans hx587_1)
          injection ea_ with ea_ en_ ec_
          subst ea_
          subst ec_
          clear en_
          have ea_ := Option.some.inj (hx584_2.symm.trans hx587_2)
          injection ea_ with ea_ en_ ec_
          subst ea_
          subst ec_
          clear en_
          have ea_ := Option.some.inj (hx584_3.symm.trans hx587_3)
          injection ea_ with ea_ en_ ec_
          subst ea_
          subst ec_
          clear en_
          have p588 : 0 ≤ (x4_1 : Int) := of_decide_eq_true J3
          have q588 : x4_1 < (l0.length : Int) := of_decide_eq_true J3
          obtain ⟨ad588, A588_1, c588_1, A588_2, c588_2, A588_3, c588_3, e588, hx588_0, hx588_1, hx588_2, hx588_3, hl588_1, hi588_1, hl588_2, hi588_2, hl588_3, hi588_3⟩ := at_T30 HR0.out x4_1 p588 q588
          obtain rfl : ad584 = ad588 := (by injection e588)
          have HR588_1 := Aside0.mk hi588_1
          have HC588_1 := Aside0.mk hl588_1
          clear hi588_1 hl588_1
          have HR588_2 := Aside0.mk hi588_2
          have HC588_2 := Aside0.mk hl588_2
          clear hi588_2 hl588_2
          have HR588_3 := Aside0.mk hi588_3
          have HC588_3 := Aside0.mk hl588_3
          clear hi588_3 hl588_3
          replace p588 := eq_true p588
          replace q588 := eq_true q588
          have ea_ := Option.some.inj (hx584_1.symm.trans hx588_1)
          injection ea_ with ea_ en_ ec_
          subst ea_
          subst ec_
          clear en_
          have ea_ := Option.some.inj (hx584_2.symm.trans hx588_2)
          injection ea_ with ea_ en_ ec_
          subst ea_
          subst ec_
          clear en_
          have ea_ := Option.some.inj (hx584_3.symm.trans hx588_3)
          injection ea_ with ea_ en_ ec_
          subst ea_
          subst ec_
          clear en_
          go_wp2
          repeat (go_quiet (fail); try go_wp2)
          go_roundg kj1
          case measure => have := HK1.out; have := HJ1.out; omega
          case rel => exact ⟨(wrap64 ((wrap64 (x3_1 + (((rd_T30 l0 x4_1).f2).length : Int))) + (((rd_T30 l0 x4_1).f3).length : Int))), (wrap64 (x4_1 + 1)), J5, J5, H', ⟨by have := HK1.out; have := HJ1.out; omega⟩, J6⟩
def array_Items.f (k : Nat) (l0 : List (S30)) : Option (Int) := (array_walk.f k l0).bind fun bt589 => (if bt589.1 = (l0.length : Int) then (some bt589.2.1) else (some 0))
set_option maxHeartbeats 8000000 in
set_option maxRecDepth 100000 in
theorem array_Items.calls (k : Nat) (A0 : Option Addr) (c0 : Nat) (l0 : List (S30)) (r : Int) (w : World) (hr0 : Kd.C k30 w A0 l0.length l0) (hc0 : l0.length ≤ c0) (h : array_Items.f k l0 = some r) :
    Calls Try.prog 24 #[.slice A0 l0.length c0] w fun e w' => e = .returned (.int .i64 r) ∧ Below w.heap.size w w' := by
  have HR0 := Aside0.mk hr0
  have HC0 := Aside0.mk hc0
  clear hr0 hc0
  have HB := Aside0.mk (Below.refl w.heap.size w)
  have H : ((array_walk.f k l0).bind fun bt589 => (if bt589.1 = (l0.length : Int) then (some bt589.2.1) else (some 0))) = some r := h
  clear h
  replace H := Option.bind_eq_some_iff.mp H
  obtain ⟨⟨t589, t590, t591⟩, A20, H⟩ := H
  dsimp only at H
  have A2 := Aside0.mk A20
  clear A20
  by_cases c3 : t589 = (l0.length : Int)
  rotate_left
  · rw [if_neg c3] at H
    have c3b0 : (t589 == (l0.length : Int)) = false := beq_eq_false_iff_ne.mpr c3
    have c3b1 : (t589 != (l0.length : Int)) = true := bne_iff_ne.mpr c3
    obtain rfl := Option.some.inj H
    go_enter Try.func24, Try.ntmps24
    go_wp2_with (first | ((with_reducible refine gate_callee (f := 48) rfl ?_); refine goesL_ (some 8) rfl rfl Try.func48 J8 rfl #[.slice A0 l0.length c0] rfl J1 ?_; (with_reducible refine (array_walk.calls k _ _ l0 t589 t590 t591 _ ?side1 ?side2 A2.out).mono ?_); (case side1 => repeat (first | exact HR0.out | (with_reducible refine Kd.C_alloc ?_ _) | (with_reducible refine Kd.C_drewN ?_ _) | (with_reducible refine Kd.C_drew ?_))); (case side2 => exact HC0.out); rintro e w5 ⟨rfl, hb⟩; refine ⟨_, rfl, ?_⟩; have n0_ := Aside0.mk (below_step J0 hb); clear HB; have HB := n0_; clear n0_; (try clear hb); (try clear hb2); (try clear hk); (try clear hi)))
    go_ret
    exact ⟨J2, J0⟩
  rw [if_pos c3] at H
  have c3b0 : (t589 == (l0.length : Int)) = true := beq_iff_eq.mpr c3
  have c3b1 : (t589 != (l0.length : Int)) = false := bne_eq_false_iff_eq.mpr c3
  clear c3
  obtain rfl := Option.some.inj H
  go_enter Try.func24, Try.ntmps24
  go_wp2_with (first | ((with_reducible refine gate_callee (f := 48) rfl ?_); refine goesL_ (some 8) rfl rfl Try.func48 J8 rfl #[.slice A0 l0.length c0] rfl J1 ?_; (with_reducible refine (array_walk.calls k _ _ l0 t589 t590 t591 _ ?side1 ?side2 A2.out).mono ?_); (case side1 => repeat (first | exact HR0.out | (with_reducible refine Kd.C_alloc ?_ _) | (with_reducible refine Kd.C_drewN ?_ _) | (with_reducible refine Kd.C_drew ?_))); (case side2 => exact HC0.out); rintro e w4 ⟨rfl, hb⟩; refine ⟨_, rfl, ?_⟩; have n0_ := Aside0.mk (below_step J0 hb); clear HB; have HB := n0_; clear n0_; (try clear hb); (try clear hb2); (try clear hk); (try clear hi)))
  go_ret
  exact ⟨J2, J0⟩
def array_Depth.f (k : Nat) (l0 : List (S30)) : Option (Int) := (array_walk.f k l0).bind fun bt592 => (if bt592.1 = (l0.length : Int) then (some bt592.2.2) else (some 0))
set_option maxHeartbeats 8000000 in
set_option maxRecDepth 100000 in
theorem array_Depth.calls (k : Nat) (A0 : Option Addr) (c0 : Nat) (l0 : List (S30)) (r : Int) (w : World) (hr0 : Kd.C k30 w A0 l0.length l0) (hc0 : l0.length ≤ c0) (h : array_Depth.f k l0 = some r) :
    Calls Try.prog 25 #[.slice A0 l0.length c0] w fun e w' => e = .returned (.int .i64 r) ∧ Below w.heap.size w w' := by
  have HR0 := Aside0.mk hr0
  have HC0 := Aside0.mk hc0
  clear hr0 hc0
  have HB := Aside0.mk (Below.refl w.heap.size w)
  have H : ((array_walk.f k l0).bind fun bt592 => (if bt592.1 = (l0.length : Int) then (some bt592.2.2) else (some 0))) = some r := h
  clear h
  replace H := Option.bind_eq_some_iff.mp H
  obtain ⟨⟨t592, t593, t594⟩, A20, H⟩ := H
  dsimp only at H
  have A2 := Aside0.mk A20
  clear A20
  by_cases c3 : t592 = (l0.length : Int)
  rotate_left
  · rw [if_neg c3] at H
    have c3b0 : (t592 == (l0.length : Int)) = false := beq_eq_false_iff_ne.mpr c3
    have c3b1 : (t592 != (l0.length : Int)) = true := bne_iff_ne.mpr c3
    obtain rfl := Option.some.inj H
    go_enter Try.func25, Try.ntmps25
    go_wp2_with (first | ((with_reducible refine gate_callee (f := 48) rfl ?_); refine goesL_ (some 8) rfl rfl Try.func48 J8 rfl #[.slice A0 l0.length c0] rfl J1 ?_; (with_reducible refine (array_walk.calls k _ _ l0 t592 t593 t594 _ ?side1 ?side2 A2.out).mono ?_); (case side1 => repeat (first | exact HR0.out | (with_reducible refine Kd.C_alloc ?_ _) | (with_reducible refine Kd.C_drewN ?_ _) | (with_reducible refine Kd.C_drew ?_))); (case side2 => exact HC0.out); rintro e w5 ⟨rfl, hb⟩; refine ⟨_, rfl, ?_⟩; have n0_ := Aside0.mk (below_step J0 hb); clear HB; have HB := n0_; clear n0_; (try clear hb); (try clear hb2); (try clear hk); (try clear hi)))
    go_ret
    exact ⟨J2, J0⟩
  rw [if_pos c3] at H
  have c3b0 : (t592 == (l0.length : Int)) = true := beq_iff_eq.mpr c3
  have c3b1 : (t592 != (l0.length : Int)) = false := bne_eq_false_iff_eq.mpr c3
  clear c3
  obtain rfl := Option.some.inj H
  go_enter Try.func25, Try.ntmps25
  go_wp2_with (first | ((with_reducible refine gate_callee (f := 48) rfl ?_); refine goesL_ (some 8) rfl rfl Try.func48 J8 rfl #[.slice A0 l0.length c0] rfl J1 ?_; (with_reducible refine (array_walk.calls k _ _ l0 t592 t593 t594 _ ?side1 ?side2 A2.out).mono ?_); (case side1 => repeat (first | exact HR0.out | (with_reducible refine Kd.C_alloc ?_ _) | (with_reducible refine Kd.C_drewN ?_ _) | (with_reducible refine Kd.C_drew ?_))); (case side2 => exact HC0.out); rintro e w4 ⟨rfl, hb⟩; refine ⟨_, rfl, ?_⟩; have n0_ := Aside0.mk (below_step J0 hb); clear HB; have HB := n0_; clear n0_; (try clear hb); (try clear hb2); (try clear hk); (try clear hi)))
  go_ret
  exact ⟨J2, J0⟩
def decklelaw11_TightOnce.f (k : Nat) (l0 : List (S30)) : Option (Bool) := (decklelaw11_small.f k).bind fun t595 => ((decklelaw10_Few.f k l0).bind fun t596 => (if t596 = true then ((tight_Make.f k l0).bind fun bt597 => (if bt597.2 = true then ((tight_Make.f k bt597.1).bind fun bt602 => (if t595 = true then ((array_Right.f k l0).bind fun t606 => (if t606 = true then ((array_Right.f k bt597.1).bind fun t607 => (if t607 = true then ((tight_Right.f k bt597.1).bind fun t608 => (if t608 = true then (if bt602.2 = true then ((deckleref10_Same.f k bt597.1 bt602.1).bind fun t609 => (if t609 = true then (if (bt597.1.length : Int) ≤ (l0.length : Int) then ((array_Items.f k bt597.1).bind fun t610 => ((array_Items.f k l0).bind fun t611 => (if t610 ≤ t611 then ((array_Depth.f k bt597.1).bind fun t612 => ((array_Depth.f k l0).bind fun t613 => (if t612 ≤ t613 then ((tight_Right.f k l0).bind fun t614 => ((deckleref10_Same.f k l0 bt597.1).bind fun t615 => (some (t614 == t615)))) else (none)))) else (none)))) else (none)) else (none))) else (none)) else (none))) else (none))) else (none))) else (none))) else (if t595 = true then (if (bt597.1.length : Int) = 0 then ((array_Right.f k l0).bind fun t601 => (some (!t601))) else (none)) else (none)))) else (some t595)))
set_option maxHeartbeats 8000000 in
set_option maxRecDepth 100000 in
theorem decklelaw11_TightOnce.calls (k : Nat) (A0 : Option Addr) (c0 : Nat) (l0 : List (S30)) (r : Bool) (w : World) (hr0 : Kd.C k30 w A0 l0.length l0) (hc0 : l0.length ≤ c0) (h : decklelaw11_TightOnce.f k l0 = some r) :
    Calls Try.prog 7 #[.slice A0 l0.length c0] w fun e w' => e = .returned (.bool r) ∧ Below w.heap.size w w' := by
  have HR0 := Aside0.mk hr0
  have HC0 := Aside0.mk hc0
  clear hr0 hc0
  have HB := Aside0.mk (Below.refl w.heap.size w)
  have H : ((decklelaw11_small.f k).bind fun t595 => ((decklelaw10_Few.f k l0).bind fun t596 => (if t596 = true then ((tight_Make.f k l0).bind fun bt597 => (if bt597.2 = true then ((tight_Make.f k bt597.1).bind fun bt602 => (if t595 = true then ((array_Right.f k l0).bind fun t606 => (if t606 = true then ((array_Right.f k bt597.1).bind fun t607 => (if t607 = true then ((tight_Right.f k bt597.1).bind fun t608 => (if t608 = true then (if bt602.2 = true then ((deckleref10_Same.f k bt597.1 bt602.1).bind fun t609 => (if t609 = true then (if (bt597.1.length : Int) ≤ (l0.length : Int) then ((array_Items.f k bt597.1).bind fun t610 => ((array_Items.f k l0).bind fun t611 => (if t610 ≤ t611 then ((array_Depth.f k bt597.1).bind fun t612 => ((array_Depth.f k l0).bind fun t613 => (if t612 ≤ t613 then ((tight_Right.f k l0).bind fun t614 => ((deckleref10_Same.f k l0 bt597.1).bind fun t615 => (some (t614 == t615)))) else (none)))) else (none)))) else (none)) else (none))) else (none)) else (none))) else (none))) else (none))) else (none))) else (if t595 = true then (if (bt597.1.length : Int) = 0 then ((array_Right.f k l0).bind fun t601 => (some (!t601))) else (none)) else (none)))) else (some t595)))) = some r := h
  clear h
  replace H := Option.bind_eq_some_iff.mp H
  obtain ⟨t595, A20, H⟩ := H
  have A2 := Aside0.mk A20
  clear A20
  replace H := Option.bind_eq_some_iff.mp H
  obtain ⟨t596, A30, H⟩ := H
  have A3 := Aside0.mk A30
  clear A30
  by_cases c4 : t596 = true
  rotate_left
  · replace c4 := Bool.eq_false_iff.mpr c4
    subst c4
    rw [if_neg (show ¬ (false = true) by decide)] at H
    obtain rfl := Option.some.inj H
    go_enter Try.func7, Try.ntmps7
    go_wp2_with (first | ((with_reducible refine gate_callee (f := 9) rfl ?_); refine goesL_ (some 9) rfl rfl Try.func9 J8 rfl #[] rfl J1 ?_; (with_reducible refine (decklelaw11_small.calls k  t595 _ A2.out).mono ?_); rintro e w49 ⟨rfl, hb⟩; refine ⟨_, rfl, ?_⟩; have n0_ := Aside0.mk (below_step J0 hb); clear HB; have HB := n0_; clear n0_; (try clear hb); (try clear hb2); (try clear hk); (try clear hi)) | ((with_reducible refine gate_callee (f := 10) rfl ?_); refine goesL_ (some 11) rfl rfl Try.func10 J8 rfl #[.slice A0 l0.length c0] rfl J1 ?_; (with_reducible refine (decklelaw10_Few.calls k _ _ l0 false _ ?side1 ?side2 A3.out).mono ?_); (case side1 => repeat (first | exact (Kd.C_below HR0.out HB.out) | (with_reducible refine Kd.C_alloc ?_ _) | (with_reducible refine Kd.C_drewN ?_ _) | (with_reducible refine Kd.C_drew ?_))); (case side2 => exact HC0.out); rintro e w' ⟨rfl, ⟨nd, rfl⟩⟩; refine ⟨_, rfl, ?_⟩))
    go_ret
    exact ⟨J2, J0⟩
  subst c4
  rw [if_pos rfl] at H
  replace H := Option.bind_eq_some_iff.mp H
  obtain ⟨⟨t597, t600⟩, A50, H⟩ := H
  dsimp only at H
  have A5 := Aside0.mk A50
  clear A50
  by_cases c6 : t600 = true
  rotate_left
  · replace c6 := Bool.eq_false_iff.mpr c6
    subst c6
    rw [if_neg (show ¬ (false = true) by decide)] at H
    by_cases c42 : t595 = true
    · subst c42
      rw [if_pos rfl] at H
      by_cases c43 : (t597.length : Int) = 0
      · rw [if_pos c43] at H
        have c43b0 : ((t597.length : Int) == 0) = true := beq_iff_eq.mpr c43
        have c43b1 : ((t597.length : Int) != 0) = false := bne_eq_false_iff_eq.mpr c43
        clear c43
        replace H := Option.bind_eq_some_iff.mp H
        obtain ⟨t601, A440, H⟩ := H
        have A44 := Aside0.mk A440
        clear A440
        obtain rfl := Option.some.inj H
        go_enter Try.func7, Try.ntmps7
        go_wp2_with (first | ((with_reducible refine gate_callee (f := 9) rfl ?_); refine goesL_ (some 9) rfl rfl Try.func9 J8 rfl #[] rfl J1 ?_; (with_reducible refine (decklelaw11_small.calls k  true _ A2.out).mono ?_); rintro e w45 ⟨rfl, hb⟩; refine ⟨_, rfl, ?_⟩; have n0_ := Aside0.mk (below_step J0 hb); clear HB; have HB := n0_; clear n0_; (try clear hb); (try clear hb2); (try clear hk); (try clear hi)) | ((with_reducible refine gate_callee (f := 10) rfl ?_); refine goesL_ (some 11) rfl rfl Try.func10 J8 rfl #[.slice A0 l0.length c0] rfl J1 ?_; (with_reducible refine (decklelaw10_Few.calls k _ _ l0 true _ ?side1 ?side2 A3.out).mono ?_); (case side1 => repeat (first | exact (Kd.C_below HR0.out HB.out) | (with_reducible refine Kd.C_alloc ?_ _) | (with_reducible refine Kd.C_drewN ?_ _) | (with_reducible refine Kd.C_drew ?_))); (case side2 => exact HC0.out); rintro e w' ⟨rfl, ⟨nd, rfl⟩⟩; refine ⟨_, rfl, ?_⟩) | ((with_reducible refine gate_callee (f := 11) rfl ?_); refine goesL_ (some 17) rfl rfl Try.func11 J8 rfl #[.slice A0 l0.length c0] rfl J1 ?_; (with_reducible refine (tight_Make.calls k (fun _ => True) _ _ l0 t597 false _ ?side1 A5.out).mono ?_); (case side1 => exact Kd.V_mono (ok' := fun _ => True) (Kd.V_mk HC0.out (Kd.F_below (Kd.C_F k30_heap HR0.out) J0)) (fun _ _ => trivial)); rintro e w46 ⟨v598, rfl, ho0, hb⟩; refine ⟨_, rfl, ?_⟩; have n0_ := Aside0.mk (Kd.N_lower (Kd.N_mono (ok' := fun _ => True) ho0 (fun _ _ => trivial)) (below_size J0)); have n1_ := Aside0.mk (below_step J0 hb); clear HB; have HO599 := n0_; have HB := n1_; clear n0_ n1_; (try clear hb); (try clear hb2); (try clear hk); (try clear hi); (try clear ho0); obtain ⟨Ao47, co47, eo47⟩ := Kd.N_slice HO599.out; subst eo47) | (go_at_call 23; (with_reducible refine (array_Right.calls k _ _ l0 t601 _ ?side1 ?side2 A44.out).mono ?_); (case side1 => repeat (first | exact (Kd.C_below HR0.out HB.out) | (with_reducible refine Kd.C_alloc ?_ _) | (with_reducible refine Kd.C_drewN ?_ _) | (with_reducible refine Kd.C_drew ?_))); (case side2 => exact HC0.out); rintro e w48 ⟨rfl, hb⟩; have n1_ := Aside0.mk (below_step J0 hb); clear HB; have HB := n1_; clear n1_; (try clear hb); (try clear hb2); (try clear hk); (try clear hi)))
        go_ret
        exact ⟨J2, J0⟩
      · rw [if_neg c43] at H
        exact absurd H J27
    · replace c42 := Bool.eq_false_iff.mpr c42
      subst c42
      rw [if_neg (show ¬ (false = true) by decide)] at H
      exact absurd H J27
  subst c6
  rw [if_pos rfl] at H
  replace H := Option.bind_eq_some_iff.mp H
  obtain ⟨⟨t602, t605⟩, A70, H⟩ := H
  dsimp only at H
  have A7 := Aside0.mk A70
  clear A70
  by_cases c8 : t595 = true
  rotate_left
  · replace c8 := Bool.eq_false_iff.mpr c8
    subst c8
    rw [if_neg (show ¬ (false = true) by decide)] at H
    exact absurd H J27
  subst c8
  rw [if_pos rfl] at H
  replace H := Option.bind_eq_some_iff.mp H
  obtain ⟨t606, A90, H⟩ := H
  have A9 := Aside0.mk A90
  clear A90
  by_cases c10 : t606 = true
  rotate_left
  · replace c10 := Bool.eq_false_iff.mpr c10
    subst c10
    rw [if_neg (show ¬ (false = true) by decide)] at H
    exact absurd H J27
  subst c10
  rw [if_pos rfl] at H
  replace H := Option.bind_eq_some_iff.mp H
  obtain ⟨t607, A110, H⟩ := H
  have A11 := Aside0.mk A110
  clear A110
  by_cases c12 : t607 = true
  rotate_left
  · replace c12 := Bool.eq_false_iff.mpr c12
    subst c12
    rw [if_neg (show ¬ (false = true) by decide)] at H
    exact absurd H J27
  subst c12
  rw [if_pos rfl] at H
  replace H := Option.bind_eq_some_iff.mp H
  obtain ⟨t608, A130, H⟩ := H
  have A13 := Aside0.mk A130
  clear A130
  by_cases c14 : t608 = true
  rotate_left
  · replace c14 := Bool.eq_false_iff.mpr c14
    subst c14
    rw [if_neg (show ¬ (false = true) by decide)] at H
    exact absurd H J27
  subst c14
  rw [if_pos rfl] at H
  by_cases c15 : t605 = true
  rotate_left
  · replace c15 := Bool.eq_false_iff.mpr c15
    subst c15
    rw [if_neg (show ¬ (false = true) by decide)] at H
    exact absurd H J27
  subst c15
  rw [if_pos rfl] at H
  replace H := Option.bind_eq_some_iff.mp H
  obtain ⟨t609, A160, H⟩ := H
  have A16 := Aside0.mk A160
  clear A160
  by_cases c17 : t609 = true
  rotate_left
  · replace c17 := Bool.eq_false_iff.mpr c17
    subst c17
    rw [if_neg (show ¬ (false = true) by decide)] at H
    exact absurd H J27
  subst c17
  rw [if_pos rfl] at H
  by_cases c18 : (t597.length : Int) ≤ (l0.length : Int)
  rotate_left
  · rw [if_neg c18] at H
    exact absurd H J27
  rw [if_pos c18] at H
  have c18b0 := decide_eq_true c18
  have c18b1 : decide (t597.length ≤ l0.length) = true := decide_eq_true (Int.ofNat_le.mp c18)
  clear c18
  replace H := Option.bind_eq_some_iff.mp H
  obtain ⟨t610, A190, H⟩ := H
  have A19 := Aside0.mk A190
  clear A190
  replace H := Option.bind_eq_some_iff.mp H
  obtain ⟨t611, A200, H⟩ := H
  have A20 := Aside0.mk A200
  clear A200
  by_cases c21 : t610 ≤ t611
  rotate_left
  · rw [if_neg c21] at H
    exact absurd H J27
  rw [if_pos c21] at H
  have c21b0 := decide_eq_true c21
  clear c21
  replace H := Option.bind_eq_some_iff.mp H
  obtain ⟨t612, A220, H⟩ := H
  have A22 := Aside0.mk A220
  clear A220
  replace H := Option.bind_eq_some_iff.mp H
  obtain ⟨t613, A230, H⟩ := H
  have A23 := Aside0.mk A230
  clear A230
  by_cases c24 : t612 ≤ t613
  rotate_left
  · rw [if_neg c24] at H
    exact absurd H J27
  rw [if_pos c24] at H
  have c24b0 := decide_eq_true c24
  clear c24
  replace H := Option.bind_eq_some_iff.mp H
  obtain ⟨t614, A250, H⟩ := H
  have A25 := Aside0.mk A250
  clear A250
  replace H := Option.bind_eq_some_iff.mp H
  obtain ⟨t615, A260, H⟩ := H
  have A26 := Aside0.mk A260
  clear A260
  obtain rfl := Option.some.inj H
  go_enter Try.func7, Try.ntmps7
  go_wp2_with (first | ((with_reducible refine gate_callee (f := 9) rfl ?_); refine goesL_ (some 9) rfl rfl Try.func9 J8 rfl #[] rfl J1 ?_; (with_reducible refine (decklelaw11_small.calls k  true _ A2.out).mono ?_); rintro e w27 ⟨rfl, hb⟩; refine ⟨_, rfl, ?_⟩; have n0_ := Aside0.mk (below_step J0 hb); clear HB; have HB := n0_; clear n0_; (try clear hb); (try clear hb2); (try clear hk); (try clear hi)) | ((with_reducible refine gate_callee (f := 10) rfl ?_); refine goesL_ (some 11) rfl rfl Try.func10 J8 rfl #[.slice A0 l0.length c0] rfl J1 ?_; (with_reducible refine (decklelaw10_Few.calls k _ _ l0 true _ ?side1 ?side2 A3.out).mono ?_); (case side1 => repeat (first | exact (Kd.C_below HR0.out HB.out) | (with_reducible refine Kd.C_alloc ?_ _) | (with_reducible refine Kd.C_drewN ?_ _) | (with_reducible refine Kd.C_drew ?_))); (case side2 => exact HC0.out); rintro e w' ⟨rfl, ⟨nd, rfl⟩⟩; refine ⟨_, rfl, ?_⟩) | ((with_reducible refine gate_callee (f := 11) rfl ?_); refine goesL_ (some 17) rfl rfl Try.func11 J8 rfl #[.slice A0 l0.length c0] rfl J1 ?_; (with_reducible refine (tight_Make.calls k (fun _ => True) _ _ l0 t597 true _ ?side1 A5.out).mono ?_); (case side1 => exact Kd.V_mono (ok' := fun _ => True) (Kd.V_mk HC0.out (Kd.F_below (Kd.C_F k30_heap HR0.out) J0)) (fun _ _ => trivial)); rintro e w28 ⟨v598, rfl, ho0, hb⟩; refine ⟨_, rfl, ?_⟩; have n0_ := Aside0.mk (Kd.N_lower (Kd.N_mono (ok' := fun _ => True) ho0 (fun _ _ => trivial)) (below_size J0)); have n1_ := Aside0.mk (below_step J0 hb); clear HB; have HO599 := n0_; have HB := n1_; clear n0_ n1_; (try clear hb); (try clear hb2); (try clear hk); (try clear hi); (try clear ho0); obtain ⟨Ao29, co29, eo29⟩ := Kd.N_slice HO599.out; subst eo29) | ((with_reducible refine gate_callee (f := 11) rfl ?_); refine goesL_ (some 35) rfl rfl Try.func11 J8 rfl #[.slice Ao29 t597.length co29] rfl J1 ?_; (with_reducible refine (tight_Make.calls k (fun _ => True) _ _ t597 t602 true _ ?side1 A7.out).mono ?_); (case side1 => exact Kd.N_V (HO599.out)); rintro e w30 ⟨v603, rfl, ho0, hb⟩; refine ⟨_, rfl, ?_⟩; have n0_ := Aside0.mk (Kd.N_elder' (zn HO599.out) (Kd.N_base ho0) hb); have n1_ := Aside0.mk (Kd.N_lower (Kd.N_mono (ok' := fun _ => True) ho0 (fun _ _ => trivial)) (below_size J0)); have n2_ := Aside0.mk (below_step J0 hb); clear HO599; clear HB; have HO599 := n0_; have HO604 := n1_; have HB := n2_; clear n0_ n1_ n2_; (try clear hb); (try clear hb2); (try clear hk); (try clear hi); (try clear ho0)) | (go_at_call 23; (with_reducible refine (array_Right.calls k _ _ l0 true _ ?side1 ?side2 A9.out).mono ?_); (case side1 => repeat (first | exact (Kd.C_below HR0.out HB.out) | (with_reducible refine Kd.C_alloc ?_ _) | (with_reducible refine Kd.C_drewN ?_ _) | (with_reducible refine Kd.C_drew ?_))); (case side2 => exact HC0.out); rintro e w31 ⟨rfl, hb⟩; have n0_ := Aside0.mk (Kd.N_below (zn HO599.out) hb); have n1_ := Aside0.mk (Kd.N_below (zn HO604.out) hb); have n2_ := Aside0.mk (below_step J0 hb); clear HO599; clear HO604; clear HB; have HO599 := n0_; have HO604 := n1_; have HB := n2_; clear n0_ n1_ n2_; (try clear hb); (try clear hb2); (try clear hk); (try clear hi)) | (go_at_call 23; (with_reducible refine (array_Right.calls k _ _ t597 true _ ?side1 ?side2 A11.out).mono ?_); (case side1 => repeat (first | exact (Kd.N_reads' HO599.out).2.2 | (with_reducible refine Kd.C_alloc ?_ _) | (with_reducible refine Kd.C_drewN ?_ _) | (with_reducible refine Kd.C_drew ?_))); (case side2 => exact (Kd.N_reads' HO599.out).2.1); rintro e w32 ⟨rfl, hb⟩; have n0_ := Aside0.mk (Kd.N_below (zn HO599.out) hb); have n1_ := Aside0.mk (Kd.N_below (zn HO604.out) hb); have n2_ := Aside0.mk (below_step J0 hb); clear HO599; clear HO604; clear HB; have HO599 := n0_; have HO604 := n1_; have HB := n2_; clear n0_ n1_ n2_; (try clear hb); (try clear hb2); (try clear hk); (try clear hi)) | (go_at_call 18; (with_reducible refine (tight_Right.calls k _ _ t597 true _ ?side1 ?side2 A13.out).mono ?_); (case side1 => repeat (first | exact (Kd.N_reads' HO599.out).2.2 | (with_reducible refine Kd.C_alloc ?_ _) | (with_reducible refine Kd.C_drewN ?_ _) | (with_reducible refine Kd.C_drew ?_))); (case side2 => exact (Kd.N_reads' HO599.out).2.1); rintro e w33 ⟨rfl, hb⟩; have n0_ := Aside0.mk (Kd.N_below (zn HO599.out) hb); have n1_ := Aside0.mk (Kd.N_below (zn HO604.out) hb); have n2_ := Aside0.mk (below_step J0 hb); clear HO599; clear HO604; clear HB; have HO599 := n0_; have HO604 := n1_; have HB := n2_; clear n0_ n1_ n2_; (try clear hb); (try clear hb2); (try clear hk); (try clear hi); obtain ⟨Ao34, co34, eo34⟩ := Kd.N_slice HO604.out; subst eo34) | (go_at_call 16; (with_reducible refine (deckleref10_Same.calls k _ _ t597 _ _ t602 true _ ?side1 ?side2 ?side3 ?side4 A16.out).mono ?_); (case side1 => repeat (first | exact (Kd.N_reads' HO599.out).2.2 | (with_reducible refine Kd.C_alloc ?_ _) | (with_reducible refine Kd.C_drewN ?_ _) | (with_reducible refine Kd.C_drew ?_))); (case side2 => exact (Kd.N_reads' HO599.out).2.1); (case side3 => repeat (first | exact (Kd.N_reads' HO604.out).2.2 | (with_reducible refine Kd.C_alloc ?_ _) | (with_reducible refine Kd.C_drewN ?_ _) | (with_reducible refine Kd.C_drew ?_))); (case side4 => exact (Kd.N_reads' HO604.out).2.1); rintro e w35 ⟨rfl, hb⟩; have n0_ := Aside0.mk (Kd.N_below (zn HO599.out) hb); have n2_ := Aside0.mk (below_step J0 hb); clear HO599; clear HB; have HO599 := n0_; have HB := n2_; clear n0_ n2_; (try clear hb); (try clear hb2); (try clear hk); (try clear hi)) | (go_at_call 24; (with_reducible refine (array_Items.calls k _ _ t597 t610 _ ?side1 ?side2 A19.out).mono ?_); (case side1 => repeat (first | exact (Kd.N_reads' HO599.out).2.2 | (with_reducible refine Kd.C_alloc ?_ _) | (with_reducible refine Kd.C_drewN ?_ _) | (with_reducible refine Kd.C_drew ?_))); (case side2 => exact (Kd.N_reads' HO599.out).2.1); rintro e w36 ⟨rfl, hb⟩; have n0_ := Aside0.mk (Kd.N_below (zn HO599.out) hb); have n2_ := Aside0.mk (below_step J0 hb); clear HO599; clear HB; have HO599 := n0_; have HB := n2_; clear n0_ n2_; (try clear hb); (try clear hb2); (try clear hk); (try clear hi)) | (go_at_call 24; (with_reducible refine (array_Items.calls k _ _ l0 t611 _ ?side1 ?side2 A20.out).mono ?_); (case side1 => repeat (first | exact (Kd.C_below HR0.out HB.out) | (with_reducible refine Kd.C_alloc ?_ _) | (with_reducible refine Kd.C_drewN ?_ _) | (with_reducible refine Kd.C_drew ?_))); (case side2 => exact HC0.out); rintro e w37 ⟨rfl, hb⟩; have n0_ := Aside0.mk (Kd.N_below (zn HO599.out) hb); have n2_ := Aside0.mk (below_step J0 hb); clear HO599; clear HB; have HO599 := n0_; have HB := n2_; clear n0_ n2_; (try clear hb); (try clear hb2); (try clear hk); (try clear hi)) | (go_at_call 25; (with_reducible refine (array_Depth.calls k _ _ t597 t612 _ ?side1 ?side2 A22.out).mono ?_); (case side1 => repeat (first | exact (Kd.N_reads' HO599.out).2.2 | (with_reducible refine Kd.C_alloc ?_ _) | (with_reducible refine Kd.C_drewN ?_ _) | (with_reducible refine Kd.C_drew ?_))); (case side2 => exact (Kd.N_reads' HO599.out).2.1); rintro e w38 ⟨rfl, hb⟩; have n0_ := Aside0.mk (Kd.N_below (zn HO599.out) hb); have n2_ := Aside0.mk (below_step J0 hb); clear HO599; clear HB; have HO599 := n0_; have HB := n2_; clear n0_ n2_; (try clear hb); (try clear hb2); (try clear hk); (try clear hi)) | (go_at_call 25; (with_reducible refine (array_Depth.calls k _ _ l0 t613 _ ?side1 ?side2 A23.out).mono ?_); (case side1 => repeat (first | exact (Kd.C_below HR0.out HB.out) | (with_reducible refine Kd.C_alloc ?_ _) | (with_reducible refine Kd.C_drewN ?_ _) | (with_reducible refine Kd.C_drew ?_))); (case side2 => exact HC0.out); rintro e w39 ⟨rfl, hb⟩; have n0_ := Aside0.mk (Kd.N_below (zn HO599.out) hb); have n2_ := Aside0.mk (below_step J0 hb); clear HO599; clear HB; have HO599 := n0_; have HB := n2_; clear n0_ n2_; (try clear hb); (try clear hb2); (try clear hk); (try clear hi)) | (go_at_call 18; (with_reducible refine (tight_Right.calls k _ _ l0 t614 _ ?side1 ?side2 A25.out).mono ?_); (case side1 => repeat (first | exact (Kd.C_below HR0.out HB.out) | (with_reducible refine Kd.C_alloc ?_ _) | (with_reducible refine Kd.C_drewN ?_ _) | (with_reducible refine Kd.C_drew ?_))); (case side2 => exact HC0.out); rintro e w40 ⟨rfl, hb⟩; have n0_ := Aside0.mk (Kd.N_below (zn HO599.out) hb); have n2_ := Aside0.mk (below_step J0 hb); clear HO599; clear HB; have HO599 := n0_; have HB := n2_; clear n0_ n2_; (try clear hb); (try clear hb2); (try clear hk); (try clear hi)) | (go_at_call 16; (with_reducible refine (deckleref10_Same.calls k _ _ l0 _ _ t597 t615 _ ?side1 ?side2 ?side3 ?side4 A26.out).mono ?_); (case side1 => repeat (first | exact (Kd.C_below HR0.out HB.out) | (with_reducible refine Kd.C_alloc ?_ _) | (with_reducible refine Kd.C_drewN ?_ _) | (with_reducible refine Kd.C_drew ?_))); (case side2 => exact HC0.out); (case side3 => repeat (first | exact (Kd.N_reads' HO599.out).2.2 | (with_reducible refine Kd.C_alloc ?_ _) | (with_reducible refine Kd.C_drewN ?_ _) | (with_reducible refine Kd.C_drew ?_))); (case side4 => exact (Kd.N_reads' HO599.out).2.1); rintro e w41 ⟨rfl, hb⟩; have n0_ := Aside0.mk (Kd.N_below (zn HO599.out) hb); have n2_ := Aside0.mk (below_step J0 hb); clear HO599; clear HB; have HO599 := n0_; have HB := n2_; clear n0_ n2_; (try clear hb); (try clear hb2); (try clear hk); (try clear hi)))
  go_ret
  exact ⟨J2, J0⟩
end Go.Proofs.Ytecdklheppcihaa.HTightNumbers
