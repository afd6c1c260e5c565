/- What the Go functions of this claim answer, told as functions of numbers and lists, and that other memory stays as it was: words and walks, shortened by a program. -/
import Derived.Test.YtecdklheppcihaaSTightAlonex0
import Derived.Test.YtecdklheppcihaaSTightAlonex2
import Derived.Test.YtecdklheppcihaaSTightAlonex5
import Derived.Test.YtecdklheppcihaaSTightAlonex6
import Derived.Test.YtecdklheppcihaaSTightAlonex7
import Derived.Test.YtecdklheppcihaaSTightAlonex8
namespace Go.Proofs.Ytecdklheppcihaa.HTightNumbers
open Go.RowKit Go.Proofs.YtecdklheppcihaaW.PrintWords Go.Proofs.YtecdklheppcihaaW.PrintLast Go.Proofs.YtecdklheppcihaaW.PrintMore
attribute [local go_sem] max2_int min2_int max_two min_two max_three min_three max_four min_four
set_option linter.unusedVariables false
set_option linter.unusedSimpArgs false
mutual
def decklelaw10_Few.l0 : Nat → List (S30) → Int → Int → Option (Bool)
  | 0, _, _, _ => none
  | k + 1, x0, x3, x4 => if x4 < (x0.length : Int) then (decklelaw10_Few.j1 k x0 x3 x4 (decide (x4 < 200))) else (decklelaw10_Few.j1 k x0 x3 x4 false)
def decklelaw10_Few.j1 : Nat → List (S30) → Int → Int → Bool → Option (Bool)
  | 0, _, _, _, _ => none
  | k + 1, x0, x3, x4, x12 => if x12 = true then (if 0 ≤ x4 then (if x4 < (x0.length : Int) then (if (((rd_T30 x0 x4).f1).length : Int) > 30 then (some false) else (if (((rd_T30 x0 x4).f2).length : Int) > 300 then (some false) else (if (((rd_T30 x0 x4).f3).length : Int) > 300 then (some false) else (decklelaw10_Few.l0 k x0 (wrap64 ((wrap64 (x3 + (((rd_T30 x0 x4).f2).length : Int))) + (((rd_T30 x0 x4).f3).length : Int))) (wrap64 (x4 + 1)))))) else (none)) else (none)) else (if (x0.length : Int) ≤ 100 then (some (decide (x3 ≤ 1000))) else (some false))
end
def decklelaw10_Few.f (k : Nat) (l0 : List (S30)) : Option (Bool) := decklelaw10_Few.l0 k l0 0 0
set_option maxHeartbeats 8000000 in
set_option maxRecDepth 100000 in
theorem decklelaw10_Few.calls (k : Nat) (A0 : Option Addr) (c0 : Nat) (l0 : List (S30)) (r : Bool) (w : World) (hr0 : Kd.C k30 w A0 l0.length l0) (hc0 : l0.length ≤ c0) (h : decklelaw10_Few.f k l0 = some r) :
    Calls Try.prog 10 #[.slice A0 l0.length c0] w fun e w' => e = .returned (.bool r) ∧ Drawn0 w w' := by
  have HR0 := zq hr0
  have HC0 := zq hc0
  clear hr0 hc0
  have H : (decklelaw10_Few.l0 k l0 0 0) = some r := h
  clear h
  have H' := zq H
  clear H
  go_enter Try.func10, Try.ntmps10
  go_wp2
  repeat (go_quiet (fail); try go_wp2)
  go_loopg [3, 4] k (fun kq v3 v4 w' => ∃ (x3_1 : Int) (x4_1 : Int), v3 = .int .i64 x3_1 ∧ v4 = .int .i64 x4_1 ∧ Aside0 (decklelaw10_Few.l0 kq l0 x3_1 x4_1 = some r) ∧ Aside0 (kq ≤ k) ∧ Drawn0 w w')
  case atStart => exact ⟨(0), (0), J5, J5, H', ⟨Nat.le_refl _⟩, J6⟩
  case round =>
    clear H'
    try clear c1
    obtain ⟨x3_1, x4_1, rfl, rfl, HA, HK1, ⟨m1, rfl⟩⟩ := hrel
    cases gk with
    | zero => exact absurd HA.out (by simp [decklelaw10_Few.l0])
    | succ k1 =>
      have H := HA.out
      clear HA
      simp only [decklelaw10_Few.l0] at H
      have HC2 := zq H
      clear H
      go_upto_region 3 with (fail)
      repeat (go_quiet (fail); go_upto_region 3 with (fail))
      go_cut [12] (fun v12 wc => ∃ (kq : Nat) (x12_1 : Bool), v12 = .bool x12_1 ∧ Aside0 (decklelaw10_Few.j1 kq l0 x3_1 x4_1 x12_1 = some r) ∧ Aside0 (kq ≤ k1) ∧ Drawn0 w wc)
      case first =>
        have H := HC2.out
        clear HC2
        by_cases c3 : x4_1 < (l0.length : Int)
        rotate_left
        · rw [if_neg c3] at H
          have c3b0 := decide_eq_false c3
          clear c3
          (first | rw [c3b0] | (simp only [i64_w, i32_w]; rw [c3b0]) | skip)
          have H' := zq H
          clear H
          go_wp2
          repeat (go_quiet (fail); try go_wp2)
          go_meet
          case rel => exact ⟨_, (false), J5, H', ⟨J71⟩, J6⟩
        rw [if_pos c3] at H
        have c3b0 := decide_eq_true c3
        clear c3
        (first | rw [c3b0] | (simp only [i64_w, i32_w]; rw [c3b0]) | skip)
        have H' := zq H
        clear H
        go_wp2
        repeat (go_quiet (fail); try go_wp2)
        go_meet
        case rel => exact ⟨_, (decide (x4_1 < 200)), J5, H', ⟨J71⟩, J6⟩
      case rest =>
        clear HC2
        try clear c1
        try clear p2
        try clear c3
        try clear c3b0
        obtain ⟨kq, x12_1, rfl, HA, HJ1, ⟨mc1, rfl⟩⟩ := hcut
        cases kq with
        | zero => exact absurd HA.out (by simp [decklelaw10_Few.j1])
        | succ kj1 =>
          have H := HA.out
          clear HA
          simp only [decklelaw10_Few.j1] at H
          by_cases c4 : x12_1 = true
          rotate_left
          · replace c4 := Bool.eq_false_iff.mpr c4
            subst c4
            rw [if_neg (show ¬ (false = true) by decide)] at H
            by_cases c10 : (l0.length : Int) ≤ 100
            · rw [if_pos c10] at H
              have c10b0 := decide_eq_true c10
              have c10b1 : decide (l0.length ≤ 100) = true := decide_eq_true J33
              clear c10
              obtain rfl := Option.some.inj H
              go_wp2
              repeat (go_quiet (fail); try go_wp2)
              go_ret
              exact ⟨J5, J6⟩
            · rw [if_neg c10] at H
              have c10b0 := decide_eq_false c10
              have c10b1 : decide (l0.length ≤ 100) = false := decide_eq_false J33
              clear c10
              obtain rfl := Option.some.inj H
              go_wp2
              repeat (go_quiet (fail); try go_wp2)
              go_ret
              exact ⟨J5, J6⟩
          subst c4
          rw [if_pos rfl] at H
          by_cases c5 : 0 ≤ x4_1
          rotate_left
          · rw [if_neg c5] at H
            exact absurd H J27
          rw [if_pos c5] at H
          have c5b0 := decide_eq_true c5
          clear c5
          by_cases c6 : x4_1 < (l0.length : Int)
          rotate_left
          · rw [if_neg c6] at H
            exact absurd H J27
          rw [if_pos c6] at H
          have c6b0 := decide_eq_true c6
          clear c6
          by_cases c7 : (((rd_T30 l0 x4_1).f1).length : Int) > 30
          · rw [if_pos c7] at H
            have c7b0 := decide_eq_true c7
            have c7b1 : decide (30 < ((rd_T30 l0 x4_1).f1).length) = true := decide_eq_true J33
            clear c7
            obtain rfl := Option.some.inj H
            have p584 : 0 ≤ (x4_1 : Int) := of_decide_eq_true J3
            have q584 : x4_1 < (l0.length : Int) := of_decide_eq_true J3
            obtain ⟨ad584, A584_1, c584_1, A584_2, c584_2, A584_3, c584_3, e584, hx584_0, hx584_1, hx584_2, hx584_3, hl584_1, hi584_1, hl584_2, hi584_2, hl584_3, hi584_3⟩ := at_T30 HR0.out x4_1 p584 q584
            cases e584
            have HR584_1 := zq hi584_1
            have HC584_1 := zq hl584_1
            clear hi584_1 hl584_1
            have HR584_2 := zq hi584_2
            have HC584_2 := zq hl584_2
            clear hi584_2 hl584_2
            have HR584_3 := zq hi584_3
            have HC584_3 := zq hl584_3
            clear hi584_3 hl584_3
            replace p584 := eq_true p584
            replace q584 := eq_true q584
            go_wp2
            repeat (go_quiet (fail); try go_wp2)
            go_ret
            exact ⟨J5, J6⟩
          rw [if_neg c7] at H
          have c7b0 := decide_eq_false c7
          have c7b1 : decide (30 < ((rd_T30 l0 x4_1).f1).length) = false := decide_eq_false J33
          clear c7
          by_cases c8 : (((rd_T30 l0 x4_1).f2).length : Int) > 300
          · rw [if_pos c8] at H
            have c8b0 := decide_eq_true c8
            have c8b1 : decide (300 < ((rd_T30 l0 x4_1).f2).length) = true := decide_eq_true J33
            clear c8
            obtain rfl := Option.some.inj H
            have p584 : 0 ≤ (x4_1 : Int) := of_decide_eq_true J3
            have q584 : x4_1 < (l0.length : Int) := of_decide_eq_true J3
            obtain ⟨ad584, A584_1, c584_1, A584_2, c584_2, A584_3, c584_3, e584, hx584_0, hx584_1, hx584_2, hx584_3, hl584_1, hi584_1, hl584_2, hi584_2, hl584_3, hi584_3⟩ := at_T30 HR0.out x4_1 p584 q584
            cases e584
            have HR584_1 := zq hi584_1
            have HC584_1 := zq hl584_1
            clear hi584_1 hl584_1
            have HR584_2 := zq hi584_2
            have HC584_2 := zq hl584_2
            clear hi584_2 hl584_2
            have HR584_3 := zq hi584_3
            have HC584_3 := zq hl584_3
            clear hi584_3 hl584_3
            replace p584 := eq_true p584
            replace q584 := eq_true q584
            have p585 : 0 ≤ (x4_1 : Int) := of_decide_eq_true J3
            have q585 : x4_1 < (l0.length : Int) := of_decide_eq_true J3
            obtain ⟨ad585, A585_1, c585_1, A585_2, c585_2, A585_3, c585_3, e585, hx585_0, hx585_1, hx585_2, hx585_3, hl585_1, hi585_1, hl585_2, hi585_2, hl585_3, hi585_3⟩ := at_T30 HR0.out x4_1 p585 q585
            obtain rfl : ad584 = ad585 := (by injection e585)
            have HR585_1 := zq hi585_1
            have HC585_1 := zq hl585_1
            clear hi585_1 hl585_1
            have HR585_2 := zq hi585_2
            have HC585_2 := zq hl585_2
            clear hi585_2 hl585_2
            have HR585_3 := zq hi585_3
            have HC585_3 := zq hl585_3
            clear hi585_3 hl585_3
            replace p585 := eq_true p585
            replace q585 := eq_true q585
            have ea_ := Option.some.inj (hx584_1.symm.trans hx585_1)
            injection ea_ with ea_ en_ ec_
            subst ea_
            subst ec_
            clear en_
            have ea_ := Option.some.inj (hx584_2.symm.trans hx585_2)
            injection ea_ with ea_ en_ ec_
            subst ea_
            subst ec_
            clear en_
            have ea_ := Option.some.inj (hx584_3.symm.trans hx585_3)
            injection ea_ with ea_ en_ ec_
            subst ea_
            subst ec_
            clear en_
            go_wp2
            repeat (go_quiet (fail); try go_wp2)
            go_ret
            exact ⟨J5, J6⟩
          rw [if_neg c8] at H
          have c8b0 := decide_eq_false c8
          have c8b1 : decide (300 < ((rd_T30 l0 x4_1).f2).length) = false := decide_eq_false J33
          clear c8
          by_cases c9 : (((rd_T30 l0 x4_1).f3).length : Int) > 300
          · rw [if_pos c9] at H
            have c9b0 := decide_eq_true c9
            have c9b1 : decide (300 < ((rd_T30 l0 x4_1).f3).length) = true := decide_eq_true J33
            clear c9
            obtain rfl := Option.some.inj H
            have p584 : 0 ≤ (x4_1 : Int) := of_decide_eq_true J3
            have q584 : x4_1 < (l0.length : Int) := of_decide_eq_true J3
            obtain ⟨ad584, A584_1, c584_1, A584_2, c584_2, A584_3, c584_3, e584, hx584_0, hx584_1, hx584_2, hx584_3, hl584_1, hi584_1, hl584_2, hi584_2, hl584_3, hi584_3⟩ := at_T30 HR0.out x4_1 p584 q584
            cases e584
            have HR584_1 := zq hi584_1
            have HC584_1 := zq hl584_1
            clear hi584_1 hl584_1
            have HR584_2 := zq hi584_2
            have HC584_2 := zq hl584_2
            clear hi584_2 hl584_2
            have HR584_3 := zq hi584_3
            have HC584_3 := zq hl584_3
            clear hi584_3 hl584_3
            replace p584 := eq_true p584
            replace q584 := eq_true q584
            have p585 : 0 ≤ (x4_1 : Int) := of_decide_eq_true J3
            have q585 : x4_1 < (l0.length : Int) := of_decide_eq_true J3
            obtain ⟨ad585, A585_1, c585_1, A585_2, c585_2, A585_3, c585_3, e585, hx585_0, hx585_1, hx585_2, hx585_3, hl585_1, hi585_1, hl585_2, hi585_2, hl585_3, hi585_3⟩ := at_T30 HR0.out x4_1 p585 q585
            obtain rfl : ad584 = ad585 := (by injection e585)
            have HR585_1 := zq hi585_1
            have HC585_1 := zq hl585_1
            clear hi585_1 hl585_1
            have HR585_2 := zq hi585_2
            have HC585_2 := zq hl585_2
            clear hi585_2 hl585_2
            have HR585_3 := zq hi585_3
            have HC585_3 := zq hl585_3
            clear hi585_3 hl585_3
            replace p585 := eq_true p585
            replace q585 := eq_true q585
            have ea_ := Option.some.inj (hx584_1.symm.trans hx585_1)
            injection ea_ with ea_ en_ ec_
            subst ea_
            subst ec_
            clear en_
            have ea_ := Option.some.inj (hx584_2.symm.trans hx585_2)
            injection ea_ with ea_ en_ ec_
            subst ea_
            subst ec_
            clear en_
            have ea_ := Option.some.inj (hx584_3.symm.trans hx585_3)
            injection ea_ with ea_ en_ ec_
            subst ea_
            subst ec_
            clear en_
            have p586 : 0 ≤ (x4_1 : Int) := of_decide_eq_true J3
            have q586 : x4_1 < (l0.length : Int) := of_decide_eq_true J3
            obtain ⟨ad586, A586_1, c586_1, A586_2, c586_2, A586_3, c586_3, e586, hx586_0, hx586_1, hx586_2, hx586_3, hl586_1, hi586_1, hl586_2, hi586_2, hl586_3, hi586_3⟩ := at_T30 HR0.out x4_1 p586 q586
            obtain rfl : ad584 = ad586 := (by injection e586)
            have HR586_1 := zq hi586_1
            have HC586_1 := zq hl586_1
            clear hi586_1 hl586_1
            have HR586_2 := zq hi586_2
            have HC586_2 := zq hl586_2
            clear hi586_2 hl586_2
            have HR586_3 := zq hi586_3
            have HC586_3 := zq hl586_3
            clear hi586_3 hl586_3
            replace p586 := eq_true p586
            replace q586 := eq_true q586
            have ea_ := Option.some.inj (hx584_1.symm.trans hx586_1)
            injection ea_ with ea_ en_ ec_
            subst ea_
            subst ec_
            clear en_
            have ea_ := Option.some.inj (hx584_2.symm.trans hx586_2)
            injection ea_ with ea_ en_ ec_
            subst ea_
            subst ec_
            clear en_
            have ea_ := Option.some.inj (hx584_3.symm.trans hx586_3)
            injection ea_ with ea_ en_ ec_
            subst ea_
            subst ec_
            clear en_
            go_wp2
            repeat (go_quiet (fail); try go_wp2)
            go_ret
            exact ⟨J5, J6⟩
          rw [if_neg c9] at H
          have c9b0 := decide_eq_false c9
          have c9b1 : decide (300 < ((rd_T30 l0 x4_1).f3).length) = false := decide_eq_false J33
          clear c9
          have H' := zq H
          clear H
          have p584 : 0 ≤ (x4_1 : Int) := of_decide_eq_true J3
          have q584 : x4_1 < (l0.length : Int) := of_decide_eq_true J3
          obtain ⟨ad584, A584_1, c584_1, A584_2, c584_2, A584_3, c584_3, e584, hx584_0, hx584_1, hx584_2, hx584_3, hl584_1, hi584_1, hl584_2, hi584_2, hl584_3, hi584_3⟩ := at_T30 HR0.out x4_1 p584 q584
          cases e584
          have HR584_1 := zq hi584_1
          have HC584_1 := zq hl584_1
          clear hi584_1 hl584_1
          have HR584_2 := zq hi584_2
          have HC584_2 := zq hl584_2
          clear hi584_2 hl584_2
          have HR584_3 := zq hi584_3
          have HC584_3 := zq hl584_3
          clear hi584_3 hl584_3
          replace p584 := eq_true p584
          replace q584 := eq_true q584
          have p585 : 0 ≤ (x4_1 : Int) := of_decide_eq_true J3
          have q585 : x4_1 < (l0.length : Int) := of_decide_eq_true J3
          obtain ⟨ad585, A585_1, c585_1, A585_2, c585_2, A585_3, c585_3, e585, hx585_0, hx585_1, hx585_2, hx585_3, hl585_1, hi585_1, hl585_2, hi585_2, hl585_3, hi585_3⟩ := at_T30 HR0.out x4_1 p585 q585
          obtain rfl : ad584 = ad585 := (by injection e585)
          have HR585_1 := zq hi585_1
          have HC585_1 := zq hl585_1
          clear hi585_1 hl585_1
          have HR585_2 := zq hi585_2
          have HC585_2 := zq hl585_2
          clear hi585_2 hl585_2
          have HR585_3 := zq hi585_3
          have HC585_3 := zq hl585_3
          clear hi585_3 hl585_3
          replace p585 := eq_true p585
          replace q585 := eq_true q585
          have ea_ := Option.some.inj (hx584_1.symm.trans hx585_1)
          injection ea_ with ea_ en_ ec_
          subst ea_
          subst ec_
          clear en_
          have ea_ := Option.some.inj (hx584_2.symm.trans hx585_2)
          injection ea_ with ea_ en_ ec_
          subst ea_
          subst ec_
          clear en_
          have ea_ := Option.some.inj (hx584_3.symm.trans hx585_3)
          injection ea_ with ea_ en_ ec_
          subst ea_
          subst ec_
          clear en_
          have p586 : 0 ≤ (x4_1 : Int) := of_decide_eq_true J3
          have q586 : x4_1 < (l0.length : Int) := of_decide_eq_true J3
          obtain ⟨ad586, A586_1, c586_1, A586_2, c586_2, A586_3, c586_3, e586, hx586_0, hx586_1, hx586_2, hx586_3, hl586_1, hi586_1, hl586_2, hi586_2, hl586_3, hi586_3⟩ := at_T30 HR0.out x4_1 p586 q586
          obtain rfl : ad584 = ad586 := (by injection e586)
          have HR586_1 := zq hi586_1
          have HC586_1 := zq hl586_1
          clear hi586_1 hl586_1
          have HR586_2 := zq hi586_2
          have HC586_2 := zq hl586_2
          clear hi586_2 hl586_2
          have HR586_3 := zq hi586_3
          have HC586_3 := zq hl586_3
          clear hi586_3 hl586_3
          replace p586 := eq_true p586
          replace q586 := eq_true q586
          have ea_ := Option.some.inj (hx584_1.symm.trans hx586_1)
          injection ea_ with ea_ en_ ec_
          subst ea_
          subst ec_
          clear en_
          have ea_ := Option.some.inj (hx584_2.symm.trans hx586_2)
          injection ea_ with ea_ en_ ec_
          subst ea_
          subst ec_
          clear en_
          have ea_ := Option.some.inj (hx584_3.symm.trans hx586_3)
          injection ea_ with ea_ en_ ec_
          subst ea_
          subst ec_
          clear en_
          have p587 : 0 ≤ (x4_1 : Int) := of_decide_eq_true J3
          have q587 : x4_1 < (l0.length : Int) := of_decide_eq_true J3
          obtain ⟨ad587, A587_1, c587_1, A587_2, c587_2, A587_3, c587_3, e587, hx587_0, hx587_1, hx587_2, hx587_3, hl587_1, hi587_1, hl587_2, hi587_2, hl587_3, hi587_3⟩ := at_T30 HR0.out x4_1 p587 q587
          obtain rfl : ad584 = ad587 := (by injection e587)
          have HR587_1 := zq hi587_1
          have HC587_1 := zq hl587_1
          clear hi587_1 hl587_1
          have HR587_2 := zq hi587_2
          have HC587_2 := zq hl587_2
          clear hi587_2 hl587_2
          have HR587_3 := zq hi587_3
          have HC587_3 := zq hl587_3
          clear hi587_3 hl587_3
          replace p587 := eq_true p587
          replace q587 := eq_true q587
          have ea_ := Option.some.inj (hx584_1.symm.trans hx587_1)
          injection ea_ with ea_ en_ ec_
          subst ea_
          subst ec_
          clear en_
          have ea_ := Option.some.inj (hx584_2.symm.trans hx587_2)
          injection ea_ with ea_ en_ ec_
          subst ea_
          subst ec_
          clear en_
          have ea_ := Option.some.inj (hx584_3.symm.trans hx587_3)
          injection ea_ with ea_ en_ ec_
          subst ea_
          subst ec_
          clear en_
          have p588 : 0 ≤ (x4_1 : Int) := of_decide_eq_true J3
          have q588 : x4_1 < (l0.length : Int) := of_decide_eq_true J3
          obtain ⟨ad588, A588_1, c588_1, A588_2, c588_2, A588_3, c588_3, e588, hx588_0, hx588_1, hx588_2, hx588_3, hl588_1, hi588_1, hl588_2, hi588_2, hl588_3, hi588_3⟩ := at_T30 HR0.out x4_1 p588 q588
          obtain rfl : ad584 = ad588 := (by injection e588)
          have HR588_1 := zq hi588_1
          have HC588_1 := zq hl588_1
          clear hi588_1 hl588_1
          have HR588_2 := zq hi588_2
          have HC588_2 := zq hl588_2
          clear hi588_2 hl588_2
          have HR588_3 := zq hi588_3
          have HC588_3 := zq hl588_3
          clear hi588_3 hl588_3
          replace p588 := eq_true p588
          replace q588 := eq_true q588
          have ea_ := Option.some.inj (hx584_1.symm.trans hx588_1)
          injection ea_ with ea_ en_ ec_
          subst ea_
          subst ec_
          clear en_
          have ea_ := Option.some.inj (hx584_2.symm.trans hx588_2)
          injection ea_ with ea_ en_ ec_
          subst ea_
          subst ec_
          clear en_
          have ea_ := Option.some.inj (hx584_3.symm.trans hx588_3)
          injection ea_ with ea_ en_ ec_
          subst ea_
          subst ec_
          clear en_
          go_wp2
          repeat (go_quiet (fail); try go_wp2)
          go_roundg kj1
          case measure => have := HK1.out; have := HJ1.out; omega
          case rel => exact ⟨(wrap64 ((wrap64 (x3_1 + (((rd_T30 l0 x4_1).f2).length : Int))) + (((rd_T30 l0 x4_1).f3).length : Int))), (wrap64 (x4_1 + 1)), J5, J5, H', ⟨by have := HK1.out; have := HJ1.out; omega⟩, J6⟩
def api_Node_44.l0 : Nat → List (List (S30)) → Int → Int → Option (Bool)
  | 0, _, _, _ => none
  | k + 1, x7, x8, x9 => if x9 < x8 then (if 0 ≤ x9 then (if x9 < (x7.length : Int) then ((array_Right.f k (rd_L5 x7 x9)).bind fun t590 => (if t590 = true then (api_Node_44.l0 k x7 x8 (wrap64 (x9 + 1))) else (some true))) else (none)) else (none)) else (some false)
def api_Node_44.f (k : Nat) (l0 : List (List (S30))) : Option (Bool) := api_Node_44.l0 k l0 (l0.length : Int) 0
set_option maxHeartbeats 8000000 in
set_option maxRecDepth 100000 in
theorem api_Node_44.calls (k : Nat) (A0 : Option Addr) (c0 : Nat) (l0 : List (List (S30))) (r : Bool) (w : World) (hr0 : Kd.C (Kd.slice 30 k30) w A0 l0.length l0) (hc0 : l0.length ≤ c0) (h : api_Node_44.f k l0 = some r) :
    Calls Try.prog 44 #[.slice A0 l0.length c0, .func (.func 23) #[] #[]] w fun e w' => e = .returned (.bool r) ∧ Below w.heap.size w w' := by
  have HR0 := zq hr0
  have HC0 := zq hc0
  clear hr0 hc0
  have HB := zq (Below.refl w.heap.size w)
  have H : (api_Node_44.l0 k l0 (l0.length : Int) 0) = some r := h
  clear h
  have H' := zq H
  clear H
  go_enter Try.func44, Try.ntmps44
  go_wp2
  go_loopg [9] k (fun kq v9 w' => ∃ (x9_1 : Int), v9 = .int .i64 x9_1 ∧ Aside0 (api_Node_44.l0 kq l0 (l0.length : Int) x9_1 = some r) ∧ Aside0 (kq ≤ k) ∧ Aside0 (Below w.heap.size w w'))
  case atStart => exact ⟨(0), J5, H', ⟨Nat.le_refl _⟩, ⟨J0⟩⟩
  case round =>
    clear H'
    obtain ⟨x9_1, rfl, HA, HK1, HB⟩ := hrel
    cases gk with
    | zero => exact absurd HA.out (by simp [api_Node_44.l0])
    | succ k1 =>
      have H := HA.out
      clear HA
      simp only [api_Node_44.l0] at H
      by_cases c2 : x9_1 < (l0.length : Int)
      rotate_left
      · rw [if_neg c2] at H
        have c2b0 := decide_eq_false c2
        clear c2
        obtain rfl := Option.some.inj H
        go_wp2
        go_ret
        exact ⟨J2, J0⟩
      rw [if_pos c2] at H
      have c2b0 := decide_eq_true c2
      clear c2
      by_cases c3 : 0 ≤ x9_1
      rotate_left
      · rw [if_neg c3] at H
        exact absurd H J27
      rw [if_pos c3] at H
      have c3b0 := decide_eq_true c3
      clear c3
      by_cases c4 : x9_1 < (l0.length : Int)
      rotate_left
      · rw [if_neg c4] at H
        exact absurd H J27
      rw [if_pos c4] at H
      have c4b0 := decide_eq_true c4
      clear c4
      replace H := Option.bind_eq_some_iff.mp H
      obtain ⟨t590, A50, H⟩ := H
      have A5 := zq A50
      clear A50
      by_cases c6 : t590 = true
      rotate_left
      · replace c6 := Bool.eq_false_iff.mpr c6
        subst c6
        rw [if_neg (show ¬ (false = true) by decide)] at H
        obtain rfl := Option.some.inj H
        have p589 : 0 ≤ (x9_1 : Int) := of_decide_eq_true J3
        have q589 : x9_1 < (l0.length : Int) := of_decide_eq_true J3
        obtain ⟨ad589, A589_0, c589_0, e589, hx589_0, hl589_0, hi589_0⟩ := at_L5 HR0.out x9_1 p589 q589
        cases e589
        replace hx589_0 := (HB.out.cell (World.block_lt_of_cell? w _ hx589_0)).trans hx589_0
        have HR589_0 := zq hi589_0
        have HC589_0 := zq hl589_0
        clear hi589_0 hl589_0
        replace p589 := eq_true p589
        replace q589 := eq_true q589
        go_wp2_with (first | ((with_reducible refine gate_dst (N := 15) rfl ?_); refine goesLv_ (some 15) rfl rfl Try.func23 J8 rfl #[.slice A589_0 (rd_L5 l0 x9_1).length c589_0] (.tmp 13) rfl rfl J1 ?_; (with_reducible refine (array_Right.calls k1 _ _ (rd_L5 l0 x9_1) false _ ?side1 ?side2 A5.out).mono ?_); (case side1 => exact zc (Kd.C_below HR589_0.out HB.out)); (case side2 => exact HC589_0.out); rintro e w8 ⟨rfl, hb⟩; refine ⟨_, rfl, ?_⟩; replace HB := zq (below_step J0 hb); (try clear hb)))
        go_ret
        exact ⟨J2, J0⟩
      subst c6
      rw [if_pos rfl] at H
      have H' := zq H
      clear H
      have p589 : 0 ≤ (x9_1 : Int) := of_decide_eq_true J3
      have q589 : x9_1 < (l0.length : Int) := of_decide_eq_true J3
      obtain ⟨ad589, A589_0, c589_0, e589, hx589_0, hl589_0, hi589_0⟩ := at_L5 HR0.out x9_1 p589 q589
      cases e589
      replace hx589_0 := (HB.out.cell (World.block_lt_of_cell? w _ hx589_0)).trans hx589_0
      have HR589_0 := zq hi589_0
      have HC589_0 := zq hl589_0
      clear hi589_0 hl589_0
      replace p589 := eq_true p589
      replace q589 := eq_true q589
      go_wp2_with (first | ((with_reducible refine gate_dst (N := 15) rfl ?_); refine goesLv_ (some 15) rfl rfl Try.func23 J8 rfl #[.slice A589_0 (rd_L5 l0 x9_1).length c589_0] (.tmp 13) rfl rfl J1 ?_; (with_reducible refine (array_Right.calls k1 _ _ (rd_L5 l0 x9_1) true _ ?side1 ?side2 A5.out).mono ?_); (case side1 => exact zc (Kd.C_below HR589_0.out HB.out)); (case side2 => exact HC589_0.out); rintro e w7 ⟨rfl, hb⟩; refine ⟨_, rfl, ?_⟩; replace HB := zq (below_step J0 hb); (try clear hb)))
      go_roundg k1
      case measure => have := HK1.out; omega
      case rel => exact ⟨(wrap64 (x9_1 + 1)), J5, H', ⟨J66⟩, ⟨J0⟩⟩
def array_Nest.j0 : Nat → List Int → List (List (S30)) → Bool → Option ((List (S30)) × Bool)
  | 0, _, _, _ => none
  | k + 1, x0, x1, x25 => if x25 = true then (some (([] : List (S30)), false)) else ((some (([(⟨5, x0, ([] : List Int), ([] : List (S38))⟩ : S30)] : List (S30)) : List (S30))).bind fun y594 => ((api_Node_46.f k x1).bind fun t597 => (if y594.length + t597.length < 1759218604441 then ((array_Copy.f (y594 ++ t597)).bind fun t603 => ((array_Right.f k t603).bind fun t606 => (if t606 = true then (some (t603, true)) else (some (([] : List (S30)), false))))) else (none))))
def array_Nest.f (k : Nat) (l0 : List Int) (l1 : List (List (S30))) : Option ((List (S30)) × Bool) := (shape_Count.f k l0).bind fun bt591 => (if bt591.2 = true then (if bt591.1 = (l1.length : Int) then ((api_Node_44.f k l1).bind fun t593 => (array_Nest.j0 k l0 l1 t593)) else (array_Nest.j0 k l0 l1 true)) else (array_Nest.j0 k l0 l1 true))
set_option maxHeartbeats 8000000 in
set_option maxRecDepth 100000 in
theorem array_Nest.calls (k : Nat) (P0_ : Nat → Prop) (A0 : Option Addr) (c0 : Nat) (l0 : List Int) (P1_ : Nat → Prop) (A1 : Option Addr) (c1 : Nat) (l1 : List (List (S30))) (r1 : List (S30)) (r2 : Bool) (w : World) (hs0 : Kd.V (Kd.int .i64) 3 w w.heap.size (fun k_ => P0_ k_) (.slice A0 l0.length c0) l0) (hs1 : Kd.V (Kd.slice 30 k30) 22 w w.heap.size (fun k_ => P1_ k_) (.slice A1 l1.length c1) l1) (h : array_Nest.f k l0 l1 = some (r1, r2)) :
    Calls Try.prog 22 #[.slice A0 l0.length c0, .slice A1 l1.length c1] w fun e w' => ∃ v0_ : Value, e = .returned (.tuple #[v0_, .bool r2]) ∧ Kd.N k30 30 w' w.heap.size (fun k_ => w.heap.size ≤ k_) v0_ r1 ∧ Below w.heap.size w w' := by
  have hu30 := Try.underlying30
  have HO0 := zq (show Kd.V (Kd.int .i64) 3 w w.heap.size (fun k_ => ((P0_ k_ ∨ P1_ k_) ∨ w.heap.size ≤ k_)) (.slice A0 l0.length c0) l0 from Kd.V_mono hs0 (fun k_ hk => .inl (.inl hk)))
  have HO1 := zq (show Kd.V (Kd.slice 30 k30) 22 w w.heap.size (fun k_ => ((P0_ k_ ∨ P1_ k_) ∨ w.heap.size ≤ k_)) (.slice A1 l1.length c1) l1 from Kd.V_mono hs1 (fun k_ hk => .inl (.inr hk)))
  have HB := zq (Below.refl w.heap.size w)
  have H : ((shape_Count.f k l0).bind fun bt591 => (if bt591.2 = true then (if bt591.1 = (l1.length : Int) then ((api_Node_44.f k l1).bind fun t593 => (array_Nest.j0 k l0 l1 t593)) else (array_Nest.j0 k l0 l1 true)) else (array_Nest.j0 k l0 l1 true))) = some (r1, r2) := h
  clear h
  replace H := Option.bind_eq_some_iff.mp H
  obtain ⟨⟨t591, t592⟩, A30, H⟩ := H
  dsimp only at H
  have A3 := zq A30
  clear A30
  have HC4 := zq H
  clear H
  go_enter Try.func22, Try.ntmps22
  go_upto_region 2 with (first | ((with_reducible refine gate_callee (f := 32) rfl ?_); refine goesL_ (some 11) rfl rfl Try.func32 J8 rfl #[.slice A0 l0.length c0] rfl J1 ?_; (with_reducible refine (shape_Count.calls k _ _ l0 t591 t592 _ ?side1 ?side2 A3.out).mono ?_); (case side1 => exact zc ((Kd.V_reads' HO0.out).2.2)); (case side2 => exact (Kd.V_reads' HO0.out).2.1); rintro e w' ⟨rfl, ⟨nd, rfl⟩⟩; refine ⟨_, rfl, ?_⟩))
  (try simp only [Act.put, List.setIfInBounds_toArray, List.set_cons_zero, List.set_cons_succ])
  go_cut [25] (fun v25 wc => ∃ (kq : Nat) (x25_3 : Bool), v25 = .bool x25_3 ∧ Aside0 (array_Nest.j0 kq l0 l1 x25_3 = some (r1, r2)) ∧ Aside0 (kq ≤ k) ∧ Aside0 (Kd.V (Kd.int .i64) 3 wc w.heap.size (fun k_ => ((P0_ k_ ∨ P1_ k_) ∨ w.heap.size ≤ k_)) (.slice A0 l0.length c0) l0) ∧ Aside0 (Kd.V (Kd.slice 30 k30) 22 wc w.heap.size (fun k_ => ((P0_ k_ ∨ P1_ k_) ∨ w.heap.size ≤ k_)) (.slice A1 l1.length c1) l1) ∧ Aside0 (Below w.heap.size w wc))
  case first =>
    have H := HC4.out
    clear HC4
    by_cases c5 : t592 = true
    rotate_left
    · replace c5 := Bool.eq_false_iff.mpr c5
      subst c5
      rw [if_neg (show ¬ (false = true) by decide)] at H
      have H' := zq H
      clear H
      go_wp2
      go_meet
      case rel => exact ⟨_, (true), J5, H', ⟨J30⟩, ⟨J65⟩, ⟨J83⟩, ⟨J0⟩⟩
    subst c5
    rw [if_pos rfl] at H
    by_cases c6 : t591 = (l1.length : Int)
    rotate_left
    · rw [if_neg c6] at H
      have c6b0 : (t591 == (l1.length : Int)) = false := beq_eq_false_iff_ne.mpr c6
      have c6b1 : (t591 != (l1.length : Int)) = true := bne_iff_ne.mpr c6
      (first | rw [c6b0] | (simp only [i64_w, i32_w]; rw [c6b0]) | skip)
      have H' := zq H
      clear H
      go_wp2
      go_meet
      case rel => exact ⟨_, (true), J5, H', ⟨J30⟩, ⟨J65⟩, ⟨J83⟩, ⟨J0⟩⟩
    rw [if_pos c6] at H
    have c6b0 : (t591 == (l1.length : Int)) = true := beq_iff_eq.mpr c6
    have c6b1 : (t591 != (l1.length : Int)) = false := bne_eq_false_iff_eq.mpr c6
    clear c6
    (first | rw [c6b0] | (simp only [i64_w, i32_w]; rw [c6b0]) | skip)
    replace H := Option.bind_eq_some_iff.mp H
    obtain ⟨t593, A70, H⟩ := H
    have A7 := zq A70
    clear A70
    have H' := zq H
    clear H
    go_wp2_with (first | (go_at_call 44; (with_reducible refine (api_Node_44.calls k _ _ l1 t593 _ ?side1 ?side2 A7.out).mono ?_); (case side1 => exact zc ((Kd.V_reads' HO1.out).2.2)); (case side2 => exact (Kd.V_reads' HO1.out).2.1); rintro e w8 ⟨rfl, hb⟩; replace HO0 := zq (Kd.V_below (zv HO0.out) hb); replace HO1 := zq (Kd.V_below (zv HO1.out) hb); replace HB := zq (below_step J0 hb); (try clear hb); (try clear hk)))
    go_meet
    case rel => exact ⟨_, (t593), J5, H', ⟨J30⟩, ⟨J65⟩, ⟨J83⟩, ⟨J0⟩⟩
  case rest =>
    clear HC4
    try clear c1
    try clear c2
    try clear p2
    try clear c3
    try clear c5
    try clear c6
    try clear c6b0
    try clear c6b1
    obtain ⟨kq, x25_3, rfl, HA, HJ3, HO_0, HO_1, HB⟩ := hcut
    cases kq with
    | zero => exact absurd HA.out (by simp [array_Nest.j0])
    | succ kj3 =>
      have H := HA.out
      clear HA
      simp only [array_Nest.j0] at H
      by_cases c9 : x25_3 = true
      · subst c9
        rw [if_pos rfl] at H
        simp only [Option.some.injEq, Prod.mk.injEq] at H
        obtain ⟨rfl, rfl⟩ := H
        go_wp2
        go_ret2
        exact ⟨_, J2, J73, J0⟩
      replace c9 := Bool.eq_false_iff.mpr c9
      subst c9
      rw [if_neg (show ¬ (false = true) by decide)] at H
      obtain ⟨y594, hy594⟩ : ∃ y_ : List (S30), y_ = (([(⟨5, l0, ([] : List Int), ([] : List (S38))⟩ : S30)] : List (S30))) := ⟨_, rfl⟩
      replace H : ((api_Node_46.f kj3 l1).bind fun t597 => (if y594.length + t597.length < 1759218604441 then ((array_Copy.f (y594 ++ t597)).bind fun t603 => ((array_Right.f kj3 t603).bind fun t606 => (if t606 = true then (some (t603, true)) else (some (([] : List (S30)), false))))) else (none))) = some (r1, r2) := by first | (rw [hy594]; with_reducible exact H) | (have H2_ := (Option.bind_some _ _).symm.trans H; rw [hy594]; with_reducible exact H2_) | (have H2_ := (Option.bind_some _ _).symm.trans H; with_reducible exact H2_) | with_reducible exact H | (rw [hy594]; exact H) | exact H
      have Ny594 := zq hy594
      clear hy594
      replace H := Option.bind_eq_some_iff.mp H
      obtain ⟨t597, A100, H⟩ := H
      have A10 := zq A100
      clear A100
      by_cases c11 : y594.length + t597.length < 1759218604441
      rotate_left
      · rw [if_neg c11] at H
        exact absurd H J27
      rw [if_pos c11] at H
      have LMc11 := zq c11
      clear c11
      obtain ⟨y600, hy600⟩ : ∃ y_ : List (S30), y_ = (y594 ++ t597) := ⟨_, rfl⟩
      replace H : ((array_Copy.f y600).bind fun t603 => ((array_Right.f kj3 t603).bind fun t606 => (if t606 = true then (some (t603, true)) else (some (([] : List (S30)), false))))) = some (r1, r2) := by first | (rw [hy600]; with_reducible exact H) | (have H2_ := (Option.bind_some _ _).symm.trans H; rw [hy600]; with_reducible exact H2_) | (have H2_ := (Option.bind_some _ _).symm.trans H; with_reducible exact H2_) | with_reducible exact H | (rw [hy600]; exact H) | exact H
      have Ny600 := zq hy600
      clear hy600
      replace H := Option.bind_eq_some_iff.mp H
      obtain ⟨t603, A120, H⟩ := H
      have A12 := zq A120
      clear A120
      replace H := Option.bind_eq_some_iff.mp H
      obtain ⟨t606, A130, H⟩ := H
      have A13 := zq A130
      clear A130
      by_cases c14 : t606 = true
      · subst c14
        rw [if_pos rfl] at H
        simp only [Option.some.injEq, Prod.mk.injEq] at H
        obtain ⟨rfl, rfl⟩ := H
        go_wp2_with (first | ((with_reducible refine gate_dst (N := 28) rfl ?_); (try (refine gate_guard J68 ?_; dsimp only)); refine Kd.N_lit k30 _ 30 ?hg (N' := 28) ?hd (xs := ([(⟨5, l0, ([] : List Int), ([] : List (S38))⟩ : S30)] : List (S30))) (inner := [.int .i64 5, .slice A0 l0.length c0, .slice none 0 0, .slice none 0 0]) (ok := (fun k_ => ((P0_ k_ ∨ P1_ k_) ∨ w.heap.size ≤ k_))) (okp := (fun k_ => ((P0_ k_ ∨ P1_ k_) ∨ w.heap.size ≤ k_))) ?hr ?hp (fun _ hk => hk) ((show ∀ k_, wc.heap.size ≤ k_ → (fun k_ => ((P0_ k_ ∨ P1_ k_) ∨ w.heap.size ≤ k_)) k_ from fun k_ hk => (.inr (Nat.le_trans (below_size J0) hk))) _ (Nat.le_refl _)) (Below.refl _ _) (Nat.le_refl _) J27 ?_; (case hd => rfl); (case hg => rfl); (case hr => first | (go_simp; done) | (go_simp; rfl)); (case hp => exact (Reps.c4 (show Kd.FK k30 _ _ (⟨5, l0, ([] : List Int), ([] : List (S38))⟩ : S30) [.int .i64 5, .slice A0 l0.length c0, .slice none 0 0, .slice none 0 0] from (k30_mkF _ _ (⟨5, l0, ([] : List Int), ([] : List (S38))⟩ : S30) (Kd.V_reads' (Kd.V_mono (ok' := (fun k_ => ((P0_ k_ ∨ P1_ k_) ∨ w.heap.size ≤ k_))) (HO_0.out) (fun k_ hk => hk))).2.1 (Kd.V_F (Kd.V_mono (ok' := (fun k_ => ((P0_ k_ ∨ P1_ k_) ∨ w.heap.size ≤ k_))) (HO_0.out) (fun k_ hk => hk))) (Nat.le_refl _) (Kd.F_nil _ _ _) (Nat.le_refl _) (Kd.F_nil _ _ _))) (Reps.none _ _))); intro v595 w15 ho16 hb hg_ hnew_; clear hg_ hnew_; (first | rw [← Ny594.out] at ho16 | (simp only [Int.reduceToNat] at ho16; rw [← Ny594.out] at ho16)); replace HO_0 := zq (Kd.V_elder' (zv HO_0.out) (Kd.N_base ho16) hb); replace HO_1 := zq (Kd.V_elder' (zv HO_1.out) (Kd.N_base ho16) hb); have HO596 := zq (Kd.N_lower ho16 (below_size J0)); replace HB := zq (below_step J0 hb); clear hb ho16) | ((with_reducible refine gate_callee (f := 46) rfl ?_); refine goesL_ (some 30) rfl rfl Try.func46 J8 rfl #[.slice A1 l1.length c1] rfl J1 ?_; (with_reducible refine (api_Node_46.calls kj3 (fun k_ => (((P0_ k_ ∨ P1_ k_) ∨ w.heap.size ≤ k_) ∧ some k_ ≠ (v595 : Value).ownBlock)) _ _ l1 t597 _ ?side1 A10.out).mono ?_); (case side1 => exact HO_1.out); rintro e w17 ⟨v598, rfl, ho0, hb⟩; refine ⟨_, rfl, ?_⟩; replace HO_0 := zq (Kd.V_elder' (zv HO_0.out) (Kd.N_base ho0) hb); replace HO_1 := zq (Kd.V_elder' (zv HO_1.out) (Kd.N_base ho0) hb); have HO599 := zq (Kd.N_lower (Kd.N_mono (ok' := fun k_ => ((P0_ k_ ∨ P1_ k_) ∨ w.heap.size ≤ k_) ∧ some k_ ≠ (v595 : Value).ownBlock) ho0 (fun k_ hk_ => ⟨Or.elim hk_ (fun hs_ => hs_.1) (fun hn_ => (.inr (Nat.le_trans (below_size J0) hn_))), Or.elim hk_ (fun hs_ => hs_.2) (fun hn_ => (Kd.fresh' (Kd.N_lt (zn HO596.out)) k_ hn_))⟩)) (below_size J0)); replace HO596 := zq (Kd.N_elder' (zn HO596.out) (Kd.N_base ho0) hb); replace HB := zq (below_step J0 hb); (try clear hb); (try clear hk); (try clear ho0); obtain ⟨Ao19, co19, eo19⟩ := Kd.N_slice HO599.out; subst eo19) | ((with_reducible refine gate_builtin (b := .append) (xs := #[.tmp 28, .tmp 30]) rfl ?_); (try (refine gate_guard J68 ?_; dsimp only)); at_builtin; refine Kd.N_append_rows k30 (w0 := w) w.heap.size rfl (.tmp 28) (.tmp 30) 22 30 (.agg #[(.int .i64 0), (.slice none 0 0), (.slice none 0 0), (.slice none 0 0)]) 80 rfl Try.underlying22 info30 rfl J16 J33 v595 y594 t597 _ _ _ (fun k_ => ((P0_ k_ ∨ P1_ k_) ∨ w.heap.size ≤ k_)) (fun k_ => ((fun k_ => ((P0_ k_ ∨ P1_ k_) ∨ w.heap.size ≤ k_))) k_ ∧ some k_ ≠ (v595 : Value).ownBlock) rfl rfl ?aO ?aR (fun _ hk => hk) ?aF ?aB ?aS ?aL ?_; (case aR => exact J84); (case aB => exact J0); (case aF => exact (fun k_ hk => (.inr (Nat.le_trans (below_size J0) hk)))); (case aO => exact J103); (case aS => exact (below_size J0)); (case aL => have := LMc11.out; omega); intro v601 w18 ho hb hg hat; rw [← Ny600.out] at ho; replace HO_0 := zq (Kd.V_afterv (ok := (fun k_ => ((P0_ k_ ∨ P1_ k_) ∨ w.heap.size ≤ k_) ∧ some k_ ≠ (.slice Ao19 t597.length co19 : Value).ownBlock)) J97 hg hat); replace HO_1 := zq (Kd.V_afterv (ok := (fun k_ => ((P0_ k_ ∨ P1_ k_) ∨ w.heap.size ≤ k_) ∧ some k_ ≠ (.slice Ao19 t597.length co19 : Value).ownBlock)) (by (with_reducible repeat (first | apply Kd.V_alloc | apply Kd.V_drewN | apply Kd.V_drew)); exact Kd.V_mono HO_1.out (fun _ hk => ⟨⟨hk.1.1, hk.2⟩, hk.1.2⟩)) hg hat); replace HO599 := zq (Kd.N_afterv (ok := (fun k_ => ((P0_ k_ ∨ P1_ k_) ∨ w.heap.size ≤ k_))) (zn HO599.out) hg hat); replace HB := zq (hb); have HO602 := zq (ho); clear HO596; clear ho hb hg hat; obtain ⟨Ao20, co20, eo20⟩ := Kd.N_slice HO602.out; subst eo20) | ((first | ((with_reducible refine gate_callee (f := 45) rfl ?_); refine goesL_ (some 32) rfl rfl Try.func45 J8 rfl #[.slice Ao20 y600.length co20] rfl J1 ?_) | go_at_call 45); (with_reducible refine (array_Copy.calls _ _ y600 t603 _ ?side1 ?side2 A12.out).mono ?_); (case side1 => exact zc ((Kd.N_reads' HO602.out).2.2)); (case side2 => exact (Kd.N_reads' HO602.out).2.1); rintro e w21 ⟨v604, rfl, ho0, hb⟩; (try refine ⟨_, rfl, ?_⟩); replace HO_0 := zq (Kd.V_elder' (zv HO_0.out) (Kd.N_base (Kd.S_N (Kd.S_bound ho0))) hb); replace HO_1 := zq (Kd.V_elder' (zv HO_1.out) (Kd.N_base (Kd.S_N (Kd.S_bound ho0))) hb); have HO605 := zq (Kd.N_lower (Kd.N_mono (ok' := fun k_ => w.heap.size ≤ k_ ∧ some k_ ≠ (.slice Ao19 t597.length co19 : Value).ownBlock ∧ some k_ ≠ (.slice Ao20 y600.length co20 : Value).ownBlock) (Kd.S_N (Kd.S_bound ho0)) (fun k_ hk_ => ⟨(Nat.le_trans (below_size J0) hk_.2.1), (Kd.fresh' (Kd.N_lt (zn HO599.out)) k_ hk_.2.1), (Kd.fresh' (Kd.N_lt (zn HO602.out)) k_ hk_.2.1)⟩)) (below_size J0)); replace HO599 := zq (Kd.N_elder' (zn HO599.out) (Kd.N_base (Kd.S_N (Kd.S_bound ho0))) hb); replace HO602 := zq (Kd.N_elder' (zn HO602.out) (Kd.N_base (Kd.S_N (Kd.S_bound ho0))) hb); replace HB := zq (below_step J0 hb); (try clear hb); (try clear hk); (try clear ho0); obtain ⟨Ao22, co22, eo22⟩ := Kd.N_slice HO605.out; subst eo22) | ((first | ((with_reducible refine gate_callee (f := 23) rfl ?_); refine goesL_ (some 34) rfl rfl Try.func23 J8 rfl #[.slice Ao22 t603.length co22] rfl J1 ?_) | go_at_call 23); (with_reducible refine (array_Right.calls kj3 _ _ t603 true _ ?side1 ?side2 A13.out).mono ?_); (case side1 => exact zc ((Kd.N_reads' HO605.out).2.2)); (case side2 => exact (Kd.N_reads' HO605.out).2.1); rintro e w23 ⟨rfl, hb⟩; (try refine ⟨_, rfl, ?_⟩); replace HO_0 := zq (Kd.V_below (zv HO_0.out) hb); replace HO_1 := zq (Kd.V_below (zv HO_1.out) hb); replace HO599 := zq (Kd.N_below (zn HO599.out) hb); replace HO602 := zq (Kd.N_below (zn HO602.out) hb); replace HO605 := zq (Kd.N_below (zn HO605.out) hb); replace HB := zq (below_step J0 hb); (try clear hb); (try clear hk)))
        go_ret2
        exact ⟨_, J2, by (with_reducible repeat (first | apply Kd.N_alloc | apply Kd.N_drewN | apply Kd.N_drew)); exact Kd.N_mono HO605.out (fun _ hk => hk.1), J0⟩
      replace c14 := Bool.eq_false_iff.mpr c14
      subst c14
      rw [if_neg (show ¬ (false = true) by decide)] at H
      simp only [Option.some.injEq, Prod.mk.injEq] at H
      obtain ⟨rfl, rfl⟩ := H
      go_wp2_with (first | ((with_reducible refine gate_dst (N := 28) rfl ?_); (try (refine gate_guard J68 ?_; dsimp only)); refine Kd.N_lit k30 _ 30 ?hg (N' := 28) ?hd (xs := ([(⟨5, l0, ([] : List Int), ([] : List (S38))⟩ : S30)] : List (S30))) (inner := [.int .i64 5, .slice A0 l0.length c0, .slice none 0 0, .slice none 0 0]) (ok := (fun k_ => ((P0_ k_ ∨ P1_ k_) ∨ w.heap.size ≤ k_))) (okp := (fun k_ => ((P0_ k_ ∨ P1_ k_) ∨ w.heap.size ≤ k_))) ?hr ?hp (fun _ hk => hk) ((show ∀ k_, wc.heap.size ≤ k_ → (fun k_ => ((P0_ k_ ∨ P1_ k_) ∨ w.heap.size ≤ k_)) k_ from fun k_ hk => (.inr (Nat.le_trans (below_size J0) hk))) _ (Nat.le_refl _)) (Below.refl _ _) (Nat.le_refl _) J27 ?_; (case hd => rfl); (case hg => rfl); (case hr => first | (go_simp; done) | (go_simp; rfl)); (case hp => exact (Reps.c4 (show Kd.FK k30 _ _ (⟨5, l0, ([] : List Int), ([] : List (S38))⟩ : S30) [.int .i64 5, .slice A0 l0.length c0, .slice none 0 0, .slice none 0 0] from (k30_mkF _ _ (⟨5, l0, ([] : List Int), ([] : List (S38))⟩ : S30) (Kd.V_reads' (Kd.V_mono (ok' := (fun k_ => ((P0_ k_ ∨ P1_ k_) ∨ w.heap.size ≤ k_))) (HO_0.out) (fun k_ hk => hk))).2.1 (Kd.V_F (Kd.V_mono (ok' := (fun k_ => ((P0_ k_ ∨ P1_ k_) ∨ w.heap.size ≤ k_))) (HO_0.out) (fun k_ hk => hk))) (Nat.le_refl _) (Kd.F_nil _ _ _) (Nat.le_refl _) (Kd.F_nil _ _ _))) (Reps.none _ _))); intro v595 w24 ho25 hb hg_ hnew_; clear hg_ hnew_; (first | rw [← Ny594.out] at ho25 | (simp only [Int.reduceToNat] at ho25; rw [← Ny594.out] at ho25)); replace HO_1 := zq (Kd.V_elder' (zv HO_1.out) (Kd.N_base ho25) hb); have HO596 := zq (Kd.N_lower ho25 (below_size J0)); replace HB := zq (below_step J0 hb); clear hb ho25) | ((with_reducible refine gate_callee (f := 46) rfl ?_); refine goesL_ (some 30) rfl rfl Try.func46 J8 rfl #[.slice A1 l1.length c1] rfl J1 ?_; (with_reducible refine (api_Node_46.calls kj3 (fun k_ => (((P0_ k_ ∨ P1_ k_) ∨ w.heap.size ≤ k_) ∧ some k_ ≠ (v595 : Value).ownBlock)) _ _ l1 t597 _ ?side1 A10.out).mono ?_); (case side1 => exact HO_1.out); rintro e w26 ⟨v598, rfl, ho0, hb⟩; refine ⟨_, rfl, ?_⟩; have HO599 := zq (Kd.N_lower (Kd.N_mono (ok' := fun k_ => ((P0_ k_ ∨ P1_ k_) ∨ w.heap.size ≤ k_) ∧ some k_ ≠ (v595 : Value).ownBlock) ho0 (fun k_ hk_ => ⟨Or.elim hk_ (fun hs_ => hs_.1) (fun hn_ => (.inr (Nat.le_trans (below_size J0) hn_))), Or.elim hk_ (fun hs_ => hs_.2) (fun hn_ => (Kd.fresh' (Kd.N_lt (zn HO596.out)) k_ hn_))⟩)) (below_size J0)); replace HO596 := zq (Kd.N_elder' (zn HO596.out) (Kd.N_base ho0) hb); replace HB := zq (below_step J0 hb); (try clear hb); (try clear hk); (try clear ho0); obtain ⟨Ao28, co28, eo28⟩ := Kd.N_slice HO599.out; subst eo28) | ((with_reducible refine gate_builtin (b := .append) (xs := #[.tmp 28, .tmp 30]) rfl ?_); (try (refine gate_guard J68 ?_; dsimp only)); at_builtin; refine Kd.N_append_rows k30 (w0 := w) w.heap.size rfl (.tmp 28) (.tmp 30) 22 30 (.agg #[(.int .i64 0), (.slice none 0 0), (.slice none 0 0), (.slice none 0 0)]) 80 rfl Try.underlying22 info30 rfl J16 J33 v595 y594 t597 _ _ _ (fun k_ => ((P0_ k_ ∨ P1_ k_) ∨ w.heap.size ≤ k_)) (fun k_ => ((fun k_ => ((P0_ k_ ∨ P1_ k_) ∨ w.heap.size ≤ k_))) k_ ∧ some k_ ≠ (v595 : Value).ownBlock) rfl rfl ?aO ?aR (fun _ hk => hk) ?aF ?aB ?aS ?aL ?_; (case aR => exact J84); (case aB => exact J0); (case aF => exact (fun k_ hk => (.inr (Nat.le_trans (below_size J0) hk)))); (case aO => exact J103); (case aS => exact (below_size J0)); (case aL => have := LMc11.out; omega); intro v601 w27 ho hb hg hat; rw [← Ny600.out] at ho; replace HO599 := zq (Kd.N_afterv (ok := (fun k_ => ((P0_ k_ ∨ P1_ k_) ∨ w.heap.size ≤ k_))) (zn HO599.out) hg hat); replace HB := zq (hb); have HO602 := zq (ho); clear HO596; clear ho hb hg hat; obtain ⟨Ao29, co29, eo29⟩ := Kd.N_slice HO602.out; subst eo29) | ((first | ((with_reducible refine gate_callee (f := 45) rfl ?_); refine goesL_ (some 32) rfl rfl Try.func45 J8 rfl #[.slice Ao29 y600.length co29] rfl J1 ?_) | go_at_call 45); (with_reducible refine (array_Copy.calls _ _ y600 t603 _ ?side1 ?side2 A12.out).mono ?_); (case side1 => exact zc ((Kd.N_reads' HO602.out).2.2)); (case side2 => exact (Kd.N_reads' HO602.out).2.1); rintro e w30 ⟨v604, rfl, ho0, hb⟩; (try refine ⟨_, rfl, ?_⟩); have HO605 := zq (Kd.N_lower (Kd.N_mono (ok' := fun k_ => w.heap.size ≤ k_ ∧ some k_ ≠ (.slice Ao28 t597.length co28 : Value).ownBlock ∧ some k_ ≠ (.slice Ao29 y600.length co29 : Value).ownBlock) (Kd.S_N (Kd.S_bound ho0)) (fun k_ hk_ => ⟨(Nat.le_trans (below_size J0) hk_.2.1), (Kd.fresh' (Kd.N_lt (zn HO599.out)) k_ hk_.2.1), (Kd.fresh' (Kd.N_lt (zn HO602.out)) k_ hk_.2.1)⟩)) (below_size J0)); replace HB := zq (below_step J0 hb); (try clear hb); (try clear hk); (try clear ho0); obtain ⟨Ao31, co31, eo31⟩ := Kd.N_slice HO605.out; subst eo31) | ((first | ((with_reducible refine gate_callee (f := 23) rfl ?_); refine goesL_ (some 34) rfl rfl Try.func23 J8 rfl #[.slice Ao31 t603.length co31] rfl J1 ?_) | go_at_call 23); (with_reducible refine (array_Right.calls kj3 _ _ t603 false _ ?side1 ?side2 A13.out).mono ?_); (case side1 => exact zc ((Kd.N_reads' HO605.out).2.2)); (case side2 => exact (Kd.N_reads' HO605.out).2.1); rintro e w32 ⟨rfl, hb⟩; (try refine ⟨_, rfl, ?_⟩); replace HB := zq (below_step J0 hb); (try clear hb); (try clear hk)))
      go_ret2
      exact ⟨_, J2, J73, J0⟩
def array_Depth.f (k : Nat) (l0 : List (S30)) : Option (Int) := (array_walk.f k l0).bind fun bt607 => (if bt607.1 = (l0.length : Int) then (some bt607.2.2) else (some 0))
set_option maxHeartbeats 8000000 in
set_option maxRecDepth 100000 in
theorem array_Depth.calls (k : Nat) (A0 : Option Addr) (c0 : Nat) (l0 : List (S30)) (r : Int) (w : World) (hr0 : Kd.C k30 w A0 l0.length l0) (hc0 : l0.length ≤ c0) (h : array_Depth.f k l0 = some r) :
    Calls Try.prog 25 #[.slice A0 l0.length c0] w fun e w' => e = .returned (.int .i64 r) ∧ Below w.heap.size w w' := by
  have HR0 := zq hr0
  have HC0 := zq hc0
  clear hr0 hc0
  have HB := zq (Below.refl w.heap.size w)
  have H : ((array_walk.f k l0).bind fun bt607 => (if bt607.1 = (l0.length : Int) then (some bt607.2.2) else (some 0))) = some r := h
  clear h
  replace H := Option.bind_eq_some_iff.mp H
  obtain ⟨⟨t607, t608, t609⟩, A20, H⟩ := H
  dsimp only at H
  have A2 := zq A20
  clear A20
  by_cases c3 : t607 = (l0.length : Int)
  rotate_left
  · rw [if_neg c3] at H
    have c3b0 : (t607 == (l0.length : Int)) = false := beq_eq_false_iff_ne.mpr c3
    have c3b1 : (t607 != (l0.length : Int)) = true := bne_iff_ne.mpr c3
    obtain rfl := Option.some.inj H
    go_enter Try.func25, Try.ntmps25
    go_wp2_with (first | ((with_reducible refine gate_callee (f := 48) rfl ?_); refine goesL_ (some 8) rfl rfl Try.func48 J8 rfl #[.slice A0 l0.length c0] rfl J1 ?_; (with_reducible refine (array_walk.calls k _ _ l0 t607 t608 t609 _ ?side1 ?side2 A2.out).mono ?_); (case side1 => exact zc HR0.out); (case side2 => exact HC0.out); rintro e w5 ⟨rfl, hb⟩; refine ⟨_, rfl, ?_⟩; replace HB := zq (below_step J0 hb); (try clear hb)))
    go_ret
    exact ⟨J2, J0⟩
  rw [if_pos c3] at H
  have c3b0 : (t607 == (l0.length : Int)) = true := beq_iff_eq.mpr c3
  have c3b1 : (t607 != (l0.length : Int)) = false := bne_eq_false_iff_eq.mpr c3
  clear c3
  obtain rfl := Option.some.inj H
  go_enter Try.func25, Try.ntmps25
  go_wp2_with (first | ((with_reducible refine gate_callee (f := 48) rfl ?_); refine goesL_ (some 8) rfl rfl Try.func48 J8 rfl #[.slice A0 l0.length c0] rfl J1 ?_; (with_reducible refine (array_walk.calls k _ _ l0 t607 t608 t609 _ ?side1 ?side2 A2.out).mono ?_); (case side1 => exact zc HR0.out); (case side2 => exact HC0.out); rintro e w4 ⟨rfl, hb⟩; refine ⟨_, rfl, ?_⟩; replace HB := zq (below_step J0 hb); (try clear hb)))
  go_ret
  exact ⟨J2, J0⟩
end Go.Proofs.Ytecdklheppcihaa.HTightNumbers
