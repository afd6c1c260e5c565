/- What the Go functions of this claim answer, told as functions of numbers and lists, and that other memory stays as it was: words and walks, shortened by a program. -/
import Derived.Test.YtecdklheppcihaaSTightShapex0
namespace Go.Proofs.Ytecdklheppcihaa.HTightNumbers
open Go.RowKit Go.Proofs.YtecdklheppcihaaW.PrintWords Go.Proofs.YtecdklheppcihaaW.PrintLast Go.Proofs.YtecdklheppcihaaW.PrintMore
attribute [local go_sem] max2_int min2_int max_two min_two max_three min_three max_four min_four
set_option linter.unusedVariables false
set_option linter.unusedSimpArgs false
mutual
def decklelaw10_Few.l0 : Nat → List (S30) → Int → Int → Option (Bool)
  | 0, _, _, _ => none
  | k + 1, x0, x3, x4 => if x4 < (x0.length : Int) then (decklelaw10_Few.j1 k x0 x3 x4 (decide (x4 < 200))) else (decklelaw10_Few.j1 k x0 x3 x4 false)
def decklelaw10_Few.j1 : Nat → List (S30) → Int → Int → Bool → Option (Bool)
  | 0, _, _, _, _ => none
  | k + 1, x0, x3, x4, x12 => if x12 = true then (if 0 ≤ x4 then (if x4 < (x0.length : Int) then (if (((rd_T30 x0 x4).f1).length : Int) > 30 then (some false) else (if (((rd_T30 x0 x4).f2).length : Int) > 300 then (some false) else (if (((rd_T30 x0 x4).f3).length : Int) > 300 then (some false) else (decklelaw10_Few.l0 k x0 (wrap64 ((wrap64 (x3 + (((rd_T30 x0 x4).f2).length : Int))) + (((rd_T30 x0 x4).f3).length : Int))) (wrap64 (x4 + 1)))))) else (none)) else (none)) else (if (x0.length : Int) ≤ 100 then (some (decide (x3 ≤ 1000))) else (some false))
end
def decklelaw10_Few.f (k : Nat) (l0 : List (S30)) : Option (Bool) := decklelaw10_Few.l0 k l0 0 0
set_option maxHeartbeats 8000000 in
set_option maxRecDepth 100000 in
theorem decklelaw10_Few.calls (k : Nat) (A0 : Option Addr) (c0 : Nat) (l0 : List (S30)) (r : Bool) (w : World) (hr0 : Kd.C k30 w A0 l0.length l0) (hc0 : l0.length ≤ c0) (h : decklelaw10_Few.f k l0 = some r) :
    Calls Try.prog 10 #[.slice A0 l0.length c0] w fun e w' => e = .returned (.bool r) ∧ Drawn0 w w' := by
  have HR0 := zq hr0
  have HC0 := zq hc0
  clear hr0 hc0
  have H : (decklelaw10_Few.l0 k l0 0 0) = some r := h
  clear h
  have H' := zq H
  clear H
  go_enter Try.func10, Try.ntmps10
  go_wp2
  repeat (go_quiet (fail); try go_wp2)
  go_loopg [3, 4] k (fun kq v3 v4 w' => ∃ (x3_1 : Int) (x4_1 : Int), v3 = .int .i64 x3_1 ∧ v4 = .int .i64 x4_1 ∧ Aside0 (decklelaw10_Few.l0 kq l0 x3_1 x4_1 = some r) ∧ Aside0 (kq ≤ k) ∧ Drawn0 w w')
  case atStart => exact ⟨(0), (0), J6, J6, H', ⟨Nat.le_refl _⟩, J7⟩
  case round =>
    clear H'
    try clear c1
    obtain ⟨x3_1, x4_1, rfl, rfl, HA, HK1, ⟨m1, rfl⟩⟩ := hrel
    cases gk with
    | zero => exact absurd HA.out (by simp [decklelaw10_Few.l0])
    | succ k1 =>
      have H := HA.out
      clear HA
      simp only [decklelaw10_Few.l0] at H
      have HC2 := zq H
      clear H
      go_upto_region 3 with (fail)
      repeat (go_quiet (fail); go_upto_region 3 with (fail))
      go_cut [12] (fun v12 wc => ∃ (kq : Nat) (x12_1 : Bool), v12 = .bool x12_1 ∧ Aside0 (decklelaw10_Few.j1 kq l0 x3_1 x4_1 x12_1 = some r) ∧ Aside0 (kq ≤ k1) ∧ Drawn0 w wc)
      case first =>
        have H := HC2.out
        clear HC2
        by_cases c3 : x4_1 < (l0.length : Int)
        rotate_left
        · rw [if_neg c3] at H
          have c3b0 := decide_eq_false c3
          clear c3
          (first | rw [c3b0] | (simp only [i64_w, i32_w]; rw [c3b0]) | skip)
          have H' := zq H
          clear H
          go_wp2
          repeat (go_quiet (fail); try go_wp2)
          go_meet
          case rel => exact ⟨_, (false), J6, H', ⟨J70⟩, J7⟩
        rw [if_pos c3] at H
        have c3b0 := decide_eq_true c3
        clear c3
        (first | rw [c3b0] | (simp only [i64_w, i32_w]; rw [c3b0]) | skip)
        have H' := zq H
        clear H
        go_wp2
        repeat (go_quiet (fail); try go_wp2)
        go_meet
        case rel => exact ⟨_, (decide (x4_1 < 200)), J6, H', ⟨J70⟩, J7⟩
      case rest =>
        clear HC2
        try clear c1
        try clear p2
        try clear c3
        try clear c3b0
        obtain ⟨kq, x12_1, rfl, HA, HJ1, ⟨mc1, rfl⟩⟩ := hcut
        cases kq with
        | zero => exact absurd HA.out (by simp [decklelaw10_Few.j1])
        | succ kj1 =>
          have H := HA.out
          clear HA
          simp only [decklelaw10_Few.j1] at H
          by_cases c4 : x12_1 = true
          rotate_left
          · replace c4 := Bool.eq_false_iff.mpr c4
            subst c4
            rw [if_neg (show ¬ (false = true) by decide)] at H
            by_cases c10 : (l0.length : Int) ≤ 100
            · rw [if_pos c10] at H
              have c10b0 := decide_eq_true c10
              have c10b1 : decide (l0.length ≤ 100) = true := decide_eq_true J15
              clear c10
              obtain rfl := Option.some.inj H
              go_wp2
              repeat (go_quiet (fail); try go_wp2)
              go_ret
              exact ⟨J6, J7⟩
            · rw [if_neg c10] at H
              have c10b0 := decide_eq_false c10
              have c10b1 : decide (l0.length ≤ 100) = false := decide_eq_false J15
              clear c10
              obtain rfl := Option.some.inj H
              go_wp2
              repeat (go_quiet (fail); try go_wp2)
              go_ret
              exact ⟨J6, J7⟩
          subst c4
          rw [if_pos rfl] at H
          by_cases c5 : 0 ≤ x4_1
          rotate_left
          · rw [if_neg c5] at H
            exact absurd H J30
          rw [if_pos c5] at H
          have c5b0 := decide_eq_true c5
          clear c5
          by_cases c6 : x4_1 < (l0.length : Int)
          rotate_left
          · rw [if_neg c6] at H
            exact absurd H J30
          rw [if_pos c6] at H
          have c6b0 := decide_eq_true c6
          clear c6
          by_cases c7 : (((rd_T30 l0 x4_1).f1).length : Int) > 30
          · rw [if_pos c7] at H
            have c7b0 := decide_eq_true c7
            have c7b1 : decide (30 < ((rd_T30 l0 x4_1).f1).length) = true := decide_eq_true J15
            clear c7
            obtain rfl := Option.some.inj H
            have p584 : 0 ≤ (x4_1 : Int) := of_decide_eq_true J2
            have q584 : x4_1 < (l0.length : Int) := of_decide_eq_true J2
            obtain ⟨ad584, A584_1, c584_1, A584_2, c584_2, A584_3, c584_3, e584, hx584_0, hx584_1, hx584_2, hx584_3, hl584_1, hi584_1, hl584_2, hi584_2, hl584_3, hi584_3⟩ := at_T30 HR0.out x4_1 p584 q584
            cases e584
            have HR584_1 := zq hi584_1
            have HC584_1 := zq hl584_1
            clear hi584_1 hl584_1
            have HR584_2 := zq hi584_2
            have HC584_2 := zq hl584_2
            clear hi584_2 hl584_2
            have HR584_3 := zq hi584_3
            have HC584_3 := zq hl584_3
            clear hi584_3 hl584_3
            replace p584 := eq_true p584
            replace q584 := eq_true q584
            go_wp2
            repeat (go_quiet (fail); try go_wp2)
            go_ret
            exact ⟨J6, J7⟩
          rw [if_neg c7] at H
          have c7b0 := decide_eq_false c7
          have c7b1 : decide (30 < ((rd_T30 l0 x4_1).f1).length) = false := decide_eq_false J15
          clear c7
          by_cases c8 : (((rd_T30 l0 x4_1).f2).length : Int) > 300
          · rw [if_pos c8] at H
            have c8b0 := decide_eq_true c8
            have c8b1 : decide (300 < ((rd_T30 l0 x4_1).f2).length) = true := decide_eq_true J15
            clear c8
            obtain rfl := Option.some.inj H
            have p584 : 0 ≤ (x4_1 : Int) := of_decide_eq_true J2
            have q584 : x4_1 < (l0.length : Int) := of_decide_eq_true J2
            obtain ⟨ad584, A584_1, c584_1, A584_2, c584_2, A584_3, c584_3, e584, hx584_0, hx584_1, hx584_2, hx584_3, hl584_1, hi584_1, hl584_2, hi584_2, hl584_3, hi584_3⟩ := at_T30 HR0.out x4_1 p584 q584
            cases e584
            have HR584_1 := zq hi584_1
            have HC584_1 := zq hl584_1
            clear hi584_1 hl584_1
            have HR584_2 := zq hi584_2
            have HC584_2 := zq hl584_2
            clear hi584_2 hl584_2
            have HR584_3 := zq hi584_3
            have HC584_3 := zq hl584_3
            clear hi584_3 hl584_3
            replace p584 := eq_true p584
            replace q584 := eq_true q584
            have p585 : 0 ≤ (x4_1 : Int) := of_decide_eq_true J2
            have q585 : x4_1 < (l0.length : Int) := of_decide_eq_true J2
            obtain ⟨ad585, A585_1, c585_1, A585_2, c585_2, A585_3, c585_3, e585, hx585_0, hx585_1, hx585_2, hx585_3, hl585_1, hi585_1, hl585_2, hi585_2, hl585_3, hi585_3⟩ := at_T30 HR0.out x4_1 p585 q585
            obtain rfl : ad584 = ad585 := (by injection e585)
            have HR585_1 := zq hi585_1
            have HC585_1 := zq hl585_1
            clear hi585_1 hl585_1
            have HR585_2 := zq hi585_2
            have HC585_2 := zq hl585_2
            clear hi585_2 hl585_2
            have HR585_3 := zq hi585_3
            have HC585_3 := zq hl585_3
            clear hi585_3 hl585_3
            replace p585 := eq_true p585
            replace q585 := eq_true q585
            have ea_ := Option.some.inj (hx584_1.symm.trans hx585_1)
            injection ea_ with ea_ en_ ec_
            subst ea_
            subst ec_
            clear en_
            have ea_ := Option.some.inj (hx584_2.symm.trans hx585_2)
            injection ea_ with ea_ en_ ec_
            subst ea_
            subst ec_
            clear en_
            have ea_ := Option.some.inj (hx584_3.symm.trans hx585_3)
            injection ea_ with ea_ en_ ec_
            subst ea_
            subst ec_
            clear en_
            go_wp2
            repeat (go_quiet (fail); try go_wp2)
            go_ret
            exact ⟨J6, J7⟩
          rw [if_neg c8] at H
          have c8b0 := decide_eq_false c8
          have c8b1 : decide (300 < ((rd_T30 l0 x4_1).f2).length) = false := decide_eq_false J15
          clear c8
          by_cases c9 : (((rd_T30 l0 x4_1).f3).length : Int) > 300
          · rw [if_pos c9] at H
            have c9b0 := decide_eq_true c9
            have c9b1 : decide (300 < ((rd_T30 l0 x4_1).f3).length) = true := decide_eq_true J15
            clear c9
            obtain rfl := Option.some.inj H
            have p584 : 0 ≤ (x4_1 : Int) := of_decide_eq_true J2
            have q584 : x4_1 < (l0.length : Int) := of_decide_eq_true J2
            obtain ⟨ad584, A584_1, c584_1, A584_2, c584_2, A584_3, c584_3, e584, hx584_0, hx584_1, hx584_2, hx584_3, hl584_1, hi584_1, hl584_2, hi584_2, hl584_3, hi584_3⟩ := at_T30 HR0.out x4_1 p584 q584
            cases e584
            have HR584_1 := zq hi584_1
            have HC584_1 := zq hl584_1
            clear hi584_1 hl584_1
            have HR584_2 := zq hi584_2
            have HC584_2 := zq hl584_2
            clear hi584_2 hl584_2
            have HR584_3 := zq hi584_3
            have HC584_3 := zq hl584_3
            clear hi584_3 hl584_3
            replace p584 := eq_true p584
            replace q584 := eq_true q584
            have p585 : 0 ≤ (x4_1 : Int) := of_decide_eq_true J2
            have q585 : x4_1 < (l0.length : Int) := of_decide_eq_true J2
            obtain ⟨ad585, A585_1, c585_1, A585_2, c585_2, A585_3, c585_3, e585, hx585_0, hx585_1, hx585_2, hx585_3, hl585_1, hi585_1, hl585_2, hi585_2, hl585_3, hi585_3⟩ := at_T30 HR0.out x4_1 p585 q585
            obtain rfl : ad584 = ad585 := (by injection e585)
            have HR585_1 := zq hi585_1
            have HC585_1 := zq hl585_1
            clear hi585_1 hl585_1
            have HR585_2 := zq hi585_2
            have HC585_2 := zq hl585_2
            clear hi585_2 hl585_2
            have HR585_3 := zq hi585_3
            have HC585_3 := zq hl585_3
            clear hi585_3 hl585_3
            replace p585 := eq_true p585
            replace q585 := eq_true q585
            have ea_ := Option.some.inj (hx584_1.symm.trans hx585_1)
            injection ea_ with ea_ en_ ec_
            subst ea_
            subst ec_
            clear en_
            have ea_ := Option.some.inj (hx584_2.symm.trans hx585_2)
            injection ea_ with ea_ en_ ec_
            subst ea_
            subst ec_
            clear en_
            have ea_ := Option.some.inj (hx584_3.symm.trans hx585_3)
            injection ea_ with ea_ en_ ec_
            subst ea_
            subst ec_
            clear en_
            have p586 : 0 ≤ (x4_1 : Int) := of_decide_eq_true J2
            have q586 : x4_1 < (l0.length : Int) := of_decide_eq_true J2
            obtain ⟨ad586, A586_1, c586_1, A586_2, c586_2, A586_3, c586_3, e586, hx586_0, hx586_1, hx586_2, hx586_3, hl586_1, hi586_1, hl586_2, hi586_2, hl586_3, hi586_3⟩ := at_T30 HR0.out x4_1 p586 q586
            obtain rfl : ad584 = ad586 := (by injection e586)
            have HR586_1 := zq hi586_1
            have HC586_1 := zq hl586_1
            clear hi586_1 hl586_1
            have HR586_2 := zq hi586_2
            have HC586_2 := zq hl586_2
            clear hi586_2 hl586_2
            have HR586_3 := zq hi586_3
            have HC586_3 := zq hl586_3
            clear hi586_3 hl586_3
            replace p586 := eq_true p586
            replace q586 := eq_true q586
            have ea_ := Option.some.inj (hx584_1.symm.trans hx586_1)
            injection ea_ with ea_ en_ ec_
            subst ea_
            subst ec_
            clear en_
            have ea_ := Option.some.inj (hx584_2.symm.trans hx586_2)
            injection ea_ with ea_ en_ ec_
            subst ea_
            subst ec_
            clear en_
            have ea_ := Option.some.inj (hx584_3.symm.trans hx586_3)
            injection ea_ with ea_ en_ ec_
            subst ea_
            subst ec_
            clear en_
            go_wp2
            repeat (go_quiet (fail); try go_wp2)
            go_ret
            exact ⟨J6, J7⟩
          rw [if_neg c9] at H
          have c9b0 := decide_eq_false c9
          have c9b1 : decide (300 < ((rd_T30 l0 x4_1).f3).length) = false := decide_eq_false J15
          clear c9
          have H' := zq H
          clear H
          have p584 : 0 ≤ (x4_1 : Int) := of_decide_eq_true J2
          have q584 : x4_1 < (l0.length : Int) := of_decide_eq_true J2
          obtain ⟨ad584, A584_1, c584_1, A584_2, c584_2, A584_3, c584_3, e584, hx584_0, hx584_1, hx584_2, hx584_3, hl584_1, hi584_1, hl584_2, hi584_2, hl584_3, hi584_3⟩ := at_T30 HR0.out x4_1 p584 q584
          cases e584
          have HR584_1 := zq hi584_1
          have HC584_1 := zq hl584_1
          clear hi584_1 hl584_1
          have HR584_2 := zq hi584_2
          have HC584_2 := zq hl584_2
          clear hi584_2 hl584_2
          have HR584_3 := zq hi584_3
          have HC584_3 := zq hl584_3
          clear hi584_3 hl584_3
          replace p584 := eq_true p584
          replace q584 := eq_true q584
          have p585 : 0 ≤ (x4_1 : Int) := of_decide_eq_true J2
          have q585 : x4_1 < (l0.length : Int) := of_decide_eq_true J2
          obtain ⟨ad585, A585_1, c585_1, A585_2, c585_2, A585_3, c585_3, e585, hx585_0, hx585_1, hx585_2, hx585_3, hl585_1, hi585_1, hl585_2, hi585_2, hl585_3, hi585_3⟩ := at_T30 HR0.out x4_1 p585 q585
          obtain rfl : ad584 = ad585 := (by injection e585)
          have HR585_1 := zq hi585_1
          have HC585_1 := zq hl585_1
          clear hi585_1 hl585_1
          have HR585_2 := zq hi585_2
          have HC585_2 := zq hl585_2
          clear hi585_2 hl585_2
          have HR585_3 := zq hi585_3
          have HC585_3 := zq hl585_3
          clear hi585_3 hl585_3
          replace p585 := eq_true p585
          replace q585 := eq_true q585
          have ea_ := Option.some.inj (hx584_1.symm.trans hx585_1)
          injection ea_ with ea_ en_ ec_
          subst ea_
          subst ec_
          clear en_
          have ea_ := Option.some.inj (hx584_2.symm.trans hx585_2)
          injection ea_ with ea_ en_ ec_
          subst ea_
          subst ec_
          clear en_
          have ea_ := Option.some.inj (hx584_3.symm.trans hx585_3)
          injection ea_ with ea_ en_ ec_
          subst ea_
          subst ec_
          clear en_
          have p586 : 0 ≤ (x4_1 : Int) := of_decide_eq_true J2
          have q586 : x4_1 < (l0.length : Int) := of_decide_eq_true J2
          obtain ⟨ad586, A586_1, c586_1, A586_2, c586_2, A586_3, c586_3, e586, hx586_0, hx586_1, hx586_2, hx586_3, hl586_1, hi586_1, hl586_2, hi586_2, hl586_3, hi586_3⟩ := at_T30 HR0.out x4_1 p586 q586
          obtain rfl : ad584 = ad586 := (by injection e586)
          have HR586_1 := zq hi586_1
          have HC586_1 := zq hl586_1
          clear hi586_1 hl586_1
          have HR586_2 := zq hi586_2
          have HC586_2 := zq hl586_2
          clear hi586_2 hl586_2
          have HR586_3 := zq hi586_3
          have HC586_3 := zq hl586_3
          clear hi586_3 hl586_3
          replace p586 := eq_true p586
          replace q586 := eq_true q586
          have ea_ := Option.some.inj (hx584_1.symm.trans hx586_1)
          injection ea_ with ea_ en_ ec_
          subst ea_
          subst ec_
          clear en_
          have ea_ := Option.some.inj (hx584_2.symm.trans hx586_2)
          injection ea_ with ea_ en_ ec_
          subst ea_
          subst ec_
          clear en_
          have ea_ := Option.some.inj (hx584_3.symm.trans hx586_3)
          injection ea_ with ea_ en_ ec_
          subst ea_
          subst ec_
          clear en_
          have p587 : 0 ≤ (x4_1 : Int) := of_decide_eq_true J2
          have q587 : x4_1 < (l0.length : Int) := of_decide_eq_true J2
          obtain ⟨ad587, A587_1, c587_1, A587_2, c587_2, A587_3, c587_3, e587, hx587_0, hx587_1, hx587_2, hx587_3, hl587_1, hi587_1, hl587_2, hi587_2, hl587_3, hi587_3⟩ := at_T30 HR0.out x4_1 p587 q587
          obtain rfl : ad584 = ad587 := (by injection e587)
          have HR587_1 := zq hi587_1
          have HC587_1 := zq hl587_1
          clear hi587_1 hl587_1
          have HR587_2 := zq hi587_2
          have HC587_2 := zq hl587_2
          clear hi587_2 hl587_2
          have HR587_3 := zq hi587_3
          have HC587_3 := zq hl587_3
          clear hi587_3 hl587_3
          replace p587 := eq_true p587
          replace q587 := eq_true q587
          have ea_ := Option.some.inj (hx584_1.symm.trans hx587_1)
          injection ea_ with ea_ en_ ec_
          subst ea_
          subst ec_
          clear en_
          have ea_ := Option.some.inj (hx584_2.symm.trans hx587_2)
          injection ea_ with ea_ en_ ec_
          subst ea_
          subst ec_
          clear en_
          have ea_ := Option.some.inj (hx584_3.symm.trans hx587_3)
          injection ea_ with ea_ en_ ec_
          subst ea_
          subst ec_
          clear en_
          have p588 : 0 ≤ (x4_1 : Int) := of_decide_eq_true J2
          have q588 : x4_1 < (l0.length : Int) := of_decide_eq_true J2
          obtain ⟨ad588, A588_1, c588_1, A588_2, c588_2, A588_3, c588_3, e588, hx588_0, hx588_1, hx588_2, hx588_3, hl588_1, hi588_1, hl588_2, hi588_2, hl588_3, hi588_3⟩ := at_T30 HR0.out x4_1 p588 q588
          obtain rfl : ad584 = ad588 := (by injection e588)
          have HR588_1 := zq hi588_1
          have HC588_1 := zq hl588_1
          clear hi588_1 hl588_1
          have HR588_2 := zq hi588_2
          have HC588_2 := zq hl588_2
          clear hi588_2 hl588_2
          have HR588_3 := zq hi588_3
          have HC588_3 := zq hl588_3
          clear hi588_3 hl588_3
          replace p588 := eq_true p588
          replace q588 := eq_true q588
          have ea_ := Option.some.inj (hx584_1.symm.trans hx588_1)
          injection ea_ with ea_ en_ ec_
          subst ea_
          subst ec_
          clear en_
          have ea_ := Option.some.inj (hx584_2.symm.trans hx588_2)
          injection ea_ with ea_ en_ ec_
          subst ea_
          subst ec_
          clear en_
          have ea_ := Option.some.inj (hx584_3.symm.trans hx588_3)
          injection ea_ with ea_ en_ ec_
          subst ea_
          subst ec_
          clear en_
          go_wp2
          repeat (go_quiet (fail); try go_wp2)
          go_roundg kj1
          case measure => have := HK1.out; have := HJ1.out; omega
          case rel => exact ⟨(wrap64 ((wrap64 (x3_1 + (((rd_T30 l0 x4_1).f2).length : Int))) + (((rd_T30 l0 x4_1).f3).length : Int))), (wrap64 (x4_1 + 1)), J6, J6, H', ⟨by have := HK1.out; have := HJ1.out; omega⟩, J7⟩
end Go.Proofs.Ytecdklheppcihaa.HTightNumbers
