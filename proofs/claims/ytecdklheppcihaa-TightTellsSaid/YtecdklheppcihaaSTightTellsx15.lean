/- Words and walks, shortened by a program: what this claim's functions answer, and that other memory stays. -/
import Derived.Test.YtecdklheppcihaaSTightTellsx0
namespace Go.Proofs.Ytecdklheppcihaa.HTightTells
open Go.RowKit Go.Proofs.YtecdklheppcihaaW.PrintWords Go.Proofs.YtecdklheppcihaaW.PrintLast Go.Proofs.YtecdklheppcihaaW.PrintMore
attribute [local go_sem] Xbp Xbn Xbu Xbt Xbg Xbf Xbo Xbm
set_option linter.unusedVariables false
set_option linter.unusedSimpArgs false
mutual
def X4.l0 : Nat → List (S30) → Int → Int → Option (Bool)
 | 0, _, _, _ => none
 | k + 1, x0, x3, x4 => if x4 < (x0.length : Int) then (X4.j1 k x0 x3 x4 (decide (x4 < 200))) else (X4.j1 k x0 x3 x4 false)
def X4.j1 : Nat → List (S30) → Int → Int → Bool → Option (Bool)
 | 0, _, _, _, _ => none
 | k + 1, x0, x3, x4, x12 => if x12 = true then (if 0 ≤ x4 then (if x4 < (x0.length : Int) then (if (((Xa x0 x4).f1).length : Int) > 30 then (some false) else (if (((Xa x0 x4).f2).length : Int) > 300 then (some false) else (if (((Xa x0 x4).f3).length : Int) > 300 then (some false) else (X4.l0 k x0 (wrap64 ((wrap64 (x3 + (((Xa x0 x4).f2).length : Int))) + (((Xa x0 x4).f3).length : Int))) (wrap64 (x4 + 1)))))) else (none)) else (none)) else (if (x0.length : Int) ≤ 100 then (some (decide (x3 ≤ 1000))) else (some false))
end
def X4.f (k : Nat) (l0 : List (S30)) : Option (Bool) := X4.l0 k l0 0 0
set_option maxHeartbeats 8000000 in
set_option maxRecDepth 100000 in
theorem X4.calls (k : Nat) (A0 : Option Addr) (c0 : Nat) (l0 : List (S30)) (r : Bool) (w : World) (hr0 : Kd.C k30 w A0 l0.length l0) (hc0 : l0.length ≤ c0) (h : X4.f k l0 = some r) :
  Calls Try.prog 10 #[.slice A0 l0.length c0] w fun e w' => e = .returned (.bool r) ∧ Drawn0 w w' := by
 have HR0 := zq hr0
 have HC0 := zq hc0
 clear hr0 hc0
 have H : (X4.l0 k l0 0 0) = some r := h
 clear h
 have H' := zq H
 clear H
 go_enter Try.func10, Try.ntmps10
 go_wp2
 repeat (go_quiet (fail); try go_wp2)
 go_loopg [3, 4] k (fun kq v3 v4 w' => ∃ (x3_1 : Int) (x4_1 : Int), v3 = .int .i64 x3_1 ∧ v4 = .int .i64 x4_1 ∧ Aside0 (X4.l0 kq l0 x3_1 x4_1 = some r) ∧ Aside0 (kq ≤ k) ∧ Drawn0 w w')
 case atStart => exact ⟨(0), (0), J4, J4, H', ⟨Nat.le_refl _⟩, J9⟩
 case round =>
  clear H'
  obtain ⟨x3_1, x4_1, rfl, rfl, HA, HK1, ⟨m1, rfl⟩⟩ := hrel
  cases gk with
  | zero => exact absurd HA.out (by simp [X4.l0])
  | succ k1 =>
   have H := HA.out
   clear HA
   simp only [X4.l0] at H
   have HC2 := zq H
   clear H
   go_upto_region 3 with (fail)
   repeat (go_quiet (fail); go_upto_region 3 with (fail))
   go_cut [12] (fun v12 wc => ∃ (kq : Nat) (x12_1 : Bool), v12 = .bool x12_1 ∧ Aside0 (X4.j1 kq l0 x3_1 x4_1 x12_1 = some r) ∧ Aside0 (kq ≤ k1) ∧ Drawn0 w wc)
   case first =>
    have H := HC2.out
    clear HC2
    refine yd H ?_ ?_ <;> clear H <;> rintro c3b0 H
    ·(first | rw [c3b0] | (simp only [Xan, Xaq]; rw [c3b0]) | skip)
     have H' := zq H
     clear H
     go_wp2
     repeat (go_quiet (fail); try go_wp2)
     go_meet
     case rel => exact ⟨_, (false), J4, H', ⟨J85⟩, J9⟩
    (first | rw [c3b0] | (simp only [Xan, Xaq]; rw [c3b0]) | skip)
    have H' := zq H
    clear H
    go_wp2
    repeat (go_quiet (fail); try go_wp2)
    go_meet
    case rel => exact ⟨_, (decide (x4_1 < 200)), J4, H', ⟨J85⟩, J9⟩
   case rest =>
    clear HC2
    obtain ⟨kq, x12_1, rfl, HA, HJ1, ⟨mc1, rfl⟩⟩ := hcut
    cases kq with
    | zero => exact absurd HA.out (by simp [X4.j1])
    | succ kj1 =>
     have H := HA.out
     clear HA
     simp only [X4.j1] at H
     refine yB H ?_ ?_ <;> clear H <;> rintro rfl H
     ·refine yu H ?_ ?_ <;> clear H <;> rintro c10 H
      ·have c10b0 : decide ((l0.length : Int) ≤ 100) = true := decide_eq_true c10
       have c10b1 : decide (l0.length ≤ 100) = true := decide_eq_true J29
       clear c10
       obtain rfl := yo H
       go_wp2
       repeat (go_quiet (fail); try go_wp2)
       go_ret
       exact ⟨J4, J9⟩
      ·have c10b0 : decide ((l0.length : Int) ≤ 100) = false := decide_eq_false c10
       have c10b1 : decide (l0.length ≤ 100) = false := decide_eq_false J29
       clear c10
       obtain rfl := yo H
       go_wp2
       repeat (go_quiet (fail); try go_wp2)
       go_ret
       exact ⟨J4, J9⟩
     refine yj H ?_; clear H; intro c5b0 H
     refine yj H ?_; clear H; intro c6b0 H
     refine yu H ?_ ?_ <;> clear H <;> rintro c7 H
     ·have c7b0 : decide (30 < (((Xa l0 x4_1).f1).length : Int)) = true := decide_eq_true c7
      have c7b1 : decide (30 < ((Xa l0 x4_1).f1).length) = true := decide_eq_true J29
      clear c7
      obtain rfl := yo H
      obtain ⟨ad584, A584_1, c584_1, A584_2, c584_2, A584_3, c584_3, e584, hx584_0, hx584_1, hx584_2, hx584_3, HR584_1, HC584_1, HR584_2, HC584_2, HR584_3, HC584_3, p584, q584⟩ := rdC HR0.out (Below.refl _ _) x4_1
      cases e584
      go_wp2
      repeat (go_quiet (fail); try go_wp2)
      go_ret
      exact ⟨J4, J9⟩
     have c7b0 := decide_eq_false c7
     have c7b1 : decide (30 < ((Xa l0 x4_1).f1).length) = false := decide_eq_false J29
     clear c7
     refine yu H ?_ ?_ <;> clear H <;> rintro c8 H
     ·have c8b0 : decide (300 < (((Xa l0 x4_1).f2).length : Int)) = true := decide_eq_true c8
      have c8b1 : decide (300 < ((Xa l0 x4_1).f2).length) = true := decide_eq_true J29
      clear c8
      obtain rfl := yo H
      obtain ⟨ad584, A584_1, c584_1, A584_2, c584_2, A584_3, c584_3, e584, hx584_0, hx584_1, hx584_2, hx584_3, HR584_1, HC584_1, HR584_2, HC584_2, HR584_3, HC584_3, p584, q584⟩ := rdC HR0.out (Below.refl _ _) x4_1
      cases e584
      obtain ⟨ad585, A585_1, c585_1, A585_2, c585_2, A585_3, c585_3, e585, hx585_0, hx585_1, hx585_2, hx585_3, HR585_1, HC585_1, HR585_2, HC585_2, HR585_3, HC585_3, p585, q585⟩ := rdC HR0.out (Below.refl _ _) x4_1
      obtain rfl : ad584 = ad585 := (by injection e585)
      have ea_ := Option.some.inj (hx584_1.symm.trans hx585_1)
      injection ea_ with ea_ en_ ec_
      subst ea_
      subst ec_
      clear en_
      have ea_ := Option.some.inj (hx584_2.symm.trans hx585_2)
      injection ea_ with ea_ en_ ec_
      subst ea_
      subst ec_
      clear en_
      have ea_ := Option.some.inj (hx584_3.symm.trans hx585_3)
      injection ea_ with ea_ en_ ec_
      subst ea_
      subst ec_
      clear en_
      go_wp2
      repeat (go_quiet (fail); try go_wp2)
      go_ret
      exact ⟨J4, J9⟩
     have c8b0 := decide_eq_false c8
     have c8b1 : decide (300 < ((Xa l0 x4_1).f2).length) = false := decide_eq_false J29
     clear c8
     refine yu H ?_ ?_ <;> clear H <;> rintro c9 H
     ·have c9b0 : decide (300 < (((Xa l0 x4_1).f3).length : Int)) = true := decide_eq_true c9
      have c9b1 : decide (300 < ((Xa l0 x4_1).f3).length) = true := decide_eq_true J29
      clear c9
      obtain rfl := yo H
      obtain ⟨ad584, A584_1, c584_1, A584_2, c584_2, A584_3, c584_3, e584, hx584_0, hx584_1, hx584_2, hx584_3, HR584_1, HC584_1, HR584_2, HC584_2, HR584_3, HC584_3, p584, q584⟩ := rdC HR0.out (Below.refl _ _) x4_1
      cases e584
      obtain ⟨ad585, A585_1, c585_1, A585_2, c585_2, A585_3, c585_3, e585, hx585_0, hx585_1, hx585_2, hx585_3, HR585_1, HC585_1, HR585_2, HC585_2, HR585_3, HC585_3, p585, q585⟩ := rdC HR0.out (Below.refl _ _) x4_1
      obtain rfl : ad584 = ad585 := (by injection e585)
      have ea_ := Option.some.inj (hx584_1.symm.trans hx585_1)
      injection ea_ with ea_ en_ ec_
      subst ea_
      subst ec_
      clear en_
      have ea_ := Option.some.inj (hx584_2.symm.trans hx585_2)
      injection ea_ with ea_ en_ ec_
      subst ea_
      subst ec_
      clear en_
      have ea_ := Option.some.inj (hx584_3.symm.trans hx585_3)
      injection ea_ with ea_ en_ ec_
      subst ea_
      subst ec_
      clear en_
      obtain ⟨ad586, A586_1, c586_1, A586_2, c586_2, A586_3, c586_3, e586, hx586_0, hx586_1, hx586_2, hx586_3, HR586_1, HC586_1, HR586_2, HC586_2, HR586_3, HC586_3, p586, q586⟩ := rdC HR0.out (Below.refl _ _) x4_1
      obtain rfl : ad584 = ad586 := (by injection e586)
      have ea_ := Option.some.inj (hx584_1.symm.trans hx586_1)
      injection ea_ with ea_ en_ ec_
      subst ea_
      subst ec_
      clear en_
      have ea_ := Option.some.inj (hx584_2.symm.trans hx586_2)
      injection ea_ with ea_ en_ ec_
      subst ea_
      subst ec_
      clear en_
      have ea_ := Option.some.inj (hx584_3.symm.trans hx586_3)
      injection ea_ with ea_ en_ ec_
      subst ea_
      subst ec_
      clear en_
      go_wp2
      repeat (go_quiet (fail); try go_wp2)
      go_ret
      exact ⟨J4, J9⟩
     have c9b0 := decide_eq_false c9
     have c9b1 : decide (300 < ((Xa l0 x4_1).f3).length) = false := decide_eq_false J29
     clear c9
     have H' := zq H
     clear H
     obtain ⟨ad584, A584_1, c584_1, A584_2, c584_2, A584_3, c584_3, e584, hx584_0, hx584_1, hx584_2, hx584_3, HR584_1, HC584_1, HR584_2, HC584_2, HR584_3, HC584_3, p584, q584⟩ := rdC HR0.out (Below.refl _ _) x4_1
     cases e584
     obtain ⟨ad585, A585_1, c585_1, A585_2, c585_2, A585_3, c585_3, e585, hx585_0, hx585_1, hx585_2, hx585_3, HR585_1, HC585_1, HR585_2, HC585_2, HR585_3, HC585_3, p585, q585⟩ := rdC HR0.out (Below.refl _ _) x4_1
     obtain rfl : ad584 = ad585 := (by injection e585)
     have ea_ := Option.some.inj (hx584_1.symm.trans hx585_1)
     injection ea_ with ea_ en_ ec_
     subst ea_
     subst ec_
     clear en_
     have ea_ := Option.some.inj (hx584_2.symm.trans hx585_2)
     injection ea_ with ea_ en_ ec_
     subst ea_
     subst ec_
     clear en_
     have ea_ := Option.some.inj (hx584_3.symm.trans hx585_3)
     injection ea_ with ea_ en_ ec_
     subst ea_
     subst ec_
     clear en_
     obtain ⟨ad586, A586_1, c586_1, A586_2, c586_2, A586_3, c586_3, e586, hx586_0, hx586_1, hx586_2, hx586_3, HR586_1, HC586_1, HR586_2, HC586_2, HR586_3, HC586_3, p586, q586⟩ := rdC HR0.out (Below.refl _ _) x4_1
     obtain rfl : ad584 = ad586 := (by injection e586)
     have ea_ := Option.some.inj (hx584_1.symm.trans hx586_1)
     injection ea_ with ea_ en_ ec_
     subst ea_
     subst ec_
     clear en_
     have ea_ := Option.some.inj (hx584_2.symm.trans hx586_2)
     injection ea_ with ea_ en_ ec_
     subst ea_
     subst ec_
     clear en_
     have ea_ := Option.some.inj (hx584_3.symm.trans hx586_3)
     injection ea_ with ea_ en_ ec_
     subst ea_
     subst ec_
     clear en_
     obtain ⟨ad587, A587_1, c587_1, A587_2, c587_2, A587_3, c587_3, e587, hx587_0, hx587_1, hx587_2, hx587_3, HR587_1, HC587_1, HR587_2, HC587_2, HR587_3, HC587_3, p587, q587⟩ := rdC HR0.out (Below.refl _ _) x4_1
     obtain rfl : ad584 = ad587 := (by injection e587)
     have ea_ := Option.some.inj (hx584_1.symm.trans hx587_1)
     injection ea_ with ea_ en_ ec_
     subst ea_
     subst ec_
     clear en_
     have ea_ := Option.some.inj (hx584_2.symm.trans hx587_2)
     injection ea_ with ea_ en_ ec_
     subst ea_
     subst ec_
     clear en_
     have ea_ := Option.some.inj (hx584_3.symm.trans hx587_3)
     injection ea_ with ea_ en_ ec_
     subst ea_
     subst ec_
     clear en_
     obtain ⟨ad588, A588_1, c588_1, A588_2, c588_2, A588_3, c588_3, e588, hx588_0, hx588_1, hx588_2, hx588_3, HR588_1, HC588_1, HR588_2, HC588_2, HR588_3, HC588_3, p588, q588⟩ := rdC HR0.out (Below.refl _ _) x4_1
     obtain rfl : ad584 = ad588 := (by injection e588)
     have ea_ := Option.some.inj (hx584_1.symm.trans hx588_1)
     injection ea_ with ea_ en_ ec_
     subst ea_
     subst ec_
     clear en_
     have ea_ := Option.some.inj (hx584_2.symm.trans hx588_2)
     injection ea_ with ea_ en_ ec_
     subst ea_
     subst ec_
     clear en_
     have ea_ := Option.some.inj (hx584_3.symm.trans hx588_3)
     injection ea_ with ea_ en_ ec_
     subst ea_
     subst ec_
     clear en_
     go_wp2
     repeat (go_quiet (fail); try go_wp2)
     go_roundg kj1
     case measure => have := HK1.out; have := HJ1.out; omega
     case rel => exact ⟨(wrap64 ((wrap64 (x3_1 + (((Xa l0 x4_1).f2).length : Int))) + (((Xa l0 x4_1).f3).length : Int))), (wrap64 (x4_1 + 1)), J4, J4, H', ⟨by have := HK1.out; have := HJ1.out; omega⟩, J9⟩
mutual
def Xv.l0 : Nat → List Int → Int → Int → Option (Int × Bool)
 | 0, _, _, _ => none
 | k + 1, x0, x4, x5 => if x5 < (x0.length : Int) then (if 0 ≤ x5 then (if (rd x0 x5) < 0 then (Xv.j1 k x0 x4 x5 true) else (Xv.j1 k x0 x4 x5 (decide ((rd x0 x5) > 1048576)))) else (none)) else (if x4 = 0 then (some (0, true)) else (Xv.l1 k x0 x4 0))
def Xv.j1 : Nat → List Int → Int → Int → Bool → Option (Int × Bool)
 | 0, _, _, _, _ => none
 | k + 1, x0, x4, x5, x27 => if x27 = true then (some (0, false)) else (if 0 ≤ x5 then (if x5 < (x0.length : Int) then (if (rd x0 x5) = 0 then (Xv.l0 k x0 0 (wrap64 (x5 + 1))) else (Xv.l0 k x0 x4 (wrap64 (x5 + 1)))) else (none)) else (none))
def Xv.l1 : Nat → List Int → Int → Int → Option (Int × Bool)
 | 0, _, _, _ => none
 | k + 1, x0, x4, x6 => if x6 < (x0.length : Int) then (if 0 ≤ x6 then (if (wrap64 (x4 * (rd x0 x6))) > 1048576 then (some (0, false)) else (Xv.l1 k x0 (wrap64 (x4 * (rd x0 x6))) (wrap64 (x6 + 1)))) else (none)) else (some (x4, true))
end
def Xv.f (k : Nat) (l0 : List Int) : Option (Int × Bool) := if (l0.length : Int) > 16 then (some (0, false)) else (Xv.l0 k l0 1 0)
set_option maxHeartbeats 8000000 in
set_option maxRecDepth 100000 in
theorem Xv.calls (k : Nat) (A0 : Option Addr) (c0 : Nat) (l0 : List Int) (r1 : Int) (r2 : Bool) (w : World) (hr0 : Kd.C (Kd.int .i64) w A0 l0.length l0) (hc0 : l0.length ≤ c0) (h : Xv.f k l0 = some (r1, r2)) :
  Calls Try.prog 39 #[.slice A0 l0.length c0] w fun e w' => e = .returned (.tuple #[.int .i64 r1, .bool r2]) ∧ Drawn0 w w' := by
 have HR0 := zq hr0
 have HC0 := zq hc0
 clear hr0 hc0
 unfold Xv.f at h
 have H := h
 clear h
 refine yu H ?_ ?_ <;> clear H <;> rintro c2 H
 ·have c2b0 : decide (16 < (l0.length : Int)) = true := decide_eq_true c2
  have c2b1 : decide (16 < l0.length) = true := decide_eq_true J29
  clear c2
  obtain ⟨rfl, rfl⟩ := yp2 H
  go_enter Try.func39, Try.ntmps39
  go_wp2
  go_ret2
  exact ⟨J4, J9⟩
 have c2b0 := decide_eq_false c2
 have c2b1 : decide (16 < l0.length) = false := decide_eq_false J29
 clear c2
 have H' := zq H
 clear H
 go_enter Try.func39, Try.ntmps39
 go_wp2
 go_loopg [4, 5] k (fun kq v4 v5 w' => ∃ (x4_1 : Int) (x5_1 : Int), v4 = .int .i64 x4_1 ∧ v5 = .int .i64 x5_1 ∧ Aside0 (Xv.l0 kq l0 x4_1 x5_1 = some (r1, r2)) ∧ Aside0 (kq ≤ k) ∧ Drawn0 w w')
 case atStart => exact ⟨(1), (0), J4, J4, H', ⟨Nat.le_refl _⟩, J9⟩
 case round =>
  clear H'
  try clear c2
  try clear c2b0
  try clear c2b1
  obtain ⟨x4_1, x5_1, rfl, rfl, HA, HK1, ⟨m1, rfl⟩⟩ := hrel
  cases gk with
  | zero => exact absurd HA.out (by simp [Xv.l0])
  | succ k1 =>
   have H := HA.out
   clear HA
   simp only [Xv.l0] at H
   refine yd H ?_ ?_ <;> clear H <;> rintro c3b0 H
   ·refine yF H ?_ ?_ <;> clear H <;> rintro ⟨c11b0, c11b1, c11⟩ H
    ·clear c11
     obtain ⟨rfl, rfl⟩ := yp2 H
     go_wp2
     go_ret2
     exact ⟨J4, J9⟩
    ·have H' := zq H
     clear H
     go_wp2
     go_loopg [4, 6] k1 (fun kq v4 v6 w' => ∃ (x4_2 : Int) (x6_2 : Int), v4 = .int .i64 x4_2 ∧ v6 = .int .i64 x6_2 ∧ Aside0 (Xv.l1 kq l0 x4_2 x6_2 = some (r1, r2)) ∧ Aside0 (kq ≤ k1) ∧ Drawn0 w w')
     case atStart => exact ⟨(x4_1), (0), J4, J4, H', ⟨Nat.le_refl _⟩, J9⟩
     case round =>
      clear H'
      try clear c2
      try clear c2b0
      try clear c2b1
      try clear c3b0
      try clear c11
      try clear c11b0
      try clear c11b1
      obtain ⟨x4_2, x6_2, rfl, rfl, HA, HK2, ⟨m2, rfl⟩⟩ := hrel
      cases gk with
      | zero => exact absurd HA.out (by simp [Xv.l1])
      | succ k2 =>
       have H := HA.out
       clear HA
       simp only [Xv.l1] at H
       refine yD H ?_ ?_ <;> clear H <;> rintro c12b0 H
       ·refine yu H ?_ ?_ <;> clear H <;> rintro c13 H
        ·have c13b0 : decide (0 ≤ x6_2) = true := decide_eq_true c13
         clear c13
         refine yD H ?_ ?_ <;> clear H <;> rintro c14b0 H
         ·obtain ⟨rfl, rfl⟩ := yp2 H
          have p592 : 0 ≤ (x6_2 : Int) := of_decide_eq_true J2
          have q592 : x6_2 < (l0.length : Int) := of_decide_eq_true J2
          obtain ⟨ad592, e592, hx592_0⟩ := Kd.at_int HR0.out x6_2 p592 q592
          cases e592
          replace p592 := eq_true p592
          replace q592 := eq_true q592
          go_wp2
          go_ret2
          exact ⟨J4, J9⟩
         ·have H' := zq H
          clear H
          have p592 : 0 ≤ (x6_2 : Int) := of_decide_eq_true J2
          have q592 : x6_2 < (l0.length : Int) := of_decide_eq_true J2
          obtain ⟨ad592, e592, hx592_0⟩ := Kd.at_int HR0.out x6_2 p592 q592
          cases e592
          replace p592 := eq_true p592
          replace q592 := eq_true q592
          go_wp2
          go_roundg k2
          case measure => have := HK1.out; have := HK2.out; omega
          case rel => exact ⟨(wrap64 (x4_2 * (rd l0 x6_2))), (wrap64 (x6_2 + 1)), J4, J4, H', ⟨by have := HK1.out; have := HK2.out; omega⟩, J9⟩
        ·exact absurd H J83
       ·obtain ⟨rfl, rfl⟩ := yp2 H
        go_wp2
        go_ret2
        exact ⟨J4, J9⟩
   have HC4 := zq H
   clear H
   go_upto_region 7 with (fail)
   go_cut [27] (fun v27 wc => ∃ (kq : Nat) (x27_3 : Bool), v27 = .bool x27_3 ∧ Aside0 (Xv.j1 kq l0 x4_1 x5_1 x27_3 = some (r1, r2)) ∧ Aside0 (kq ≤ k1) ∧ Drawn0 w wc)
   case first =>
    have H := HC4.out
    clear HC4
    refine yj H ?_; clear H; intro c5b0 H
    (first | rw [c5b0] | (simp only [Xan, Xaq]; rw [c5b0]) | skip)
    refine yD H ?_ ?_ <;> clear H <;> rintro c6b0 H
    ·have H' := zq H
     clear H
     have p589 : 0 ≤ (x5_1 : Int) := of_decide_eq_true J2
     have q589 : x5_1 < (l0.length : Int) := of_decide_eq_true J2
     obtain ⟨ad589, e589, hx589_0⟩ := Kd.at_int HR0.out x5_1 p589 q589
     cases e589
     replace p589 := eq_true p589
     replace q589 := eq_true q589
     go_wp2
     go_meet
     case rel => exact ⟨_, (true), J4, H', ⟨J85⟩, J9⟩
    have H' := zq H
    clear H
    have p589 : 0 ≤ (x5_1 : Int) := of_decide_eq_true J2
    have q589 : x5_1 < (l0.length : Int) := of_decide_eq_true J2
    obtain ⟨ad589, e589, hx589_0⟩ := Kd.at_int HR0.out x5_1 p589 q589
    cases e589
    replace p589 := eq_true p589
    replace q589 := eq_true q589
    have p590 : 0 ≤ (x5_1 : Int) := of_decide_eq_true J2
    have q590 : x5_1 < (l0.length : Int) := of_decide_eq_true J2
    obtain ⟨ad590, e590, hx590_0⟩ := Kd.at_int HR0.out x5_1 p590 q590
    obtain rfl : ad589 = ad590 := (by injection e590)
    replace p590 := eq_true p590
    replace q590 := eq_true q590
    go_wp2
    go_meet
    case rel => exact ⟨_, (decide ((rd l0 x5_1) > 1048576)), J4, H', ⟨J85⟩, J9⟩
   case rest =>
    clear HC4
    try clear c2
    try clear c2b0
    try clear c2b1
    try clear c3b0
    obtain ⟨kq, x27_3, rfl, HA, HJ3, ⟨mc3, rfl⟩⟩ := hcut
    cases kq with
    | zero => exact absurd HA.out (by simp [Xv.j1])
    | succ kj3 =>
     have H := HA.out
     clear HA
     simp only [Xv.j1] at H
     refine yC H ?_ ?_ <;> clear H <;> rintro rfl H
     ·obtain ⟨rfl, rfl⟩ := yp2 H
      go_wp2
      go_ret2
      exact ⟨J4, J9⟩
     refine yj H ?_; clear H; intro c8b0 H
     refine yj H ?_; clear H; intro c9b0 H
     refine yE H ?_ ?_ <;> clear H <;> rintro ⟨c10b0, c10b1, c10⟩ H
     ·have H' := zq H
      clear H
      have p591 : 0 ≤ (x5_1 : Int) := of_decide_eq_true J2
      have q591 : x5_1 < (l0.length : Int) := of_decide_eq_true J2
      obtain ⟨ad591, e591, hx591_0⟩ := Kd.at_int HR0.out x5_1 p591 q591
      cases e591
      replace p591 := eq_true p591
      replace q591 := eq_true q591
      go_wp2
      go_roundg kj3
      case measure => have := HK1.out; have := HJ3.out; omega
      case rel => exact ⟨(x4_1), (wrap64 (x5_1 + 1)), J4, J4, H', ⟨by have := HK1.out; have := HJ3.out; omega⟩, J9⟩
     clear c10
     have H' := zq H
     clear H
     have p591 : 0 ≤ (x5_1 : Int) := of_decide_eq_true J2
     have q591 : x5_1 < (l0.length : Int) := of_decide_eq_true J2
     obtain ⟨ad591, e591, hx591_0⟩ := Kd.at_int HR0.out x5_1 p591 q591
     cases e591
     replace p591 := eq_true p591
     replace q591 := eq_true q591
     go_wp2
     go_roundg kj3
     case measure => have := HK1.out; have := HJ3.out; omega
     case rel => exact ⟨(0), (wrap64 (x5_1 + 1)), J4, J4, H', ⟨by have := HK1.out; have := HJ3.out; omega⟩, J9⟩
end Go.Proofs.Ytecdklheppcihaa.HTightTells
