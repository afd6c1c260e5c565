/- What the Go functions of this claim answer, told as functions of numbers and lists, and that other memory stays as it was: words and walks, shortened by a program. -/
import Derived.Test.YtfjhiiaahbjaiaaDoorSSystemFirstx0
import Derived.Test.YtfjhiiaahbjaiaaDoorSSystemFirstx18
namespace Go.Proofs.YtfjhiiaahbjaiaaDoor.HSystemFirst
open Go.RowKit Go.Proofs.YtfjhiiaahbjaiaaDoorW.PrintWords Go.Proofs.YtfjhiiaahbjaiaaDoorW.PrintLast Go.Proofs.YtfjhiiaahbjaiaaDoorW.PrintMore
attribute [local go_sem] Xby Xbw Xcb Xca Xbp Xbo Xbx Xbv
set_option linter.unusedVariables false
set_option linter.unusedSimpArgs false
mutual
def X6.l0 : Nat → List (S32) → Int → Int → Option (Bool)
 | 0, _, _, _ => none
 | k + 1, x0, x3, x4 => if x4 < (x0.length : Int) then (X6.j1 k x0 x3 x4 (decide (x4 < 200))) else (X6.j1 k x0 x3 x4 false)
def X6.j1 : Nat → List (S32) → Int → Int → Bool → Option (Bool)
 | 0, _, _, _, _ => none
 | k + 1, x0, x3, x4, x12 => if x12 = true then (if 0 ≤ x4 then (if x4 < (x0.length : Int) then (if (((Xa x0 x4).f1).length : Int) > 30 then (some false) else (if (((Xa x0 x4).f2).length : Int) > 300 then (some false) else (if (((Xa x0 x4).f3).length : Int) > 300 then (some false) else (X6.l0 k x0 (wrap64 ((wrap64 (x3 + (((Xa x0 x4).f2).length : Int))) + (((Xa x0 x4).f3).length : Int))) (wrap64 (x4 + 1)))))) else (none)) else (none)) else (if (x0.length : Int) ≤ 100 then (some (decide (x3 ≤ 1000))) else (some false))
end
def X6.f (k : Nat) (l0 : List (S32)) : Option (Bool) := X6.l0 k l0 0 0
set_option maxHeartbeats 8000000 in
set_option maxRecDepth 100000 in
theorem X6.calls (k : Nat) (A0 : Option Addr) (c0 : Nat) (l0 : List (S32)) (r : Bool) (w : World) (hr0 : Kd.C k32 w A0 l0.length l0) (hc0 : l0.length ≤ c0) (h : X6.f k l0 = some r) :
  Calls Tryd.prog 11 #[.slice A0 l0.length c0] w fun e w' => e = .returned (.bool r) ∧ Drawn0 w w' := by
 have HR0 := zq hr0
 have HC0 := zq hc0
 clear hr0 hc0
 have H : (X6.l0 k l0 0 0) = some r := h
 clear h
 have H' := zq H
 clear H
 go_enter Tryd.func11, Tryd.ntmps11
 go_wp2
 repeat (go_quiet (fail); try go_wp2)
 go_loopg [3, 4] k (fun kq v3 v4 w' => ∃ (x3_1 : Int) (x4_1 : Int), v3 = .int .i64 x3_1 ∧ v4 = .int .i64 x4_1 ∧ Aside0 (X6.l0 kq l0 x3_1 x4_1 = some r) ∧ Aside0 (kq ≤ k) ∧ Drawn0 w w')
 case atStart => exact ⟨(0), (0), J4, J4, H', ⟨Nat.le_refl _⟩, J5⟩
 case round =>
  clear H'
  obtain ⟨x3_1, x4_1, rfl, rfl, HA, HK1, ⟨m1, rfl⟩⟩ := hrel
  cases gk with
  | zero => exact absurd HA.out (by simp [X6.l0])
  | succ k1 =>
   have H := HA.out
   clear HA
   simp only [X6.l0] at H
   have HC2 := zq H
   clear H
   go_upto_region 3 with (fail)
   repeat (go_quiet (fail); go_upto_region 3 with (fail))
   go_cut [12] (fun v12 wc => ∃ (kq : Nat) (x12_1 : Bool), v12 = .bool x12_1 ∧ Aside0 (X6.j1 kq l0 x3_1 x4_1 x12_1 = some r) ∧ Aside0 (kq ≤ k1) ∧ Drawn0 w wc)
   case first =>
    have H := HC2.out
    clear HC2
    refine yd H ?_ ?_ <;> clear H <;> rintro c3b0 H
    ·(first | rw [c3b0] | (simp only [Xbd, Xbh]; rw [c3b0]) | skip)
     have H' := zq H
     clear H
     go_wp2
     repeat (go_quiet (fail); try go_wp2)
     go_meet
     case rel => exact ⟨_, (false), J4, H', ⟨J87⟩, J5⟩
    (first | rw [c3b0] | (simp only [Xbd, Xbh]; rw [c3b0]) | skip)
    have H' := zq H
    clear H
    go_wp2
    repeat (go_quiet (fail); try go_wp2)
    go_meet
    case rel => exact ⟨_, (decide (x4_1 < 200)), J4, H', ⟨J87⟩, J5⟩
   case rest =>
    clear HC2
    obtain ⟨kq, x12_1, rfl, HA, HJ1, ⟨mc1, rfl⟩⟩ := hcut
    cases kq with
    | zero => exact absurd HA.out (by simp [X6.j1])
    | succ kj1 =>
     have H := HA.out
     clear HA
     simp only [X6.j1] at H
     refine yB H ?_ ?_ <;> clear H <;> rintro rfl H
     ·refine yu H ?_ ?_ <;> clear H <;> rintro c10 H
      ·have c10b0 : decide ((l0.length : Int) ≤ 100) = true := decide_eq_true c10
       have c10b1 : decide (l0.length ≤ 100) = true := decide_eq_true J35
       clear c10
       obtain rfl := yo H
       go_wp2
       repeat (go_quiet (fail); try go_wp2)
       go_ret
       exact ⟨J4, J5⟩
      ·have c10b0 : decide ((l0.length : Int) ≤ 100) = false := decide_eq_false c10
       have c10b1 : decide (l0.length ≤ 100) = false := decide_eq_false J35
       clear c10
       obtain rfl := yo H
       go_wp2
       repeat (go_quiet (fail); try go_wp2)
       go_ret
       exact ⟨J4, J5⟩
     refine yj H ?_; clear H; intro c5b0 H
     refine yj H ?_; clear H; intro c6b0 H
     refine yu H ?_ ?_ <;> clear H <;> rintro c7 H
     ·have c7b0 : decide (30 < (((Xa l0 x4_1).f1).length : Int)) = true := decide_eq_true c7
      have c7b1 : decide (30 < ((Xa l0 x4_1).f1).length) = true := decide_eq_true J35
      clear c7
      obtain rfl := yo H
      have p724 : 0 ≤ (x4_1 : Int) := of_decide_eq_true J3
      have q724 : x4_1 < (l0.length : Int) := of_decide_eq_true J3
      obtain ⟨ad724, A724_1, c724_1, A724_2, c724_2, A724_3, c724_3, e724, hx724_0, hx724_1, hx724_2, hx724_3, hl724_1, hi724_1, hl724_2, hi724_2, hl724_3, hi724_3⟩ := Xbz HR0.out x4_1 p724 q724
      cases e724
      have HR724_1 := zq hi724_1
      have HC724_1 := zq hl724_1
      clear hi724_1 hl724_1
      have HR724_2 := zq hi724_2
      have HC724_2 := zq hl724_2
      clear hi724_2 hl724_2
      have HR724_3 := zq hi724_3
      have HC724_3 := zq hl724_3
      clear hi724_3 hl724_3
      replace p724 := eq_true p724
      replace q724 := eq_true q724
      go_wp2
      repeat (go_quiet (fail); try go_wp2)
      go_ret
      exact ⟨J4, J5⟩
     have c7b0 := decide_eq_false c7
     have c7b1 : decide (30 < ((Xa l0 x4_1).f1).length) = false := decide_eq_false J35
     clear c7
     refine yu H ?_ ?_ <;> clear H <;> rintro c8 H
     ·have c8b0 : decide (300 < (((Xa l0 x4_1).f2).length : Int)) = true := decide_eq_true c8
      have c8b1 : decide (300 < ((Xa l0 x4_1).f2).length) = true := decide_eq_true J35
      clear c8
      obtain rfl := yo H
      have p724 : 0 ≤ (x4_1 : Int) := of_decide_eq_true J3
      have q724 : x4_1 < (l0.length : Int) := of_decide_eq_true J3
      obtain ⟨ad724, A724_1, c724_1, A724_2, c724_2, A724_3, c724_3, e724, hx724_0, hx724_1, hx724_2, hx724_3, hl724_1, hi724_1, hl724_2, hi724_2, hl724_3, hi724_3⟩ := Xbz HR0.out x4_1 p724 q724
      cases e724
      have HR724_1 := zq hi724_1
      have HC724_1 := zq hl724_1
      clear hi724_1 hl724_1
      have HR724_2 := zq hi724_2
      have HC724_2 := zq hl724_2
      clear hi724_2 hl724_2
      have HR724_3 := zq hi724_3
      have HC724_3 := zq hl724_3
      clear hi724_3 hl724_3
      replace p724 := eq_true p724
      replace q724 := eq_true q724
      have p725 : 0 ≤ (x4_1 : Int) := of_decide_eq_true J3
      have q725 : x4_1 < (l0.length : Int) := of_decide_eq_true J3
      obtain ⟨ad725, A725_1, c725_1, A725_2, c725_2, A725_3, c725_3, e725, hx725_0, hx725_1, hx725_2, hx725_3, hl725_1, hi725_1, hl725_2, hi725_2, hl725_3, hi725_3⟩ := Xbz HR0.out x4_1 p725 q725
      obtain rfl : ad724 = ad725 := (by injection e725)
      have HR725_1 := zq hi725_1
      have HC725_1 := zq hl725_1
      clear hi725_1 hl725_1
      have HR725_2 := zq hi725_2
      have HC725_2 := zq hl725_2
      clear hi725_2 hl725_2
      have HR725_3 := zq hi725_3
      have HC725_3 := zq hl725_3
      clear hi725_3 hl725_3
      replace p725 := eq_true p725
      replace q725 := eq_true q725
      have ea_ := Option.some.inj (hx724_1.symm.trans hx725_1)
      injection ea_ with ea_ en_ ec_
      subst ea_
      subst ec_
      clear en_
      have ea_ := Option.some.inj (hx724_2.symm.trans hx725_2)
      injection ea_ with ea_ en_ ec_
      subst ea_
      subst ec_
      clear en_
      have ea_ := Option.some.inj (hx724_3.symm.trans hx725_3)
      injection ea_ with ea_ en_ ec_
      subst ea_
      subst ec_
      clear en_
      go_wp2
      repeat (go_quiet (fail); try go_wp2)
      go_ret
      exact ⟨J4, J5⟩
     have c8b0 := decide_eq_false c8
     have c8b1 : decide (300 < ((Xa l0 x4_1).f2).length) = false := decide_eq_false J35
     clear c8
     refine yu H ?_ ?_ <;> clear H <;> rintro c9 H
     ·have c9b0 : decide (300 < (((Xa l0 x4_1).f3).length : Int)) = true := decide_eq_true c9
      have c9b1 : decide (300 < ((Xa l0 x4_1).f3).length) = true := decide_eq_true J35
      clear c9
      obtain rfl := yo H
      have p724 : 0 ≤ (x4_1 : Int) := of_decide_eq_true J3
      have q724 : x4_1 < (l0.length : Int) := of_decide_eq_true J3
      obtain ⟨ad724, A724_1, c724_1, A724_2, c724_2, A724_3, c724_3, e724, hx724_0, hx724_1, hx724_2, hx724_3, hl724_1, hi724_1, hl724_2, hi724_2, hl724_3, hi724_3⟩ := Xbz HR0.out x4_1 p724 q724
      cases e724
      have HR724_1 := zq hi724_1
      have HC724_1 := zq hl724_1
      clear hi724_1 hl724_1
      have HR724_2 := zq hi724_2
      have HC724_2 := zq hl724_2
      clear hi724_2 hl724_2
      have HR724_3 := zq hi724_3
      have HC724_3 := zq hl724_3
      clear hi724_3 hl724_3
      replace p724 := eq_true p724
      replace q724 := eq_true q724
      have p725 : 0 ≤ (x4_1 : Int) := of_decide_eq_true J3
      have q725 : x4_1 < (l0.length : Int) := of_decide_eq_true J3
      obtain ⟨ad725, A725_1, c725_1, A725_2, c725_2, A725_3, c725_3, e725, hx725_0, hx725_1, hx725_2, hx725_3, hl725_1, hi725_1, hl725_2, hi725_2, hl725_3, hi725_3⟩ := Xbz HR0.out x4_1 p725 q725
      obtain rfl : ad724 = ad725 := (by injection e725)
      have HR725_1 := zq hi725_1
      have HC725_1 := zq hl725_1
      clear hi725_1 hl725_1
      have HR725_2 := zq hi725_2
      have HC725_2 := zq hl725_2
      clear hi725_2 hl725_2
      have HR725_3 := zq hi725_3
      have HC725_3 := zq hl725_3
      clear hi725_3 hl725_3
      replace p725 := eq_true p725
      replace q725 := eq_true q725
      have ea_ := Option.some.inj (hx724_1.symm.trans hx725_1)
      injection ea_ with ea_ en_ ec_
      subst ea_
      subst ec_
      clear en_
      have ea_ := Option.some.inj (hx724_2.symm.trans hx725_2)
      injection ea_ with ea_ en_ ec_
      subst ea_
      subst ec_
      clear en_
      have ea_ := Option.some.inj (hx724_3.symm.trans hx725_3)
      injection ea_ with ea_ en_ ec_
      subst ea_
      subst ec_
      clear en_
      have p726 : 0 ≤ (x4_1 : Int) := of_decide_eq_true J3
      have q726 : x4_1 < (l0.length : Int) := of_decide_eq_true J3
      obtain ⟨ad726, A726_1, c726_1, A726_2, c726_2, A726_3, c726_3, e726, hx726_0, hx726_1, hx726_2, hx726_3, hl726_1, hi726_1, hl726_2, hi726_2, hl726_3, hi726_3⟩ := Xbz HR0.out x4_1 p726 q726
      obtain rfl : ad724 = ad726 := (by injection e726)
      have HR726_1 := zq hi726_1
      have HC726_1 := zq hl726_1
      clear hi726_1 hl726_1
      have HR726_2 := zq hi726_2
      have HC726_2 := zq hl726_2
      clear hi726_2 hl726_2
      have HR726_3 := zq hi726_3
      have HC726_3 := zq hl726_3
      clear hi726_3 hl726_3
      replace p726 := eq_true p726
      replace q726 := eq_true q726
      have ea_ := Option.some.inj (hx724_1.symm.trans hx726_1)
      injection ea_ with ea_ en_ ec_
      subst ea_
      subst ec_
      clear en_
      have ea_ := Option.some.inj (hx724_2.symm.trans hx726_2)
      injection ea_ with ea_ en_ ec_
      subst ea_
      subst ec_
      clear en_
      have ea_ := Option.some.inj (hx724_3.symm.trans hx726_3)
      injection ea_ with ea_ en_ ec_
      subst ea_
      subst ec_
      clear en_
      go_wp2
      repeat (go_quiet (fail); try go_wp2)
      go_ret
      exact ⟨J4, J5⟩
     have c9b0 := decide_eq_false c9
     have c9b1 : decide (300 < ((Xa l0 x4_1).f3).length) = false := decide_eq_false J35
     clear c9
     have H' := zq H
     clear H
     have p724 : 0 ≤ (x4_1 : Int) := of_decide_eq_true J3
     have q724 : x4_1 < (l0.length : Int) := of_decide_eq_true J3
     obtain ⟨ad724, A724_1, c724_1, A724_2, c724_2, A724_3, c724_3, e724, hx724_0, hx724_1, hx724_2, hx724_3, hl724_1, hi724_1, hl724_2, hi724_2, hl724_3, hi724_3⟩ := Xbz HR0.out x4_1 p724 q724
     cases e724
     have HR724_1 := zq hi724_1
     have HC724_1 := zq hl724_1
     clear hi724_1 hl724_1
     have HR724_2 := zq hi724_2
     have HC724_2 := zq hl724_2
     clear hi724_2 hl724_2
     have HR724_3 := zq hi724_3
     have HC724_3 := zq hl724_3
     clear hi724_3 hl724_3
     replace p724 := eq_true p724
     replace q724 := eq_true q724
     have p725 : 0 ≤ (x4_1 : Int) := of_decide_eq_true J3
     have q725 : x4_1 < (l0.length : Int) := of_decide_eq_true J3
     obtain ⟨ad725, A725_1, c725_1, A725_2, c725_2, A725_3, c725_3, e725, hx725_0, hx725_1, hx725_2, hx725_3, hl725_1, hi725_1, hl725_2, hi725_2, hl725_3, hi725_3⟩ := Xbz HR0.out x4_1 p725 q725
     obtain rfl : ad724 = ad725 := (by injection e725)
     have HR725_1 := zq hi725_1
     have HC725_1 := zq hl725_1
     clear hi725_1 hl725_1
     have HR725_2 := zq hi725_2
     have HC725_2 := zq hl725_2
     clear hi725_2 hl725_2
     have HR725_3 := zq hi725_3
     have HC725_3 := zq hl725_3
     clear hi725_3 hl725_3
     replace p725 := eq_true p725
     replace q725 := eq_true q725
     have ea_ := Option.some.inj (hx724_1.symm.trans hx725_1)
     injection ea_ with ea_ en_ ec_
     subst ea_
     subst ec_
     clear en_
     have ea_ := Option.some.inj (hx724_2.symm.trans hx725_2)
     injection ea_ with ea_ en_ ec_
     subst ea_
     subst ec_
     clear en_
     have ea_ := Option.some.inj (hx724_3.symm.trans hx725_3)
     injection ea_ with ea_ en_ ec_
     subst ea_
     subst ec_
     clear en_
     have p726 : 0 ≤ (x4_1 : Int) := of_decide_eq_true J3
     have q726 : x4_1 < (l0.length : Int) := of_decide_eq_true J3
     obtain ⟨ad726, A726_1, c726_1, A726_2, c726_2, A726_3, c726_3, e726, hx726_0, hx726_1, hx726_2, hx726_3, hl726_1, hi726_1, hl726_2, hi726_2, hl726_3, hi726_3⟩ := Xbz HR0.out x4_1 p726 q726
     obtain rfl : ad724 = ad726 := (by injection e726)
     have HR726_1 := zq hi726_1
     have HC726_1 := zq hl726_1
     clear hi726_1 hl726_1
     have HR726_2 := zq hi726_2
     have HC726_2 := zq hl726_2
     clear hi726_2 hl726_2
     have HR726_3 := zq hi726_3
     have HC726_3 := zq hl726_3
     clear hi726_3 hl726_3
     replace p726 := eq_true p726
     replace q726 := eq_true q726
     have ea_ := Option.some.inj (hx724_1.symm.trans hx726_1)
     injection ea_ with ea_ en_ ec_
     subst ea_
     subst ec_
     clear en_
     have ea_ := Option.some.inj (hx724_2.symm.trans hx726_2)
     injection ea_ with ea_ en_ ec_
     subst ea_
     subst ec_
     clear en_
     have ea_ := Option.some.inj (hx724_3.symm.trans hx726_3)
     injection ea_ with ea_ en_ ec_
     subst ea_
     subst ec_
     clear en_
     have p727 : 0 ≤ (x4_1 : Int) := of_decide_eq_true J3
     have q727 : x4_1 < (l0.length : Int) := of_decide_eq_true J3
     obtain ⟨ad727, A727_1, c727_1, A727_2, c727_2, A727_3, c727_3, e727, hx727_0, hx727_1, hx727_2, hx727_3, hl727_1, hi727_1, hl727_2, hi727_2, hl727_3, hi727_3⟩ := Xbz HR0.out x4_1 p727 q727
     obtain rfl : ad724 = ad727 := (by injection e727)
     have HR727_1 := zq hi727_1
     have HC727_1 := zq hl727_1
     clear hi727_1 hl727_1
     have HR727_2 := zq hi727_2
     have HC727_2 := zq hl727_2
     clear hi727_2 hl727_2
     have HR727_3 := zq hi727_3
     have HC727_3 := zq hl727_3
     clear hi727_3 hl727_3
     replace p727 := eq_true p727
     replace q727 := eq_true q727
     have ea_ := Option.some.inj (hx724_1.symm.trans hx727_1)
     injection ea_ with ea_ en_ ec_
     subst ea_
     subst ec_
     clear en_
     have ea_ := Option.some.inj (hx724_2.symm.trans hx727_2)
     injection ea_ with ea_ en_ ec_
     subst ea_
     subst ec_
     clear en_
     have ea_ := Option.some.inj (hx724_3.symm.trans hx727_3)
     injection ea_ with ea_ en_ ec_
     subst ea_
     subst ec_
     clear en_
     have p728 : 0 ≤ (x4_1 : Int) := of_decide_eq_true J3
     have q728 : x4_1 < (l0.length : Int) := of_decide_eq_true J3
     obtain ⟨ad728, A728_1, c728_1, A728_2, c728_2, A728_3, c728_3, e728, hx728_0, hx728_1, hx728_2, hx728_3, hl728_1, hi728_1, hl728_2, hi728_2, hl728_3, hi728_3⟩ := Xbz HR0.out x4_1 p728 q728
     obtain rfl : ad724 = ad728 := (by injection e728)
     have HR728_1 := zq hi728_1
     have HC728_1 := zq hl728_1
     clear hi728_1 hl728_1
     have HR728_2 := zq hi728_2
     have HC728_2 := zq hl728_2
     clear hi728_2 hl728_2
     have HR728_3 := zq hi728_3
     have HC728_3 := zq hl728_3
     clear hi728_3 hl728_3
     replace p728 := eq_true p728
     replace q728 := eq_true q728
     have ea_ := Option.some.inj (hx724_1.symm.trans hx728_1)
     injection ea_ with ea_ en_ ec_
     subst ea_
     subst ec_
     clear en_
     have ea_ := Option.some.inj (hx724_2.symm.trans hx728_2)
     injection ea_ with ea_ en_ ec_
     subst ea_
     subst ec_
     clear en_
     have ea_ := Option.some.inj (hx724_3.symm.trans hx728_3)
     injection ea_ with ea_ en_ ec_
     subst ea_
     subst ec_
     clear en_
     go_wp2
     repeat (go_quiet (fail); try go_wp2)
     go_roundg kj1
     case measure => have := HK1.out; have := HJ1.out; omega
     case rel => exact ⟨(wrap64 ((wrap64 (x3_1 + (((Xa l0 x4_1).f2).length : Int))) + (((Xa l0 x4_1).f3).length : Int))), (wrap64 (x4_1 + 1)), J4, J4, H', ⟨by have := HK1.out; have := HJ1.out; omega⟩, J5⟩
def Xb8.f (a0 : ByteArray) (a1 : ByteArray) : Option (ByteArray × Bool) := (Xbb.f a0 a1).bind fun t729 => (if t729 = true then (if 0 ≤ (a1.size : Int) then (if (a1.size : Int) ≤ (a0.size : Int) then (some (a0.extract ((a1.size : Int) : Int).toNat a0.size, true)) else (none)) else (none)) else (some (a0, false)))
set_option maxHeartbeats 8000000 in
set_option maxRecDepth 100000 in
theorem Xb8.calls (a0 : ByteArray) (a1 : ByteArray) (r1 : ByteArray) (r2 : Bool) (w : World) (h : Xb8.f a0 a1 = some (r1, r2)) :
  Calls Tryd.prog 47 #[.string a0, .string a1] w fun e w' => e = .returned (.tuple #[.string r1, .bool r2]) ∧ Drawn0 w w' := by
 unfold Xb8.f at h
 have H := h
 clear h
 refine yv H ?_; clear H; rintro t729 A3 H
 refine yB H ?_ ?_ <;> clear H <;> rintro rfl H
 ·obtain ⟨rfl, rfl⟩ := yp2 H
  go_enter Tryd.func47, Tryd.ntmps47
  go_wp2_with (first | ((with_reducible refine Xg (f := 68) rfl ?_); refine Xt (some 8) rfl rfl Tryd.func68 J8 rfl #[.string a0, .string a1] rfl J1 ?_; (with_reducible refine (Xbb.calls a0 a1 false _ A3.out).mono ?_); rintro e w' ⟨rfl, ⟨nd, rfl⟩⟩; refine ⟨_, rfl, ?_⟩))
  go_ret2
  exact ⟨J4, J5⟩
 refine yi H ?_; clear H; intro c5 H
 have c5b0 := eq_true c5
 have c5b1 := decide_eq_true c5
 clear c5
 refine yi H ?_; clear H; intro c6 H
 have c6b0 := eq_true c6
 have c6b1 := decide_eq_true c6
 clear c6
 obtain ⟨rfl, rfl⟩ := yp2 H
 go_enter Tryd.func47, Tryd.ntmps47
 go_wp2_with (first | ((with_reducible refine Xg (f := 68) rfl ?_); refine Xt (some 8) rfl rfl Tryd.func68 J8 rfl #[.string a0, .string a1] rfl J1 ?_; (with_reducible refine (Xbb.calls a0 a1 true _ A3.out).mono ?_); rintro e w' ⟨rfl, ⟨nd, rfl⟩⟩; refine ⟨_, rfl, ?_⟩))
 go_ret2
 exact ⟨J4, J5⟩
def Xbg.f (a0 : ByteArray) (a1 : ByteArray) : Option (ByteArray × Bool) := (Xb8.f a0 a1).bind fun bt730 => (some (bt730.1, bt730.2))
set_option maxHeartbeats 8000000 in
set_option maxRecDepth 100000 in
theorem Xbg.calls (a0 : ByteArray) (a1 : ByteArray) (r1 : ByteArray) (r2 : Bool) (w : World) (h : Xbg.f a0 a1 = some (r1, r2)) :
  Calls Tryd.prog 24 #[.string a0, .string a1] w fun e w' => e = .returned (.tuple #[.string r1, .bool r2]) ∧ Drawn0 w w' := by
 unfold Xbg.f at h
 have H := h
 clear h
 refine yv H ?_; clear H; rintro ⟨t730, t731⟩ A3 H
 dsimp only at H
 obtain ⟨rfl, rfl⟩ := yp2 H
 go_enter Tryd.func24, Tryd.ntmps24
 go_wp2_with (first | ((with_reducible refine Xg (f := 47) rfl ?_); refine Xt (some 8) rfl rfl Tryd.func47 J8 rfl #[.string a0, .string a1] rfl J1 ?_; (with_reducible refine (Xb8.calls a0 a1 t730 t731 _ A3.out).mono ?_); rintro e w' ⟨rfl, ⟨nd, rfl⟩⟩; refine ⟨_, rfl, ?_⟩))
 go_ret2
 exact ⟨J4, J5⟩
def Xcy.f (a0 : ByteArray) : Option (Bool) := (Xbg.f a0 (⟨#[226, 142, 149]⟩ : ByteArray)).bind fun bt732 => (if bt732.2 = true then (if bt732.1.toList = ([67, 84] : List UInt8) then (some true) else (if bt732.1.toList = ([73, 79] : List UInt8) then (some true) else (if bt732.1.toList = ([76, 88] : List UInt8) then (some true) else (if bt732.1.toList = ([80, 80] : List UInt8) then (some true) else (if bt732.1.toList = ([80, 87] : List UInt8) then (some true) else (if bt732.1.toList = ([82, 76] : List UInt8) then (some true) else (some false))))))) else (some false))
set_option maxHeartbeats 8000000 in
set_option maxRecDepth 100000 in
theorem Xcy.calls (a0 : ByteArray) (r : Bool) (w : World) (h : Xcy.f a0 = some r) :
  Calls Tryd.prog 13 #[.string a0] w fun e w' => e = .returned (.bool r) ∧ Drawn0 w w' := by
 unfold Xcy.f at h
 have H := h
 clear h
 refine yv H ?_; clear H; rintro ⟨t732, t733⟩ A2 H
 dsimp only at H
 refine yB H ?_ ?_ <;> clear H <;> rintro rfl H
 ·obtain rfl := yo H
  go_enter Tryd.func13, Tryd.ntmps13
  go_wp2_with (first | ((with_reducible refine Xg (f := 24) rfl ?_); refine Xt (some 7) rfl rfl Tryd.func24 J8 rfl #[.string a0, .string (⟨#[226, 142, 149]⟩ : ByteArray)] rfl J1 ?_; (with_reducible refine (Xbg.calls a0 (⟨#[226, 142, 149]⟩ : ByteArray) t732 false _ A2.out).mono ?_); rintro e w' ⟨rfl, ⟨nd, rfl⟩⟩; refine ⟨_, rfl, ?_⟩))
  go_ret
  exact ⟨J4, J5⟩
 refine yF H ?_ ?_ <;> clear H <;> rintro ⟨c4b0, c4b1, c4⟩ H
 ·clear c4
  obtain rfl := yo H
  go_enter Tryd.func13, Tryd.ntmps13
  go_wp2_with (first | ((with_reducible refine Xg (f := 24) rfl ?_); refine Xt (some 7) rfl rfl Tryd.func24 J8 rfl #[.string a0, .string (⟨#[226, 142, 149]⟩ : ByteArray)] rfl J1 ?_; (with_reducible refine (Xbg.calls a0 (⟨#[226, 142, 149]⟩ : ByteArray) t732 true _ A2.out).mono ?_); rintro e w' ⟨rfl, ⟨nd, rfl⟩⟩; refine ⟨_, rfl, ?_⟩))
  go_ret
  exact ⟨J4, J5⟩
 refine yF H ?_ ?_ <;> clear H <;> rintro ⟨c5b0, c5b1, c5⟩ H
 ·clear c5
  obtain rfl := yo H
  go_enter Tryd.func13, Tryd.ntmps13
  go_wp2_with (first | ((with_reducible refine Xg (f := 24) rfl ?_); refine Xt (some 7) rfl rfl Tryd.func24 J8 rfl #[.string a0, .string (⟨#[226, 142, 149]⟩ : ByteArray)] rfl J1 ?_; (with_reducible refine (Xbg.calls a0 (⟨#[226, 142, 149]⟩ : ByteArray) t732 true _ A2.out).mono ?_); rintro e w' ⟨rfl, ⟨nd, rfl⟩⟩; refine ⟨_, rfl, ?_⟩))
  go_ret
  exact ⟨J4, J5⟩
 refine yF H ?_ ?_ <;> clear H <;> rintro ⟨c6b0, c6b1, c6⟩ H
 ·clear c6
  obtain rfl := yo H
  go_enter Tryd.func13, Tryd.ntmps13
  go_wp2_with (first | ((with_reducible refine Xg (f := 24) rfl ?_); refine Xt (some 7) rfl rfl Tryd.func24 J8 rfl #[.string a0, .string (⟨#[226, 142, 149]⟩ : ByteArray)] rfl J1 ?_; (with_reducible refine (Xbg.calls a0 (⟨#[226, 142, 149]⟩ : ByteArray) t732 true _ A2.out).mono ?_); rintro e w' ⟨rfl, ⟨nd, rfl⟩⟩; refine ⟨_, rfl, ?_⟩))
  go_ret
  exact ⟨J4, J5⟩
 refine yF H ?_ ?_ <;> clear H <;> rintro ⟨c7b0, c7b1, c7⟩ H
 ·clear c7
  obtain rfl := yo H
  go_enter Tryd.func13, Tryd.ntmps13
  go_wp2_with (first | ((with_reducible refine Xg (f := 24) rfl ?_); refine Xt (some 7) rfl rfl Tryd.func24 J8 rfl #[.string a0, .string (⟨#[226, 142, 149]⟩ : ByteArray)] rfl J1 ?_; (with_reducible refine (Xbg.calls a0 (⟨#[226, 142, 149]⟩ : ByteArray) t732 true _ A2.out).mono ?_); rintro e w' ⟨rfl, ⟨nd, rfl⟩⟩; refine ⟨_, rfl, ?_⟩))
  go_ret
  exact ⟨J4, J5⟩
 refine yF H ?_ ?_ <;> clear H <;> rintro ⟨c8b0, c8b1, c8⟩ H
 ·clear c8
  obtain rfl := yo H
  go_enter Tryd.func13, Tryd.ntmps13
  go_wp2_with (first | ((with_reducible refine Xg (f := 24) rfl ?_); refine Xt (some 7) rfl rfl Tryd.func24 J8 rfl #[.string a0, .string (⟨#[226, 142, 149]⟩ : ByteArray)] rfl J1 ?_; (with_reducible refine (Xbg.calls a0 (⟨#[226, 142, 149]⟩ : ByteArray) t732 true _ A2.out).mono ?_); rintro e w' ⟨rfl, ⟨nd, rfl⟩⟩; refine ⟨_, rfl, ?_⟩))
  go_ret
  exact ⟨J4, J5⟩
 refine yE H ?_ ?_ <;> clear H <;> rintro ⟨c9b0, c9b1, c9⟩ H
 ·obtain rfl := yo H
  go_enter Tryd.func13, Tryd.ntmps13
  go_wp2_with (first | ((with_reducible refine Xg (f := 24) rfl ?_); refine Xt (some 7) rfl rfl Tryd.func24 J8 rfl #[.string a0, .string (⟨#[226, 142, 149]⟩ : ByteArray)] rfl J1 ?_; (with_reducible refine (Xbg.calls a0 (⟨#[226, 142, 149]⟩ : ByteArray) t732 true _ A2.out).mono ?_); rintro e w' ⟨rfl, ⟨nd, rfl⟩⟩; refine ⟨_, rfl, ?_⟩))
  go_ret
  exact ⟨J4, J5⟩
 clear c9
 obtain rfl := yo H
 go_enter Tryd.func13, Tryd.ntmps13
 go_wp2_with (first | ((with_reducible refine Xg (f := 24) rfl ?_); refine Xt (some 7) rfl rfl Tryd.func24 J8 rfl #[.string a0, .string (⟨#[226, 142, 149]⟩ : ByteArray)] rfl J1 ?_; (with_reducible refine (Xbg.calls a0 (⟨#[226, 142, 149]⟩ : ByteArray) t732 true _ A2.out).mono ?_); rintro e w' ⟨rfl, ⟨nd, rfl⟩⟩; refine ⟨_, rfl, ?_⟩))
 go_ret
 exact ⟨J4, J5⟩
end Go.Proofs.YtfjhiiaahbjaiaaDoor.HSystemFirst
