/- Words and walks, shortened by a program: what this claim's functions answer, and that other memory stays. -/
import Derived.Test.YtecdklheppcihaaSTightTellsx0
import Derived.Test.YtecdklheppcihaaSTightTellsx16
import Derived.Test.YtecdklheppcihaaSTightTellsx17
namespace Go.Proofs.Ytecdklheppcihaa.HTightTells
open Go.RowKit Go.Proofs.YtecdklheppcihaaW.PrintWords Go.Proofs.YtecdklheppcihaaW.PrintWords.Kd Go.Proofs.YtecdklheppcihaaW.PrintLast Go.Proofs.YtecdklheppcihaaW.PrintMore Go.Proofs.YtecdklheppcihaaW.PrintMore.Kd
attribute [local go_sem] Xbp Xbn Xbu Xbt Xbg Xbf Xbo Xbm
set_option linter.unusedVariables false
set_option linter.unusedSimpArgs false
mutual
def Xs.j0 : Nat → List (S30) → Int → Bool → Option (Int × Int × Int)
 | 0, _, _, _ => none
 | k + 1, x0, x1, x22 => if x22 = true then (some (0, 0, 0)) else (if 0 < (x0.length : Int) then ((Xh.f k ((Xa x0 0).f0) ((Xa x0 0).f1) ((Xa x0 0).f2) ((Xa x0 0).f3)).bind fun bt607 => (if bt607.2 = true then (if ((Xa x0 0).f0) = 5 then (Xs.l0 k x0 x1 bt607.1 1 bt607.1 0 0) else (some (1, bt607.1, 1))) else (some (0, 0, 0)))) else (none))
def Xs.l0 : Nat → List (S30) → Int → Int → Int → Int → Int → Int → Option (Int × Int × Int)
 | 0, _, _, _, _, _, _, _ => none
 | k + 1, x0, x1, x7, x9, x10, x11, x12 => if x12 < x7 then (if 0 ≤ x9 then (if x9 ≤ (x0.length : Int) then ((Xs.f k (x0.drop (x9 : Int).toNat) (wrap64 (x1 - 1))).bind fun bt614 => (if bt614.1 = 0 then (some (0, 0, 0)) else (if (wrap64 (x10 + bt614.2.1)) > 1048576 then (some (0, 0, 0)) else (Xs.l0 k x0 x1 x7 (wrap64 (x9 + bt614.1)) (wrap64 (x10 + bt614.2.1)) (mx x11 bt614.2.2) (wrap64 (x12 + 1)))))) else (none)) else (none)) else (some (x9, x10, wrap64 (x11 + 1)))
def Xs.f : Nat → List (S30) → Int → Option (Int × Int × Int)
 | 0, _, _ => none
 | k + 1, l0, a1 => if (l0.length : Int) = 0 then (Xs.j0 k l0 a1 true) else (Xs.j0 k l0 a1 (decide (a1 < 1)))
end
set_option maxHeartbeats 8000000 in
set_option maxRecDepth 100000 in
theorem Xs.calls (k : Nat) : ∀ (A0 : Option Addr) (c0 : Nat) (l0 : List (S30)) (a1 : Int) (r1 : Int) (r2 : Int) (r3 : Int) (w : World) (hr0 : Kd.C k30 w A0 l0.length l0) (hc0 : l0.length ≤ c0) (h : Xs.f k l0 a1 = some (r1, r2, r3)),
  Calls Try.prog 68 #[.slice A0 l0.length c0, .int .i64 a1] w fun e w' => e = .returned (.tuple #[.int .i64 r1, .int .i64 r2, .int .i64 r3]) ∧ Below w.heap.size w w' := by
 induction k using Nat.strongRecOn with
 | _ k ih =>
 intro A0 c0 l0 a1 r1 r2 r3 w hr0 hc0 h
 cases k with
 | zero => exact absurd h (by simp [Xs.f])
 | succ k =>
 simp only [Xs.f] at h
 have hu30 := Try.underlying30
 have HR0 := zq hr0
 have HC0 := zq hc0
 clear hr0 hc0
 have HB := zq (Below.refl w.heap.size w)
 have H : (if (l0.length : Int) = 0 then (Xs.j0 k l0 a1 true) else (Xs.j0 k l0 a1 (decide (a1 < 1)))) = some (r1, r2, r3) := h
 clear h
 have HC3 := zq H
 clear H
 go_enter Try.func68, Try.ntmps68
 go_upto_region 1 with (fail)
 go_cut [22] (fun v22 wc => ∃ (kq : Nat) (x22_2 : Bool), v22 = .bool x22_2 ∧ Aside0 (Xs.j0 kq l0 a1 x22_2 = some (r1, r2, r3)) ∧ Aside0 (kq ≤ k) ∧ Aside0 (Below w.heap.size w wc))
 case first =>
  have H := HC3.out
  clear HC3
  refine yE H ?_ ?_ <;> clear H <;> rintro ⟨c4b0, c4b1, c4⟩ H
  ·have c4b2 : ¬ (l0 = []) := fun h_ => c4 (by rw [h_]; rfl)
   (first | rw [c4b0] | (simp only [Xan, Xaq]; rw [c4b0]) | skip)
   have H' := zq H
   clear H
   go_wp2
   go_meet
   case rel => exact ⟨_, (decide (a1 < 1)), J4, H', ⟨J32⟩, ⟨J0⟩⟩
  clear c4
  (first | rw [c4b0] | (simp only [Xan, Xaq]; rw [c4b0]) | skip)
  have H' := zq H
  clear H
  go_wp2
  go_meet
  case rel => exact ⟨_, (true), J4, H', ⟨J32⟩, ⟨J0⟩⟩
 case rest =>
  clear HC3
  obtain ⟨kq, x22_2, rfl, HA, HJ2, HB⟩ := hcut
  cases kq with
  | zero => exact absurd HA.out (by simp [Xs.j0])
  | succ kj2 =>
   have H := HA.out
   clear HA
   simp only [Xs.j0] at H
   refine yC H ?_ ?_ <;> clear H <;> rintro rfl H
   ·obtain ⟨rfl, rfl, rfl⟩ := yp3 H
    go_wp2
    go_ret3
    exact ⟨J1, J0⟩
   refine yi H ?_; clear H; intro c6 H
   have c6b0 := decide_eq_true c6
   have c6b1 : decide (0 < l0.length) = true := decide_eq_true J29
   clear c6
   refine yv H ?_; clear H; rintro ⟨t607, t608⟩ A7 H
   dsimp only at H
   refine yB H ?_ ?_ <;> clear H <;> rintro rfl H
   ·obtain ⟨rfl, rfl, rfl⟩ := yp3 H
    obtain ⟨ad606, A606_1, c606_1, A606_2, c606_2, A606_3, c606_3, e606, hx606_0, hx606_1, hx606_2, hx606_3, HR606_1, HC606_1, HR606_2, HC606_2, HR606_3, HC606_3, p606, q606, qi606⟩ := rdC0 HR0.out HB.out
    cases e606
    go_wp2_with (first | ((with_reducible refine Xi (f := 75) rfl ?_); refine gL 27 Try.func75 #[.agg #[.int .i64 ((Xa l0 0).f0), .slice A606_1 ((Xa l0 0).f1).length c606_1, .slice A606_2 ((Xa l0 0).f2).length c606_2, .slice A606_3 ((Xa l0 0).f3).length c606_3]] (Xh.calls kj2 ((Xa l0 0).f0) _ _ ((Xa l0 0).f1) _ _ ((Xa l0 0).f2) _ _ ((Xa l0 0).f3) t607 false _ (zc (ac HR606_1.out HB.out)) HC606_1.out (zc (ac HR606_2.out HB.out)) HC606_2.out (zc (ac HR606_3.out HB.out)) HC606_3.out A7.out) ?_; rintro e w25 ⟨rfl, hb⟩; refine ⟨_, rfl, ?_⟩; replace HB := zq (Xe J0 hb); (try clear hb)))
    go_ret3
    exact ⟨J1, J0⟩
   refine yE H ?_ ?_ <;> clear H <;> rintro ⟨c9b0, c9b1, c9⟩ H
   ·obtain ⟨rfl, rfl, rfl⟩ := yp3 H
    obtain ⟨ad606, A606_1, c606_1, A606_2, c606_2, A606_3, c606_3, e606, hx606_0, hx606_1, hx606_2, hx606_3, HR606_1, HC606_1, HR606_2, HC606_2, HR606_3, HC606_3, p606, q606, qi606⟩ := rdC0 HR0.out HB.out
    cases e606
    go_wp2_with (first | ((with_reducible refine Xi (f := 75) rfl ?_); refine gL 27 Try.func75 #[.agg #[.int .i64 ((Xa l0 0).f0), .slice A606_1 ((Xa l0 0).f1).length c606_1, .slice A606_2 ((Xa l0 0).f2).length c606_2, .slice A606_3 ((Xa l0 0).f3).length c606_3]] (Xh.calls kj2 ((Xa l0 0).f0) _ _ ((Xa l0 0).f1) _ _ ((Xa l0 0).f2) _ _ ((Xa l0 0).f3) t607 true _ (zc (ac HR606_1.out HB.out)) HC606_1.out (zc (ac HR606_2.out HB.out)) HC606_2.out (zc (ac HR606_3.out HB.out)) HC606_3.out A7.out) ?_; rintro e w24 ⟨rfl, hb⟩; refine ⟨_, rfl, ?_⟩; replace HB := zq (Xe J0 hb); (try clear hb); have p609 : 0 ≤ (0 : Int) := J29; have q609 : 0 < (l0.length : Int) := of_decide_eq_true J2; obtain ⟨ad609, A609_1, c609_1, A609_2, c609_2, A609_3, c609_3, e609, hx609_0, hx609_1, hx609_2, hx609_3, hl609_1, hi609_1, hl609_2, hi609_2, hl609_3, hi609_3⟩ := Xb4 HR0.out 0 p609 q609; obtain rfl : ad606 = ad609 := (by injection e609); have qi609 : (0 < l0.length) = True := eq_true J29; (try rw [show ((0 : Int)).toNat = 0 from rfl] at hx609_0); (try rw [show 0 * 4 = 0 from rfl] at hx609_0); (try rw [Addr.add_zero'] at hx609_0); (try rw [show ((0 : Int)).toNat = 0 from rfl] at hx609_1); (try rw [show 0 * 4 = 0 from rfl] at hx609_1); (try rw [Addr.add_zero'] at hx609_1); (try rw [show ((0 : Int)).toNat = 0 from rfl] at hx609_2); (try rw [show 0 * 4 = 0 from rfl] at hx609_2); (try rw [Addr.add_zero'] at hx609_2); (try rw [show ((0 : Int)).toNat = 0 from rfl] at hx609_3); (try rw [show 0 * 4 = 0 from rfl] at hx609_3); (try rw [Addr.add_zero'] at hx609_3); replace hx609_0 := yh HB hx609_0; replace hx609_1 := yh HB hx609_1; replace hx609_2 := yh HB hx609_2; replace hx609_3 := yh HB hx609_3; have HR609_1 := zq hi609_1; have HC609_1 := zq hl609_1; clear hi609_1 hl609_1; have HR609_2 := zq hi609_2; have HC609_2 := zq hl609_2; clear hi609_2 hl609_2; have HR609_3 := zq hi609_3; have HC609_3 := zq hl609_3; clear hi609_3 hl609_3; replace p609 := eq_true p609; replace q609 := eq_true q609))
    go_ret3
    exact ⟨J1, J0⟩
   clear c9
   have H' := zq H
   clear H
   obtain ⟨ad606, A606_1, c606_1, A606_2, c606_2, A606_3, c606_3, e606, hx606_0, hx606_1, hx606_2, hx606_3, HR606_1, HC606_1, HR606_2, HC606_2, HR606_3, HC606_3, p606, q606, qi606⟩ := rdC0 HR0.out HB.out
   cases e606
   go_wp2_with (first | ((with_reducible refine Xi (f := 75) rfl ?_); refine gL 27 Try.func75 #[.agg #[.int .i64 ((Xa l0 0).f0), .slice A606_1 ((Xa l0 0).f1).length c606_1, .slice A606_2 ((Xa l0 0).f2).length c606_2, .slice A606_3 ((Xa l0 0).f3).length c606_3]] (Xh.calls kj2 ((Xa l0 0).f0) _ _ ((Xa l0 0).f1) _ _ ((Xa l0 0).f2) _ _ ((Xa l0 0).f3) t607 true _ (zc (ac HR606_1.out HB.out)) HC606_1.out (zc (ac HR606_2.out HB.out)) HC606_2.out (zc (ac HR606_3.out HB.out)) HC606_3.out A7.out) ?_; rintro e w10 ⟨rfl, hb⟩; refine ⟨_, rfl, ?_⟩; replace HB := zq (Xe J0 hb); (try clear hb); have p609 : 0 ≤ (0 : Int) := J29; have q609 : 0 < (l0.length : Int) := of_decide_eq_true J2; obtain ⟨ad609, A609_1, c609_1, A609_2, c609_2, A609_3, c609_3, e609, hx609_0, hx609_1, hx609_2, hx609_3, hl609_1, hi609_1, hl609_2, hi609_2, hl609_3, hi609_3⟩ := Xb4 HR0.out 0 p609 q609; obtain rfl : ad606 = ad609 := (by injection e609); have qi609 : (0 < l0.length) = True := eq_true J29; (try rw [show ((0 : Int)).toNat = 0 from rfl] at hx609_0); (try rw [show 0 * 4 = 0 from rfl] at hx609_0); (try rw [Addr.add_zero'] at hx609_0); (try rw [show ((0 : Int)).toNat = 0 from rfl] at hx609_1); (try rw [show 0 * 4 = 0 from rfl] at hx609_1); (try rw [Addr.add_zero'] at hx609_1); (try rw [show ((0 : Int)).toNat = 0 from rfl] at hx609_2); (try rw [show 0 * 4 = 0 from rfl] at hx609_2); (try rw [Addr.add_zero'] at hx609_2); (try rw [show ((0 : Int)).toNat = 0 from rfl] at hx609_3); (try rw [show 0 * 4 = 0 from rfl] at hx609_3); (try rw [Addr.add_zero'] at hx609_3); replace hx609_0 := yh HB hx609_0; replace hx609_1 := yh HB hx609_1; replace hx609_2 := yh HB hx609_2; replace hx609_3 := yh HB hx609_3; have HR609_1 := zq hi609_1; have HC609_1 := zq hl609_1; clear hi609_1 hl609_1; have HR609_2 := zq hi609_2; have HC609_2 := zq hl609_2; clear hi609_2 hl609_2; have HR609_3 := zq hi609_3; have HC609_3 := zq hl609_3; clear hi609_3 hl609_3; replace p609 := eq_true p609; replace q609 := eq_true q609))
   go_loopg [9, 10, 11, 12] kj2 (fun kq v9 v10 v11 v12 w' => ∃ (x9_2 : Int) (x10_2 : Int) (x11_2 : Int) (x12_2 : Int), v9 = .int .i64 x9_2 ∧ v10 = .int .i64 x10_2 ∧ v11 = .int .i64 x11_2 ∧ v12 = .int .i64 x12_2 ∧ Aside0 (Xs.l0 kq l0 a1 t607 x9_2 x10_2 x11_2 x12_2 = some (r1, r2, r3)) ∧ Aside0 (kq ≤ kj2) ∧ Aside0 (Below w.heap.size w w'))
   case atStart => exact ⟨(1), (t607), (0), (0), J4, J4, J4, J4, H', ⟨Nat.le_refl _⟩, ⟨J0⟩⟩
   case round =>
    clear H'
    try clear c6
    try clear c6b0
    try clear c6b1
    try clear c9
    try clear c9b0
    try clear c9b1
    try clear hx606_0
    try clear hx606_1
    try clear hx606_2
    try clear hx606_3
    try clear hx609_0
    try clear hx609_1
    try clear hx609_2
    try clear hx609_3
    try clear p606
    try clear p609
    try clear q606
    try clear q609
    obtain ⟨x9_2, x10_2, x11_2, x12_2, rfl, rfl, rfl, rfl, HA, HK2, HB⟩ := hrel
    cases gk with
    | zero => exact absurd HA.out (by simp [Xs.l0])
    | succ k2 =>
     have H := HA.out
     clear HA
     simp only [Xs.l0] at H
     refine yd H ?_ ?_ <;> clear H <;> rintro c11b0 H
     ·obtain ⟨rfl, rfl, rfl⟩ := yp3 H
      go_wp2
      go_ret3
      exact ⟨J1, J0⟩
     refine yi H ?_; clear H; intro c12 H
     have c12b0 := eq_true c12
     have c12b1 := decide_eq_true c12
     clear c12
     refine yi H ?_; clear H; intro c13 H
     have c13b0 := eq_true c13
     have c13b1 := decide_eq_true c13
     clear c13
     obtain ⟨y610, hy610⟩ : ∃ y_ : List (S30), y_ = (l0.drop (x9_2 : Int).toNat) := ⟨_, rfl⟩
     replace H : ((Xs.f k2 y610 (wrap64 (a1 - 1))).bind fun bt614 => (if bt614.1 = 0 then (some (0, 0, 0)) else (if (wrap64 (x10_2 + bt614.2.1)) > 1048576 then (some (0, 0, 0)) else (Xs.l0 k2 l0 a1 t607 (wrap64 (x9_2 + bt614.1)) (wrap64 (x10_2 + bt614.2.1)) (mx x11_2 bt614.2.2) (wrap64 (x12_2 + 1)))))) = some (r1, r2, r3) := by first | (rw [hy610]; with_reducible exact H) | (have H2_ := (Option.bind_some _ _).symm.trans H; rw [hy610]; with_reducible exact H2_) | (have H2_ := (Option.bind_some _ _).symm.trans H; with_reducible exact H2_) | with_reducible exact H | (rw [hy610]; exact H) | exact H
     have Ny610 := zq hy610
     clear hy610
     refine yv H ?_; clear H; rintro ⟨t614, t615, t616⟩ A14 H
     dsimp only at H
     refine yF H ?_ ?_ <;> clear H <;> rintro ⟨c15b0, c15b1, c15⟩ H
     ·clear c15
      obtain ⟨rfl, rfl, rfl⟩ := yp3 H
      have q16 : (x9_2 : Int) ≤ ((l0.length : Int) : Int) := of_decide_eq_true J2
      obtain ⟨i016, hi016, _, hsz16, _⟩ := info_parts Xck
      have hroom16 : l0.length ≤ c0 := HC0.out
      have hC16 : Kd.C k30 _ (some ad606) l0.length l0 := HR0.out
      have q016 : (0 : Int) ≤ (x9_2 : Int) := of_decide_eq_true J2
      have hcut16 := Xdi (P := Try.prog) 22 30 .i64 Try.underlying22 hi016 4 hsz16 (some ad606) l0.length c0 x9_2 q016 q16
      have hr16 := bK (m := (x9_2 : Int).toNat) (c := c0) hC16 J29 hroom16
      obtain ⟨A16, hA16⟩ : ∃ A_, A_ = (if c0 = (x9_2 : Int).toNat then (some ad606) else ((some ad606) : Option Addr).map (·.add ((x9_2 : Int).toNat * 4))) := ⟨_, rfl⟩
      obtain ⟨c16, hc16⟩ : ∃ c_, c_ = c0 - (x9_2 : Int).toNat := ⟨_, rfl⟩
      have hy16 : y610.length = l0.length - (x9_2 : Int).toNat := (by rw [Ny610.out, List.length_drop] <;> omega)
      rw [show (l0).drop (x9_2 : Int).toNat = y610 from Ny610.out.symm] at hr16
      replace hr16 : Kd.C k30 _ A16 y610.length y610 := (by rw [hA16]; exact hr16)
      rw [← hy16, ← hA16, ← hc16] at hcut16
      have HR613 := zq hr16
      have HC613 := zq (show y610.length ≤ c16 from by rw [hy16, hc16]; exact Nat.sub_le_sub_right hroom16 _)
      clear hr16 hC16 hroom16 hi016 hsz16 hc16
      have KY16 := zq hy16
      have KA16 := zq hA16
      clear hy16 hA16
      replace q16 := eq_true q16
      go_wp2_with (first | ((with_reducible refine Xi (f := 68) rfl ?_); refine gL 50 Try.func68 #[.slice A16 y610.length c16, .int .i64 (wrap64 (a1 - 1))] (ih k2 (by have := HJ2.out; have := HK2.out; omega) _ _ y610 (wrap64 (a1 - 1)) t614 t615 t616 _ (zc (ac HR613.out HB.out)) HC613.out A14.out) ?_; rintro e w17 ⟨rfl, hb⟩; refine ⟨_, rfl, ?_⟩; replace HB := zq (Xe J0 hb); (try clear hb)))
      go_ret3
      exact ⟨J1, J0⟩
     refine yD H ?_ ?_ <;> clear H <;> rintro c18b0 H
     ·obtain ⟨rfl, rfl, rfl⟩ := yp3 H
      have q19 : (x9_2 : Int) ≤ ((l0.length : Int) : Int) := of_decide_eq_true J2
      obtain ⟨i019, hi019, _, hsz19, _⟩ := info_parts Xck
      have hroom19 : l0.length ≤ c0 := HC0.out
      have hC19 : Kd.C k30 _ (some ad606) l0.length l0 := HR0.out
      have q019 : (0 : Int) ≤ (x9_2 : Int) := of_decide_eq_true J2
      have hcut19 := Xdi (P := Try.prog) 22 30 .i64 Try.underlying22 hi019 4 hsz19 (some ad606) l0.length c0 x9_2 q019 q19
      have hr19 := bK (m := (x9_2 : Int).toNat) (c := c0) hC19 J29 hroom19
      obtain ⟨A19, hA19⟩ : ∃ A_, A_ = (if c0 = (x9_2 : Int).toNat then (some ad606) else ((some ad606) : Option Addr).map (·.add ((x9_2 : Int).toNat * 4))) := ⟨_, rfl⟩
      obtain ⟨c19, hc19⟩ : ∃ c_, c_ = c0 - (x9_2 : Int).toNat := ⟨_, rfl⟩
      have hy19 : y610.length = l0.length - (x9_2 : Int).toNat := (by rw [Ny610.out, List.length_drop] <;> omega)
      rw [show (l0).drop (x9_2 : Int).toNat = y610 from Ny610.out.symm] at hr19
      replace hr19 : Kd.C k30 _ A19 y610.length y610 := (by rw [hA19]; exact hr19)
      rw [← hy19, ← hA19, ← hc19] at hcut19
      have HR613 := zq hr19
      have HC613 := zq (show y610.length ≤ c19 from by rw [hy19, hc19]; exact Nat.sub_le_sub_right hroom19 _)
      clear hr19 hC19 hroom19 hi019 hsz19 hc19
      have KY19 := zq hy19
      have KA19 := zq hA19
      clear hy19 hA19
      replace q19 := eq_true q19
      go_wp2_with (first | ((with_reducible refine Xi (f := 68) rfl ?_); refine gL 50 Try.func68 #[.slice A19 y610.length c19, .int .i64 (wrap64 (a1 - 1))] (ih k2 (by have := HJ2.out; have := HK2.out; omega) _ _ y610 (wrap64 (a1 - 1)) t614 t615 t616 _ (zc (ac HR613.out HB.out)) HC613.out A14.out) ?_; rintro e w20 ⟨rfl, hb⟩; refine ⟨_, rfl, ?_⟩; replace HB := zq (Xe J0 hb); (try clear hb)))
      go_ret3
      exact ⟨J1, J0⟩
     obtain ⟨ji21, hji21⟩ : ∃ j_ : Int, (mx x11_2 t616) = j_ := ⟨_, rfl⟩
     replace H : (Xs.l0 k2 l0 a1 t607 (wrap64 (x9_2 + t614)) (wrap64 (x10_2 + t615)) ji21 (wrap64 (x12_2 + 1))) = some (r1, r2, r3) := by first | (rw [hji21] at H; exact H) | (simp only [hji21] at H ⊢; exact H)
     (try rw [hji21] at A14)
     have hji21_ : (if x11_2 < t616 then t616 else x11_2) = ji21 := hji21
     have H' := zq H
     clear H
     have q22 : (x9_2 : Int) ≤ ((l0.length : Int) : Int) := of_decide_eq_true J2
     obtain ⟨i022, hi022, _, hsz22, _⟩ := info_parts Xck
     have hroom22 : l0.length ≤ c0 := HC0.out
     have hC22 : Kd.C k30 _ (some ad606) l0.length l0 := HR0.out
     have q022 : (0 : Int) ≤ (x9_2 : Int) := of_decide_eq_true J2
     have hcut22 := Xdi (P := Try.prog) 22 30 .i64 Try.underlying22 hi022 4 hsz22 (some ad606) l0.length c0 x9_2 q022 q22
     have hr22 := bK (m := (x9_2 : Int).toNat) (c := c0) hC22 J29 hroom22
     obtain ⟨A22, hA22⟩ : ∃ A_, A_ = (if c0 = (x9_2 : Int).toNat then (some ad606) else ((some ad606) : Option Addr).map (·.add ((x9_2 : Int).toNat * 4))) := ⟨_, rfl⟩
     obtain ⟨c22, hc22⟩ : ∃ c_, c_ = c0 - (x9_2 : Int).toNat := ⟨_, rfl⟩
     have hy22 : y610.length = l0.length - (x9_2 : Int).toNat := (by rw [Ny610.out, List.length_drop] <;> omega)
     rw [show (l0).drop (x9_2 : Int).toNat = y610 from Ny610.out.symm] at hr22
     replace hr22 : Kd.C k30 _ A22 y610.length y610 := (by rw [hA22]; exact hr22)
     rw [← hy22, ← hA22, ← hc22] at hcut22
     have HR613 := zq hr22
     have HC613 := zq (show y610.length ≤ c22 from by rw [hy22, hc22]; exact Nat.sub_le_sub_right hroom22 _)
     clear hr22 hC22 hroom22 hi022 hsz22 hc22
     have KY22 := zq hy22
     have KA22 := zq hA22
     clear hy22 hA22
     replace q22 := eq_true q22
     go_wp2_with (first | ((with_reducible refine Xi (f := 68) rfl ?_); refine gL 50 Try.func68 #[.slice A22 y610.length c22, .int .i64 (wrap64 (a1 - 1))] (ih k2 (by have := HJ2.out; have := HK2.out; omega) _ _ y610 (wrap64 (a1 - 1)) t614 t615 t616 _ (zc (ac HR613.out HB.out)) HC613.out A14.out) ?_; rintro e w23 ⟨rfl, hb⟩; refine ⟨_, rfl, ?_⟩; replace HB := zq (Xe J0 hb); (try clear hb)))
     go_roundg k2
     case measure => have := HJ2.out; have := HK2.out; omega
     case rel => exact ⟨(wrap64 (x9_2 + t614)), (wrap64 (x10_2 + t615)), (ji21), (wrap64 (x12_2 + 1)), J4, J4, (by first | rfl | (simp; done) | (simp only [← hji21] <;> (first | rfl | simp)) | (simp [*]; done)), J4, H', ⟨by have := HJ2.out; have := HK2.out; omega⟩, ⟨J0⟩⟩
def Xbx.f (k : Nat) (l0 : List (S30)) : Option (Int) := (Xs.f k l0 16).bind fun bt617 => (some bt617.1)
set_option maxHeartbeats 8000000 in
set_option maxRecDepth 100000 in
theorem Xbx.calls (k : Nat) (A0 : Option Addr) (c0 : Nat) (l0 : List (S30)) (r : Int) (w : World) (hr0 : Kd.C k30 w A0 l0.length l0) (hc0 : l0.length ≤ c0) (h : Xbx.f k l0 = some r) :
  Calls Try.prog 52 #[.slice A0 l0.length c0] w fun e w' => e = .returned (.int .i64 r) ∧ Below w.heap.size w w' := by
 have HR0 := zq hr0
 have HC0 := zq hc0
 clear hr0 hc0
 have HB := zq (Below.refl w.heap.size w)
 unfold Xbx.f at h
 have H := h
 clear h
 replace H := Option.bind_eq_some_iff.mp H
 obtain ⟨⟨t617, t618, t619⟩, A20, H⟩ := H
 replace H : (some t617) = some r := H
 have A2 := zq A20
 clear A20
 obtain rfl := yo H
 go_enter Try.func52, Try.ntmps52
 go_wp2_with (first | ((with_reducible refine Xi (f := 68) rfl ?_); refine gL 8 Try.func68 #[.slice A0 l0.length c0, .int .i64 16] (Xs.calls k _ _ l0 16 t617 t618 t619 _ (zc HR0.out) HC0.out A2.out) ?_; rintro e w3 ⟨rfl, hb⟩; refine ⟨_, rfl, ?_⟩; replace HB := zq (Xe J0 hb); (try clear hb)))
 go_ret
 exact ⟨J1, J0⟩
def Xa7.f (k : Nat) (l0 : List (S30)) : Option (Bool) := if (l0.length : Int) > 0 then ((Xbx.f k l0).bind fun t620 => (some (t620 == (l0.length : Int)))) else (some false)
set_option maxHeartbeats 8000000 in
set_option maxRecDepth 100000 in
theorem Xa7.calls (k : Nat) (A0 : Option Addr) (c0 : Nat) (l0 : List (S30)) (r : Bool) (w : World) (hr0 : Kd.C k30 w A0 l0.length l0) (hc0 : l0.length ≤ c0) (h : Xa7.f k l0 = some r) :
  Calls Try.prog 28 #[.slice A0 l0.length c0] w fun e w' => e = .returned (.bool r) ∧ Below w.heap.size w w' := by
 have HR0 := zq hr0
 have HC0 := zq hc0
 clear hr0 hc0
 have HB := zq (Below.refl w.heap.size w)
 unfold Xa7.f at h
 have H := h
 clear h
 refine yt H ?_ ?_ <;> clear H <;> rintro c2 H
 ·have c2b0 : decide (0 < (l0.length : Int)) = false := decide_eq_false c2
  have c2b1 : decide (0 < l0.length) = false := decide_eq_false J29
  clear c2
  obtain rfl := yo H
  go_enter Try.func28, Try.ntmps28
  go_wp2
  go_ret
  exact ⟨J1, J0⟩
 have c2b0 := decide_eq_true c2
 have c2b1 : decide (0 < l0.length) = true := decide_eq_true J29
 clear c2
 refine yv H ?_; clear H; rintro t620 A3 H
 obtain rfl := yo H
 go_enter Try.func28, Try.ntmps28
 go_wp2_with (first | (go_at_call 52; (with_reducible refine (Xbx.calls k _ _ l0 t620 _ ?side1 ?side2 A3.out).mono ?_); (case side1 => exact zc HR0.out); (case side2 => exact HC0.out); rintro e w4 ⟨rfl, hb⟩; replace HB := zq (Xe J0 hb); (try clear hb)))
 go_ret
 exact ⟨J1, J0⟩
mutual
def Xu.j0 : Nat → Bool → Int → Int → Option (Int × Bool)
 | 0, _, _, _ => none
 | k + 1, x18, x622000, x622001 => if x18 = true then (some (0, false)) else (Xu.l0 k x622000 0 x622000 x622001)
def Xu.l0 : Nat → Int → Int → Int → Int → Option (Int × Bool)
 | 0, _, _, _, _ => none
 | k + 1, x4, x5, x622000, x622001 => if x5 < x622001 then (if x4 > 922337203685477580 then (some (0, false)) else (if x4 < (-922337203685477580) then (some (0, false)) else (Xu.l0 k (wrap64 (10 * x4)) (wrap64 (x5 + 1)) x622000 x622001))) else (some (x4, true))
end
def Xu.f (k : Nat) (a0_0 : Int) (a0_1 : Int) : Option (Int × Bool) := (Xar.f k a0_0 a0_1).bind fun t622 => (if t622 = true then (if a0_1 < 0 then (Xu.j0 k true a0_0 a0_1) else (Xu.j0 k (decide (a0_1 > 18)) a0_0 a0_1)) else (Xu.j0 k true a0_0 a0_1))
set_option maxHeartbeats 8000000 in
set_option maxRecDepth 100000 in
theorem Xu.calls (k : Nat) (a0_0 : Int) (a0_1 : Int) (r1 : Int) (r2 : Bool) (w : World) (h : Xu.f k a0_0 a0_1 = some (r1, r2)) :
  Calls Try.prog 41 #[.agg #[.int .i64 a0_0, .int .i64 a0_1]] w fun e w' => e = .returned (.tuple #[.int .i64 r1, .bool r2]) ∧ Below w.heap.size w w' := by
 have hu38 := Try.underlying38
 have HB := zq (Below.refl w.heap.size w)
 unfold Xu.f at h
 have H := h
 clear h
 have HC2 := zq H
 clear H
 go_enter Try.func41, Try.ntmps41
 go_upto_region 1 with (first | ((with_reducible refine Xj (N := 1) rfl ?_); refine bxw 1 38 #[.int .i64 a0_0, .int .i64 a0_1] ?_; intro gb621 hg w3 hbox hb; have BK621 := zq (hbox); have GE621 := zq ((J22 : w.heap.size ≤ gb621)); replace HB := zq (Xe J0 hb); clear hb hbox hg))
 (try simp only [Act.put, List.setIfInBounds_toArray, List.set_cons_zero, List.set_cons_succ])
 go_cut [18] (fun v18 wc => ∃ (kq : Nat) (x18_1 : Bool), v18 = .bool x18_1 ∧ Aside0 (Xu.j0 kq x18_1 a0_0 a0_1 = some (r1, r2)) ∧ Aside0 (kq ≤ k) ∧ Aside0 (wc.heap[gb621]? = some (.cells #[.int .i64 a0_0, .int .i64 a0_1] 38 (0, 0))) ∧ Aside0 (Below w.heap.size w wc))
 case first =>
  have H := HC2.out
  clear HC2
  refine yv H ?_; clear H; rintro t622 A4 H
  refine yB H ?_ ?_ <;> clear H <;> rintro rfl H
  ·have H' := zq H
   clear H
   have Z13 := cz2 BK621.out
   go_wp2_with (first | ((with_reducible refine Xi (f := 40) rfl ?_); refine gL 7 Try.func40 #[.agg #[.int .i64 a0_0, .int .i64 a0_1]] (Xar.calls k a0_0 a0_1 false _ A4.out) ?_; rintro e w14 ⟨rfl, hb⟩; refine ⟨_, rfl, ?_⟩; replace BK621 := zq (Xg (zk BK621.out) hb); replace HB := zq (Xe (zs1 GE621.out) hb); (try clear hb)))
   go_meet
   case rel => exact ⟨_, (true), J4, H', ⟨J32⟩, ⟨J77⟩, ⟨J26⟩⟩
  refine yd H ?_ ?_ <;> clear H <;> rintro c6b0 H
  ·(first | rw [c6b0] | (simp only [Xan, Xaq]; rw [c6b0]) | skip)
   have H' := zq H
   clear H
   have Z10 := cz2 BK621.out
   go_wp2_with (first | ((with_reducible refine Xi (f := 40) rfl ?_); refine gL 7 Try.func40 #[.agg #[.int .i64 a0_0, .int .i64 a0_1]] (Xar.calls k a0_0 a0_1 true _ A4.out) ?_; rintro e w11 ⟨rfl, hb⟩; refine ⟨_, rfl, ?_⟩; replace BK621 := zq (Xg (zk BK621.out) hb); replace HB := zq (Xe (zs1 GE621.out) hb); (try clear hb); have Z12 := cz2 BK621.out))
   go_meet
   case rel => exact ⟨_, (decide (a0_1 > 18)), J4, H', ⟨J32⟩, ⟨J77⟩, ⟨J26⟩⟩
  (first | rw [c6b0] | (simp only [Xan, Xaq]; rw [c6b0]) | skip)
  have H' := zq H
  clear H
  have Z7 := cz2 BK621.out
  go_wp2_with (first | ((with_reducible refine Xi (f := 40) rfl ?_); refine gL 7 Try.func40 #[.agg #[.int .i64 a0_0, .int .i64 a0_1]] (Xar.calls k a0_0 a0_1 true _ A4.out) ?_; rintro e w8 ⟨rfl, hb⟩; refine ⟨_, rfl, ?_⟩; replace BK621 := zq (Xg (zk BK621.out) hb); replace HB := zq (Xe (zs1 GE621.out) hb); (try clear hb); have Z9 := cz2 BK621.out))
  go_meet
  case rel => exact ⟨_, (true), J4, H', ⟨J32⟩, ⟨J77⟩, ⟨J26⟩⟩
 case rest =>
  clear HC2
  obtain ⟨kq, x18_1, rfl, HA, HJ1, BK621, HB⟩ := hcut
  cases kq with
  | zero => exact absurd HA.out (by simp [Xu.j0])
  | succ kj1 =>
   have H := HA.out
   clear HA
   simp only [Xu.j0] at H
   refine yC H ?_ ?_ <;> clear H <;> rintro rfl H
   ·obtain ⟨rfl, rfl⟩ := yp2 H
    go_wp2
    go_ret2
    exact ⟨J1, J26⟩
   have H' := zq H
   clear H
   have Z16 := cz2 BK621.out
   go_wp2
   go_loopg [4, 5] kj1 (fun kq v4 v5 w' => ∃ (x4_2 : Int) (x5_2 : Int), v4 = .int .i64 x4_2 ∧ v5 = .int .i64 x5_2 ∧ Aside0 (Xu.l0 kq x4_2 x5_2 a0_0 a0_1 = some (r1, r2)) ∧ Aside0 (kq ≤ kj1) ∧ Aside0 (w'.heap[gb621]? = some (.cells #[.int .i64 a0_0, .int .i64 a0_1] 38 (0, 0))) ∧ Aside0 (Below w.heap.size w w'))
   case atStart => exact ⟨(a0_0), (0), J4, J4, H', ⟨Nat.le_refl _⟩, ⟨J77⟩, ⟨J26⟩⟩
   case round =>
    clear H'
    try clear Z16
    obtain ⟨x4_2, x5_2, rfl, rfl, HA, HK2, BK621, HB⟩ := hrel
    cases gk with
    | zero => exact absurd HA.out (by simp [Xu.l0])
    | succ k2 =>
     have H := HA.out
     clear HA
     simp only [Xu.l0] at H
     refine yd H ?_ ?_ <;> clear H <;> rintro c17b0 H
     ·obtain ⟨rfl, rfl⟩ := yp2 H
      have Z23 := cz2 BK621.out
      go_wp2
      go_ret2
      exact ⟨J1, J26⟩
     refine yD H ?_ ?_ <;> clear H <;> rintro c18b0 H
     ·obtain ⟨rfl, rfl⟩ := yp2 H
      have Z19 := cz2 BK621.out
      go_wp2
      go_ret2
      exact ⟨J1, J26⟩
     refine yD H ?_ ?_ <;> clear H <;> rintro c20b0 H
     ·obtain ⟨rfl, rfl⟩ := yp2 H
      have Z21 := cz2 BK621.out
      go_wp2
      go_ret2
      exact ⟨J1, J26⟩
     have H' := zq H
     clear H
     have Z22 := cz2 BK621.out
     go_wp2
     go_roundg k2
     case measure => have := HJ1.out; have := HK2.out; omega
     case rel => exact ⟨(wrap64 (10 * x4_2)), (wrap64 (x5_2 + 1)), J4, J4, H', ⟨J144⟩, ⟨J77⟩, ⟨J26⟩⟩
end Go.Proofs.Ytecdklheppcihaa.HTightTells
