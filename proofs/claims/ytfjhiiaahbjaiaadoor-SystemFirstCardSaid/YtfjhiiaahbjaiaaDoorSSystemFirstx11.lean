/- What the Go functions of this claim answer, told as functions of numbers and lists, and that other memory stays as it was: words and walks, shortened by a program. -/
import Derived.Test.YtfjhiiaahbjaiaaDoorSSystemFirstx0
import Derived.Test.YtfjhiiaahbjaiaaDoorSSystemFirstx10
namespace Go.Proofs.YtfjhiiaahbjaiaaDoor.HSystemFirst
open Go.RowKit Go.Proofs.YtfjhiiaahbjaiaaDoorW.PrintWords Go.Proofs.YtfjhiiaahbjaiaaDoorW.PrintLast Go.Proofs.YtfjhiiaahbjaiaaDoorW.PrintMore
attribute [local go_sem] Xby Xbw Xcb Xca Xbp Xbo Xbx Xbv
set_option linter.unusedVariables false
set_option linter.unusedSimpArgs false
mutual
def Xo.l0 : Nat → Int → Int → List Int → List (S32) → Int → Int → Option (Int × Int × Int)
 | 0, _, _, _, _, _, _ => none
 | k + 1, x3, x4, x5, x9, x10, x11 => if x11 < x10 then (if 0 ≤ x11 then (if x11 < (x9.length : Int) then ((Xu.f k ((Xa x9 x11).f0) ((Xa x9 x11).f1) ((Xa x9 x11).f2) ((Xa x9 x11).f3)).bind fun t243 => (if t243 < 0 then (Xo.j1 k (wrap64 (x3 + t243)) x4 x5 x11 t243 x9 x10 x11 true ((Xa x9 x11).f0) ((Xa x9 x11).f1) ((Xa x9 x11).f2) ((Xa x9 x11).f3)) else (if (wrap64 (x3 + t243)) > 1048576 then (Xo.j1 k (wrap64 (x3 + t243)) x4 x5 x11 t243 x9 x10 x11 true ((Xa x9 x11).f0) ((Xa x9 x11).f1) ((Xa x9 x11).f2) ((Xa x9 x11).f3)) else (Xo.j1 k (wrap64 (x3 + t243)) x4 x5 x11 t243 x9 x10 x11 (decide ((x5.length : Int) ≥ 16)) ((Xa x9 x11).f0) ((Xa x9 x11).f1) ((Xa x9 x11).f2) ((Xa x9 x11).f3))))) else (none)) else (none)) else (some (0, 0, 0))
def Xo.j1 : Nat → Int → Int → List Int → Int → Int → List (S32) → Int → Int → Bool → Int → List Int → List Int → List (S40) → Option (Int × Int × Int)
 | 0, _, _, _, _, _, _, _, _, _, _, _, _, _ => none
 | k + 1, x3, x4, x5, x6, x8, x9, x10, x11, x31, x243000, x243001, x243002, x243003 => if x31 = true then (some (0, 0, 0)) else (if x243000 = 5 then (if x5.length < 17592186044416 then (Xo.j2 k x3 (mx x4 (wrap64 ((x5.length : Int) + 1))) (x5 ++ [x8]) x6 x9 x10 x11) else (none)) else (if (x5.length : Int) > 0 then (if 0 ≤ (wrap64 ((x5.length : Int) - 1)) then (if (wrap64 ((x5.length : Int) - 1)) < (x5.length : Int) then (Xo.j2 k x3 (mx x4 (wrap64 ((x5.length : Int) + 1))) (x5.set ((wrap64 ((x5.length : Int) - 1)) : Int).toNat (wrap64 ((rd x5 (wrap64 ((x5.length : Int) - 1))) - 1))) x6 x9 x10 x11) else (none)) else (none)) else (Xo.j2 k x3 (mx x4 (wrap64 ((x5.length : Int) + 1))) x5 x6 x9 x10 x11)))
def Xo.j2 : Nat → Int → Int → List Int → Int → List (S32) → Int → Int → Option (Int × Int × Int)
 | 0, _, _, _, _, _, _, _ => none
 | k + 1, x3, x4, x5, x6, x9, x10, x11 => Xo.l1 k x3 x4 x5 x6 x9 x10 x11
def Xo.l1 : Nat → Int → Int → List Int → Int → List (S32) → Int → Int → Option (Int × Int × Int)
 | 0, _, _, _, _, _, _, _ => none
 | k + 1, x3, x4, x5, x6, x9, x10, x11 => if (x5.length : Int) > 0 then (if 0 ≤ (wrap64 ((x5.length : Int) - 1)) then (if (wrap64 ((x5.length : Int) - 1)) < (x5.length : Int) then (Xo.j4 k x3 x4 x5 x6 x9 x10 x11 ((rd x5 (wrap64 ((x5.length : Int) - 1))) == 0)) else (none)) else (none)) else (Xo.j4 k x3 x4 x5 x6 x9 x10 x11 false)
def Xo.j4 : Nat → Int → Int → List Int → Int → List (S32) → Int → Int → Bool → Option (Int × Int × Int)
 | 0, _, _, _, _, _, _, _, _ => none
 | k + 1, x3, x4, x5, x6, x9, x10, x11, x66 => if x66 = true then (if 0 ≤ (wrap64 ((x5.length : Int) - 1)) then (if (wrap64 ((x5.length : Int) - 1)) ≤ (x5.length : Int) then ((some (x5.take ((wrap64 ((x5.length : Int) - 1)) : Int).toNat : List Int)).bind fun y250 => (if (y250.length : Int) > 0 then (if 0 ≤ (wrap64 ((y250.length : Int) - 1)) then (if (wrap64 ((y250.length : Int) - 1)) < (y250.length : Int) then (Xo.l1 k x3 x4 (y250.set ((wrap64 ((y250.length : Int) - 1)) : Int).toNat (wrap64 ((rd y250 (wrap64 ((y250.length : Int) - 1))) - 1))) x6 x9 x10 x11) else (none)) else (none)) else (Xo.l1 k x3 x4 y250 x6 x9 x10 x11))) else (none)) else (none)) else (if (x5.length : Int) = 0 then (some (wrap64 (x6 + 1), x3, x4)) else (Xo.l0 k x3 x4 x5 x9 x10 (wrap64 (x11 + 1))))
end
def Xo.f (k : Nat) (l0 : List (S32)) : Option (Int × Int × Int) := Xo.l0 k 0 0 ([] : List Int) l0 (l0.length : Int) 0
theorem Xo.mono_l : ∀ k, (∀ y0 y1 y2 y3 y4 y5, LeO (Xo.l0 k y0 y1 y2 y3 y4 y5) (Xo.l0 (k + 1) y0 y1 y2 y3 y4 y5)) ∧ (∀ y0 y1 y2 y3 y4 y5 y6 y7 y8 y9 y10 y11 y12, LeO (Xo.j1 k y0 y1 y2 y3 y4 y5 y6 y7 y8 y9 y10 y11 y12) (Xo.j1 (k + 1) y0 y1 y2 y3 y4 y5 y6 y7 y8 y9 y10 y11 y12)) ∧ (∀ y0 y1 y2 y3 y4 y5 y6, LeO (Xo.j2 k y0 y1 y2 y3 y4 y5 y6) (Xo.j2 (k + 1) y0 y1 y2 y3 y4 y5 y6)) ∧ (∀ y0 y1 y2 y3 y4 y5 y6, LeO (Xo.l1 k y0 y1 y2 y3 y4 y5 y6) (Xo.l1 (k + 1) y0 y1 y2 y3 y4 y5 y6)) ∧ (∀ y0 y1 y2 y3 y4 y5 y6 y7, LeO (Xo.j4 k y0 y1 y2 y3 y4 y5 y6 y7) (Xo.j4 (k + 1) y0 y1 y2 y3 y4 y5 y6 y7))
 | 0 => ⟨fun _ _ _ _ _ _ r h => by simp [Xo.l0] at h, fun _ _ _ _ _ _ _ _ _ _ _ _ _ r h => by simp [Xo.j1] at h, fun _ _ _ _ _ _ _ r h => by simp [Xo.j2] at h, fun _ _ _ _ _ _ _ r h => by simp [Xo.l1] at h, fun _ _ _ _ _ _ _ _ r h => by simp [Xo.j4] at h⟩
 | k + 1 => by
  obtain ⟨ih0, ih1, ih2, ih3, ih4⟩ := Xo.mono_l k
  refine ⟨?_, ?_, ?_, ?_, ?_⟩
  ·intro y0 y1 y2 y3 y4 y5
   unfold Xo.l0
   have im0 := @Xu.mono
   exact mz3
  ·intro y0 y1 y2 y3 y4 y5 y6 y7 y8 y9 y10 y11 y12
   unfold Xo.j1
   have im0 := @Xu.mono
   exact mz3
  ·intro y0 y1 y2 y3 y4 y5 y6
   unfold Xo.j2
   have im0 := @Xu.mono
   exact mz3
  ·intro y0 y1 y2 y3 y4 y5 y6
   unfold Xo.l1
   have im0 := @Xu.mono
   exact mz3
  ·intro y0 y1 y2 y3 y4 y5 y6 y7
   unfold Xo.j4
   have im0 := @Xu.mono
   exact mz3
theorem Xo.mono : ∀ a0 k, LeO (Xo.f k a0) (Xo.f (k + 1) a0) := by
 intro a0 k
 obtain ⟨ih0, ih1, ih2, ih3, ih4⟩ := Xo.mono_l k
 unfold Xo.f
 have im0 := @Xu.mono
 exact mz3
set_option maxHeartbeats 8000000 in
set_option maxRecDepth 100000 in
theorem Xo.calls (k : Nat) (A0 : Option Addr) (c0 : Nat) (l0 : List (S32)) (r1 : Int) (r2 : Int) (r3 : Int) (w : World) (hr0 : Kd.C k32 w A0 l0.length l0) (hc0 : l0.length ≤ c0) (h : Xo.f k l0 = some (r1, r2, r3)) :
  Calls Tryd.prog 77 #[.slice A0 l0.length c0] w fun e w' => e = .returned (.tuple #[.int .i64 r1, .int .i64 r2, .int .i64 r3]) ∧ Below w.heap.size w w' := by
 have hu32 := Tryd.underlying32
 have HR0 := zq hr0
 have HC0 := zq hc0
 clear hr0 hc0
 have HB := zq (Below.refl w.heap.size w)
 unfold Xo.f at h
 have H := h
 clear h
 have H' := zq H
 clear H
 go_enter Tryd.func77, Tryd.ntmps77
 go_wp2
 go_loopg [3, 4, 5, 11] k (fun kq v3 v4 v5 v11 w' => ∃ (x3_1 : Int) (x4_1 : Int) (x5_1 : List Int) (x11_1 : Int), v3 = .int .i64 x3_1 ∧ v4 = .int .i64 x4_1 ∧ v11 = .int .i64 x11_1 ∧ Aside0 (Xo.l0 kq x3_1 x4_1 x5_1 l0 (l0.length : Int) x11_1 = some (r1, r2, r3)) ∧ Aside0 (kq ≤ k) ∧ Aside0 (Kd.R (Kd.int .i64) 3 w' w.heap.size (fun _ => True) v5 x5_1) ∧ Aside0 (Below w.heap.size w w'))
 case atStart => exact ⟨(0), (0), (([] : List Int)), (0), J4, J4, J4, H', ⟨Nat.le_refl _⟩, ⟨J9⟩, ⟨J0⟩⟩
 case round =>
  clear H'
  obtain ⟨x3_1, x4_1, x5_1, x11_1, rfl, rfl, rfl, HA, HK1, HO_5, HB⟩ := hrel
  cases gk with
  | zero => exact absurd HA.out (by simp [Xo.l0])
  | succ k1 =>
   have H := HA.out
   clear HA
   simp only [Xo.l0] at H
   refine yd H ?_ ?_ <;> clear H <;> rintro c2b0 H
   ·obtain ⟨rfl, rfl, rfl⟩ := yp3 H
    go_wp2
    go_ret3
    exact ⟨J2, J0⟩
   refine yj H ?_; clear H; intro c3b0 H
   refine yj H ?_; clear H; intro c4b0 H
   refine yv H ?_; clear H; rintro t243 A5 H
   have HC6 := zq H
   clear H
   have p241 : 0 ≤ (x11_1 : Int) := of_decide_eq_true J3
   have q241 : x11_1 < (l0.length : Int) := of_decide_eq_true J3
   obtain ⟨ad241, A241_1, c241_1, A241_2, c241_2, A241_3, c241_3, e241, hx241_0, hx241_1, hx241_2, hx241_3, hl241_1, hi241_1, hl241_2, hi241_2, hl241_3, hi241_3⟩ := Xbz HR0.out x11_1 p241 q241
   cases e241
   replace hx241_0 := yh HB hx241_0
   replace hx241_1 := yh HB hx241_1
   replace hx241_2 := yh HB hx241_2
   replace hx241_3 := yh HB hx241_3
   have HR241_1 := zq hi241_1
   have HC241_1 := zq hl241_1
   clear hi241_1 hl241_1
   have HR241_2 := zq hi241_2
   have HC241_2 := zq hl241_2
   clear hi241_2 hl241_2
   have HR241_3 := zq hi241_3
   have HC241_3 := zq hl241_3
   clear hi241_3 hl241_3
   replace p241 := eq_true p241
   replace q241 := eq_true q241
   go_upto_region 7 with (first | ((with_reducible refine Xk (N := 7) rfl ?_); (try (refine Xaz Xa5 ?_; dsimp only)); refine bxw 7 32 #[.int .i64 0, .slice none 0 0, .slice none 0 0, .slice none 0 0] ?_; intro gb242 hg w7 hbox hb; replace HO_5 := zq (Kd.R_below (zr HO_5.out) hb); have BK242 := zq (hbox); have GE242 := zq ((J12 : w.heap.size ≤ gb242)); replace HB := zq (Xd J0 hb); clear hb hbox hg; obtain ⟨hcz8_0, hcz8_1, hcz8_2, hcz8_3, hfz8_0, hfz8_1, hfz8_2, hfz8_3⟩ := cz4 BK242.out) | ((with_reducible refine Xg (f := 86) rfl ?_); refine Xt (some 17) rfl rfl Tryd.func86 J8 rfl #[.agg #[.int .i64 ((Xa l0 x11_1).f0), .slice A241_1 ((Xa l0 x11_1).f1).length c241_1, .slice A241_2 ((Xa l0 x11_1).f2).length c241_2, .slice A241_3 ((Xa l0 x11_1).f3).length c241_3]] rfl J1 ?_; (with_reducible refine (Xu.calls k1 ((Xa l0 x11_1).f0) _ _ ((Xa l0 x11_1).f1) _ _ ((Xa l0 x11_1).f2) _ _ ((Xa l0 x11_1).f3) t243 _ ?side1 ?side2 ?side3 ?side4 ?side5 ?side6 A5.out).mono ?_); (case side1 => exact Kd.C_below HR241_1.out (zs1 GE242.out)); (case side2 => exact HC241_1.out); (case side3 => exact Kd.C_below HR241_2.out (zs1 GE242.out)); (case side4 => exact HC241_2.out); (case side5 => exact Kd.C_below HR241_3.out (zs1 GE242.out)); (case side6 => exact HC241_3.out); rintro e w9 ⟨rfl, hb⟩; refine ⟨_, rfl, ?_⟩; replace HO_5 := zq (Kd.R_below (by (with_reducible repeat (first | apply Kd.R_alloc | apply Kd.R_drewN | apply Kd.R_drew)); exact (Kd.R_mono (Kd.R_far (p := ⟨gb242, 3, none⟩) (Kd.R_far (p := ⟨gb242, 2, none⟩) (Kd.R_far (p := ⟨gb242, 1, none⟩) (Kd.R_far (p := ⟨gb242, 0, none⟩) (Kd.R_types HO_5.out BK242.out J11) (fun _ hk => hk.2) (.int .i64 ((Xa l0 x11_1).f0))) (fun _ hk => hk.2) (.slice A241_1 ((Xa l0 x11_1).f1).length c241_1)) (fun _ hk => hk.2) (.slice A241_2 ((Xa l0 x11_1).f2).length c241_2)) (fun _ hk => hk.2) (.slice A241_3 ((Xa l0 x11_1).f3).length c241_3)) (fun _ h_ => h_.1))) hb); replace BK242 := zq (Xh (g := gb242) (o := .cells #[.int .i64 ((Xa l0 x11_1).f0), .slice A241_1 ((Xa l0 x11_1).f1).length c241_1, .slice A241_2 ((Xa l0 x11_1).f2).length c241_2, .slice A241_3 ((Xa l0 x11_1).f3).length c241_3] 32 (0, 0)) (by (with_reducible repeat (first | refine Xc ?_ _ | refine Xe ?_ | refine Xb ?_ _)); refine Xj (cs := #[.int .i64 ((Xa l0 x11_1).f0), .slice A241_1 ((Xa l0 x11_1).f1).length c241_1, .slice A241_2 ((Xa l0 x11_1).f2).length c241_2, .slice none 0 0]) ?_ 3 _ rfl; (with_reducible repeat (first | refine Xc ?_ _ | refine Xe ?_ | refine Xb ?_ _)); refine Xj (cs := #[.int .i64 ((Xa l0 x11_1).f0), .slice A241_1 ((Xa l0 x11_1).f1).length c241_1, .slice none 0 0, .slice none 0 0]) ?_ 2 _ rfl; (with_reducible repeat (first | refine Xc ?_ _ | refine Xe ?_ | refine Xb ?_ _)); refine Xj (cs := #[.int .i64 ((Xa l0 x11_1).f0), .slice none 0 0, .slice none 0 0, .slice none 0 0]) ?_ 1 _ rfl; (with_reducible repeat (first | refine Xc ?_ _ | refine Xe ?_ | refine Xb ?_ _)); refine Xj (cs := #[.int .i64 0, .slice none 0 0, .slice none 0 0, .slice none 0 0]) ?_ 0 _ rfl; (with_reducible repeat (first | refine Xc ?_ _ | refine Xe ?_ | refine Xb ?_ _)); exact BK242.out) hb); replace HB := zq (Xd (zs1 GE242.out) hb); (try clear hb); (try clear hk)))
   (try simp only [Act.put, List.setIfInBounds_toArray, List.set_cons_zero, List.set_cons_succ])
   go_cut [31] (fun v31 wc => ∃ (kq : Nat) (x31_5 : Bool), v31 = .bool x31_5 ∧ Aside0 (Xo.j1 kq (wrap64 (x3_1 + t243)) x4_1 x5_1 x11_1 t243 l0 (l0.length : Int) x11_1 x31_5 ((Xa l0 x11_1).f0) ((Xa l0 x11_1).f1) ((Xa l0 x11_1).f2) ((Xa l0 x11_1).f3) = some (r1, r2, r3)) ∧ Aside0 (kq ≤ k1) ∧ Aside0 (Kd.R (Kd.int .i64) 3 wc w.heap.size (fun _ => True) u5 x5_1) ∧ Aside0 (wc.heap[gb242]? = some (.cells #[.int .i64 ((Xa l0 x11_1).f0), (.slice A241_1 ((Xa l0 x11_1).f1).length c241_1), (.slice A241_2 ((Xa l0 x11_1).f2).length c241_2), (.slice A241_3 ((Xa l0 x11_1).f3).length c241_3)] 32 (0, 0))) ∧ Aside0 (Below w.heap.size w wc))
   case first =>
    have H := HC6.out
    clear HC6
    refine yD H ?_ ?_ <;> clear H <;> rintro c10b0 H
    ·(first | rw [c10b0] | (simp only [Xbd, Xbh]; rw [c10b0]) | skip)
     have H' := zq H
     clear H
     go_wp2
     go_meet
     case rel => exact ⟨_, (true), J4, H', ⟨J87⟩, ⟨J38⟩, ⟨J25⟩, ⟨J15⟩⟩
    (first | rw [c10b0] | (simp only [Xbd, Xbh]; rw [c10b0]) | skip)
    refine yD H ?_ ?_ <;> clear H <;> rintro c11b0 H
    ·have H' := zq H
     clear H
     go_wp2
     go_meet
     case rel => exact ⟨_, (true), J4, H', ⟨J87⟩, ⟨J38⟩, ⟨J25⟩, ⟨J15⟩⟩
    have H' := zq H
    clear H
    obtain ⟨Ao12, co12, eo12⟩ := Kd.R_slice HO_5.out
    subst eo12
    go_wp2
    go_meet
    case rel => exact ⟨_, (decide ((x5_1.length : Int) ≥ 16)), J4, H', ⟨J87⟩, ⟨J38⟩, ⟨J25⟩, ⟨J15⟩⟩
   case rest =>
    clear HC6
    try clear c2b0
    try clear c3b0
    try clear c4b0
    try clear hcz8_0
    try clear hcz8_1
    try clear hcz8_2
    try clear hcz8_3
    try clear hfz8_0
    try clear hfz8_1
    try clear hfz8_2
    try clear hfz8_3
    try clear hx241_0
    try clear hx241_1
    try clear hx241_2
    try clear hx241_3
    try clear p241
    try clear q241
    obtain ⟨kq, x31_5, rfl, HA, HJ5, HO_5, BK242, HB⟩ := hcut
    cases kq with
    | zero => exact absurd HA.out (by simp [Xo.j1])
    | succ kj5 =>
     have H := HA.out
     clear HA
     simp only [Xo.j1] at H
     refine yC H ?_ ?_ <;> clear H <;> rintro rfl H
     ·obtain ⟨rfl, rfl, rfl⟩ := yp3 H
      go_wp2
      go_ret3
      exact ⟨J2, J15⟩
     obtain ⟨ji14, hji14⟩ : ∃ j_ : Int, (mx x4_1 (wrap64 ((x5_1.length : Int) + 1))) = j_ := ⟨_, rfl⟩
     replace H : (if ((Xa l0 x11_1).f0) = 5 then (if x5_1.length < 17592186044416 then (Xo.j2 kj5 (wrap64 (x3_1 + t243)) ji14 (x5_1 ++ [t243]) x11_1 l0 (l0.length : Int) x11_1) else (none)) else (if (x5_1.length : Int) > 0 then (if 0 ≤ (wrap64 ((x5_1.length : Int) - 1)) then (if (wrap64 ((x5_1.length : Int) - 1)) < (x5_1.length : Int) then (Xo.j2 kj5 (wrap64 (x3_1 + t243)) ji14 (x5_1.set ((wrap64 ((x5_1.length : Int) - 1)) : Int).toNat (wrap64 ((rd x5_1 (wrap64 ((x5_1.length : Int) - 1))) - 1))) x11_1 l0 (l0.length : Int) x11_1) else (none)) else (none)) else (Xo.j2 kj5 (wrap64 (x3_1 + t243)) ji14 x5_1 x11_1 l0 (l0.length : Int) x11_1))) = some (r1, r2, r3) := by first | (rw [hji14] at H; exact H) | (simp only [hji14] at H ⊢; exact H)
     have hji14_ : (if x4_1 < (wrap64 ((x5_1.length : Int) + 1)) then (wrap64 ((x5_1.length : Int) + 1)) else x4_1) = ji14 := hji14
     have HC15 := zq H
     clear H
     obtain ⟨Ao16, co16, eo16⟩ := Kd.R_slice HO_5.out
     subst eo16
     obtain ⟨hcz17_0, hcz17_1, hcz17_2, hcz17_3, hfz17_0, hfz17_1, hfz17_2, hfz17_3⟩ := cz4 BK242.out
     go_upto_if 39 with (fail)
     go_cut [5] (fun v5 wc => ∃ (kq : Nat) (x5_14 : List Int), Aside0 (Xo.j2 kq (wrap64 (x3_1 + t243)) ji14 x5_14 x11_1 l0 (l0.length : Int) x11_1 = some (r1, r2, r3)) ∧ Aside0 (kq ≤ kj5) ∧ Aside0 (Kd.R (Kd.int .i64) 3 wc w.heap.size (fun _ => True) v5 x5_14) ∧ Aside0 (wc.heap[gb242]? = some (.cells #[.int .i64 ((Xa l0 x11_1).f0), (.slice A241_1 ((Xa l0 x11_1).f1).length c241_1), (.slice A241_2 ((Xa l0 x11_1).f2).length c241_2), (.slice A241_3 ((Xa l0 x11_1).f3).length c241_3)] 32 (0, 0))) ∧ Aside0 (Below w.heap.size w wc))
     case first =>
      have H := HC15.out
      clear HC15
      refine yF H ?_ ?_ <;> clear H <;> rintro ⟨c18b0, c18b1, c18⟩ H
      ·clear c18
       (first | rw [c18b0] | (simp only [Xbd, Xbh]; rw [c18b0]) | skip)
       refine yu H ?_ ?_ <;> clear H <;> rintro c19 H
       ·have LMc19 := zq c19
        clear c19
        obtain ⟨y244, hy244⟩ : ∃ y_ : List Int, y_ = (x5_1 ++ [t243]) := ⟨_, rfl⟩
        replace H : (Xo.j2 kj5 (wrap64 (x3_1 + t243)) ji14 y244 x11_1 l0 (l0.length : Int) x11_1) = some (r1, r2, r3) := by first | (rw [hy244]; with_reducible exact H) | (have H2_ := (Option.bind_some _ _).symm.trans H; rw [hy244]; with_reducible exact H2_) | (have H2_ := (Option.bind_some _ _).symm.trans H; with_reducible exact H2_) | with_reducible exact H | (rw [hy244]; exact H) | exact H
        have Ny244 := zq hy244
        clear hy244
        have H' := zq H
        clear H
        go_wp2_with (first | ((with_reducible refine Xbt (b := .append) (xs := #[.tmp 40, .tmp 42]) rfl ?_); (try (refine Xaz Xa5 ?_; dsimp only)); at_builtin; refine Kd.R_append (Kd.int .i64) (w0 := w) w.heap.size rfl (.tmp 40) (.tmp 42) 29 3 (.int .i64 0) 8 rfl Tryd.underlying29 info3 rfl J11 J35 (.slice Ao16 x5_1.length co16) x5_1 t243 [.int .i64 t243] (fun _ => True) (fun _ => False) rfl rfl ?aP (fun _ hk => hk.elim) ?aF ?aO ?aB ?aS ?aL ?_; (case aP => exact rfl); (case aB => exact (zs1 GE242.out)); (case aF => exact (fun _ _ => trivial)); (case aO => exact (zr HO_5.out)); (case aS => exact (Xf (zs1 GE242.out))); (case aL => have := LMc19.out; omega); intro v245 w20 ho hb hg hat; rw [← Ny244.out] at ho; replace BK242 := zq (Xb7 (g := gb242) (o := .cells #[.int .i64 ((Xa l0 x11_1).f0), .slice A241_1 ((Xa l0 x11_1).f1).length c241_1, .slice A241_2 ((Xa l0 x11_1).f2).length c241_2, .slice A241_3 ((Xa l0 x11_1).f3).length c241_3] 32 (0, 0)) (zk BK242.out) hg (Kd.R_ne HO_5.out BK242.out J11)); replace HB := zq (hb); have HO246 := zq (ho); clear HO_5; clear ho hb hg hat))
        go_meet
        case rel => exact ⟨_, (y244), H', ⟨J138⟩, ⟨by (with_reducible repeat (first | apply Kd.R_alloc | apply Kd.R_drewN | apply Kd.R_drew)); exact HO246.out⟩, ⟨J25⟩, ⟨J15⟩⟩
       ·exact absurd H J88
      (first | rw [c18b0] | (simp only [Xbd, Xbh]; rw [c18b0]) | skip)
      refine yt H ?_ ?_ <;> clear H <;> rintro c21 H
      ·have c21b0 : decide (0 < (x5_1.length : Int)) = false := decide_eq_false c21
       have c21b1 : decide (0 < x5_1.length) = false := decide_eq_false J35
       clear c21
       have H' := zq H
       clear H
       go_wp2
       go_meet
       case rel => exact ⟨_, (x5_1), H', ⟨J138⟩, ⟨J38⟩, ⟨J25⟩, ⟨J15⟩⟩
      have c21b0 := decide_eq_true c21
      have c21b1 : decide (0 < x5_1.length) = true := decide_eq_true J35
      clear c21
      obtain ⟨ji22, hji22⟩ : ∃ j_ : Int, (wrap64 ((x5_1.length : Int) - 1)) = j_ := ⟨_, rfl⟩
      replace H : (if 0 ≤ (ji22) then (if (ji22) < (x5_1.length : Int) then (Xo.j2 kj5 (wrap64 (x3_1 + t243)) ji14 (x5_1.set ((ji22) : Int).toNat (wrap64 ((rd x5_1 (ji22)) - 1))) x11_1 l0 (l0.length : Int) x11_1) else (none)) else (none)) = some (r1, r2, r3) := by first | (rw [hji22] at H; exact H) | (simp only [hji22] at H ⊢; exact H)
      have hji22w : (IntKind.i64.wrap ((x5_1.length : Int) - 1)) = ji22 := (Xbd _).trans hji22
      refine yj H ?_; clear H; intro c23b0 H
      refine yj H ?_; clear H; intro c24b0 H
      obtain ⟨y248, hy248⟩ : ∃ y_ : List Int, y_ = (x5_1.set ((ji22) : Int).toNat (wrap64 ((rd x5_1 (ji22)) - 1))) := ⟨_, rfl⟩
      replace H : (Xo.j2 kj5 (wrap64 (x3_1 + t243)) ji14 y248 x11_1 l0 (l0.length : Int) x11_1) = some (r1, r2, r3) := by first | (rw [hy248]; with_reducible exact H) | (have H2_ := (Option.bind_some _ _).symm.trans H; rw [hy248]; with_reducible exact H2_) | (have H2_ := (Option.bind_some _ _).symm.trans H; with_reducible exact H2_) | with_reducible exact H | (rw [hy248]; exact H) | exact H
      have Ny248 := zq hy248
      clear hy248
      have H' := zq H
      clear H
      have p247 : 0 ≤ ((ji22) : Int) := of_decide_eq_true J3
      have q247 : (ji22) < (x5_1.length : Int) := of_decide_eq_true J3
      obtain ⟨ad247, e247, hx247_0⟩ := Kd.at_int (Kd.R_reads' HO_5.out).2.2 (ji22) p247 q247
      cases e247
      replace p247 := eq_true p247
      replace q247 := eq_true q247
      have p25 : 0 ≤ ((ji22) : Int) := of_decide_eq_true J3
      have q25 : ((ji22) : Int) < ((x5_1.length : Int) : Int) := of_decide_eq_true J3
      obtain ⟨go25, co25, eo25, gb25, gl25, cl25, HG25⟩ := Kd.R_form HO_5.out J35
      (first | cases eo25 | (injection eo25 with ea_ en_ ec_; (first | subst ea_ | (injection ea_ with ea_; subst ea_)); subst ec_; clear en_))
      have GB25 := zq gb25
      have GG25 := zq HG25
      clear gb25 gl25 HG25
      (first | simp only [Xdb] at hx247_0 | skip)
      obtain ⟨hx25_0, hf25_0⟩ := Kd.R_celln 0 HO_5.out ((ji22) : Int) p25 q25
      replace p25 := eq_true p25
      replace q25 := eq_true q25
      have HP26 := Kd.R_putg HO_5.out ((ji22) : Int) (wrap64 ((rd x5_1 (ji22)) - 1))
      go_wp2_with (first | ((with_reducible refine Xce (t := 3) (p := 54) rfl ?_); refine Xb3 (t := 3) (p := 54) (v := ?vo_w27) (w1 := (wc.setCell ⟨go25, ((ji22) : Int).toNat, none⟩ (.int .i64 (wrap64 ((rd x5_1 (ji22)) - 1))))) ?hg ?ho ?hn ?hr ?_; (case ho => rfl); (case hg => rfl); (case hn => rfl); (case hr => first | (go_simp; done) | (go_simp; rfl)); intro w27 hw; have hg : wc.grownBy w27 (some go25) := (by rw [hw]; exact HP26.2); have hp_ : Kd.R (Kd.int .i64) 3 w27 w.heap.size (fun _ => True) (.slice (some ⟨go25, 0, none⟩) x5_1.length co16) y248 := (by rw [hw, Ny248.out]; exact HP26.1); clear HP26; replace BK242 := zq (Xb7 (g := gb242) (o := .cells #[.int .i64 ((Xa l0 x11_1).f0), .slice A241_1 ((Xa l0 x11_1).f1).length c241_1, .slice A241_2 ((Xa l0 x11_1).f2).length c241_2, .slice A241_3 ((Xa l0 x11_1).f3).length c241_3] 32 (0, 0)) (zk BK242.out) hg (Kd.R_ne HO_5.out BK242.out J11)); replace HO_5 := zq (hp_); replace HB := zq ((by rw [hw]; exact X2 (HB.out) GB25.out : Below w.heap.size w w27)); clear hg hw hp_))
      go_meet
      case rel => exact ⟨_, (y248), H', ⟨J138⟩, ⟨J38⟩, ⟨J25⟩, ⟨J15⟩⟩
     case rest =>
      clear HC15
      try clear c2b0
      try clear c3b0
      try clear c4b0
      try clear hcz17_0
      try clear hcz17_1
      try clear hcz17_2
      try clear hcz17_3
      try clear hcz8_0
      try clear hcz8_1
      try clear hcz8_2
      try clear hcz8_3
      try clear hfz17_0
      try clear hfz17_1
      try clear hfz17_2
      try clear hfz17_3
      try clear hfz8_0
      try clear hfz8_1
      try clear hfz8_2
      try clear hfz8_3
      try clear hx241_0
      try clear hx241_1
      try clear hx241_2
      try clear hx241_3
      try clear p241
      try clear q241
      obtain ⟨kq, x5_14, HA, HJ14, HO_5, BK242, HB⟩ := hcut
      cases kq with
      | zero => exact absurd HA.out (by simp [Xo.j2])
      | succ kj14 =>
       have H := HA.out
       clear HA
       simp only [Xo.j2] at H
       have H' := zq H
       clear H
       go_wp2
       go_loopg [5] kj14 (fun kq v5 w' => ∃ (x5_4 : List Int), Aside0 (Xo.l1 kq (wrap64 (x3_1 + t243)) ji14 x5_4 x11_1 l0 (l0.length : Int) x11_1 = some (r1, r2, r3)) ∧ Aside0 (kq ≤ kj14) ∧ Aside0 (Kd.R (Kd.int .i64) 3 w' w.heap.size (fun _ => True) v5 x5_4) ∧ Aside0 (w'.heap[gb242]? = some (.cells #[.int .i64 ((Xa l0 x11_1).f0), (.slice A241_1 ((Xa l0 x11_1).f1).length c241_1), (.slice A241_2 ((Xa l0 x11_1).f2).length c241_2), (.slice A241_3 ((Xa l0 x11_1).f3).length c241_3)] 32 (0, 0))) ∧ Aside0 (Below w.heap.size w w'))
       case atStart => exact ⟨(x5_14), H', ⟨Nat.le_refl _⟩, ⟨J38⟩, ⟨J25⟩, ⟨J15⟩⟩
       case round =>
        clear H'
        try clear c2b0
        try clear c3b0
        try clear c4b0
        try clear hcz17_0
        try clear hcz17_1
        try clear hcz17_2
        try clear hcz17_3
        try clear hcz8_0
        try clear hcz8_1
        try clear hcz8_2
        try clear hcz8_3
        try clear hfz17_0
        try clear hfz17_1
        try clear hfz17_2
        try clear hfz17_3
        try clear hfz8_0
        try clear hfz8_1
        try clear hfz8_2
        try clear hfz8_3
        try clear hx241_0
        try clear hx241_1
        try clear hx241_2
        try clear hx241_3
        try clear p241
        try clear q241
        obtain ⟨x5_4, HA, HK4, HO_5, BK242, HB⟩ := hrel
        cases gk with
        | zero => exact absurd HA.out (by simp [Xo.l1])
        | succ k4 =>
         have H := HA.out
         clear HA
         simp only [Xo.l1] at H
         have HC28 := zq H
         clear H
         go_upto_region 14 with (fail)
         go_cut [66] (fun v66 wc => ∃ (kq : Nat) (x66_27 : Bool), v66 = .bool x66_27 ∧ Aside0 (Xo.j4 kq (wrap64 (x3_1 + t243)) ji14 x5_4 x11_1 l0 (l0.length : Int) x11_1 x66_27 = some (r1, r2, r3)) ∧ Aside0 (kq ≤ k4) ∧ Aside0 (Kd.R (Kd.int .i64) 3 wc w.heap.size (fun _ => True) u5 x5_4) ∧ Aside0 (wc.heap[gb242]? = some (.cells #[.int .i64 ((Xa l0 x11_1).f0), (.slice A241_1 ((Xa l0 x11_1).f1).length c241_1), (.slice A241_2 ((Xa l0 x11_1).f2).length c241_2), (.slice A241_3 ((Xa l0 x11_1).f3).length c241_3)] 32 (0, 0))) ∧ Aside0 (Below w.heap.size w wc))
         case first =>
          have H := HC28.out
          clear HC28
          refine yt H ?_ ?_ <;> clear H <;> rintro c29 H
          ·have c29b0 : decide (0 < (x5_4.length : Int)) = false := decide_eq_false c29
           have c29b1 : decide (0 < x5_4.length) = false := decide_eq_false J35
           clear c29
           (first | rw [c29b0] | (simp only [Xbd, Xbh]; rw [c29b0]) | skip)
           have H' := zq H
           clear H
           obtain ⟨Ao34, co34, eo34⟩ := Kd.R_slice HO_5.out
           subst eo34
           go_wp2
           go_meet
           case rel => exact ⟨_, (false), J4, H', ⟨J158⟩, ⟨J38⟩, ⟨J25⟩, ⟨J15⟩⟩
          have c29b0 := decide_eq_true c29
          have c29b1 : decide (0 < x5_4.length) = true := decide_eq_true J35
          clear c29
          (first | rw [c29b0] | (simp only [Xbd, Xbh]; rw [c29b0]) | skip)
          obtain ⟨ji30, hji30⟩ : ∃ j_ : Int, (wrap64 ((x5_4.length : Int) - 1)) = j_ := ⟨_, rfl⟩
          replace H : (if 0 ≤ (ji30) then (if (ji30) < (x5_4.length : Int) then (Xo.j4 k4 (wrap64 (x3_1 + t243)) ji14 x5_4 x11_1 l0 (l0.length : Int) x11_1 ((rd x5_4 (ji30)) == 0)) else (none)) else (none)) = some (r1, r2, r3) := by first | (rw [hji30] at H; exact H) | (simp only [hji30] at H ⊢; exact H)
          have hji30w : (IntKind.i64.wrap ((x5_4.length : Int) - 1)) = ji30 := (Xbd _).trans hji30
          refine yj H ?_; clear H; intro c31b0 H
          refine yj H ?_; clear H; intro c32b0 H
          have H' := zq H
          clear H
          obtain ⟨Ao33, co33, eo33⟩ := Kd.R_slice HO_5.out
          subst eo33
          have p249 : 0 ≤ ((ji30) : Int) := of_decide_eq_true J3
          have q249 : (ji30) < (x5_4.length : Int) := of_decide_eq_true J3
          obtain ⟨ad249, e249, hx249_0⟩ := Kd.at_int (Kd.R_reads' HO_5.out).2.2 (ji30) p249 q249
          cases e249
          replace p249 := eq_true p249
          replace q249 := eq_true q249
          go_wp2
          go_meet
          case rel => exact ⟨_, (((rd x5_4 (ji30)) == 0)), (by first | rfl | (simp; done) | (simp only [← hji30] <;> (first | rfl | simp)) | (simp [*]; done)), H', ⟨J158⟩, ⟨J38⟩, ⟨J25⟩, ⟨J15⟩⟩
         case rest =>
          clear HC28
          try clear c2b0
          try clear c3b0
          try clear c4b0
          try clear hcz17_0
          try clear hcz17_1
          try clear hcz17_2
          try clear hcz17_3
          try clear hcz8_0
          try clear hcz8_1
          try clear hcz8_2
          try clear hcz8_3
          try clear hfz17_0
          try clear hfz17_1
          try clear hfz17_2
          try clear hfz17_3
          try clear hfz8_0
          try clear hfz8_1
          try clear hfz8_2
          try clear hfz8_3
          try clear hx241_0
          try clear hx241_1
          try clear hx241_2
          try clear hx241_3
          try clear p241
          try clear q241
          obtain ⟨kq, x66_27, rfl, HA, HJ27, HO_5, BK242, HB⟩ := hcut
          cases kq with
          | zero => exact absurd HA.out (by simp [Xo.j4])
          | succ kj27 =>
           have H := HA.out
           clear HA
           simp only [Xo.j4] at H
           refine yB H ?_ ?_ <;> clear H <;> rintro rfl H
           ·refine yF H ?_ ?_ <;> clear H <;> rintro ⟨c50b0, c50b1, c50⟩ H
            ·clear c50
             obtain ⟨rfl, rfl, rfl⟩ := yp3 H
             obtain ⟨Ao51, co51, eo51⟩ := Kd.R_slice HO_5.out
             subst eo51
             go_wp2
             go_ret3
             exact ⟨by first | rfl | (simp [Xdt, Xds] <;> rfl) | (simp only [← hji14]; first | rfl | (simp [Xdt, Xds] <;> rfl)) | (simp [*, Xdt, Xds] <;> rfl), J15⟩
            ·have c50b2 : ¬ (x5_4 = []) := fun h_ => c50 (by rw [h_]; rfl)
             have H' := zq H
             clear H
             obtain ⟨Ao52, co52, eo52⟩ := Kd.R_slice HO_5.out
             subst eo52
             go_wp2
             go_roundg kj27
             case measure => have := HK1.out; have := HJ5.out; have := HJ14.out; have := HK4.out; have := HJ27.out; omega
             case rel => exact ⟨((wrap64 (x3_1 + t243))), (ji14), (x5_4), (wrap64 (x11_1 + 1)), J4, (by first | rfl | (simp; done) | (simp only [← hji14] <;> (first | rfl | simp)) | (simp [*]; done)), J4, H', ⟨J127⟩, ⟨J38⟩, ⟨J15⟩⟩
           obtain ⟨ji36, hji36⟩ : ∃ j_ : Int, (wrap64 ((x5_4.length : Int) - 1)) = j_ := ⟨_, rfl⟩
           replace H : (if 0 ≤ (ji36) then (if (ji36) ≤ (x5_4.length : Int) then ((some (x5_4.take ((ji36) : Int).toNat : List Int)).bind fun y250 => (if (y250.length : Int) > 0 then (if 0 ≤ (wrap64 ((y250.length : Int) - 1)) then (if (wrap64 ((y250.length : Int) - 1)) < (y250.length : Int) then (Xo.l1 kj27 (wrap64 (x3_1 + t243)) ji14 (y250.set ((wrap64 ((y250.length : Int) - 1)) : Int).toNat (wrap64 ((rd y250 (wrap64 ((y250.length : Int) - 1))) - 1))) x11_1 l0 (l0.length : Int) x11_1) else (none)) else (none)) else (Xo.l1 kj27 (wrap64 (x3_1 + t243)) ji14 y250 x11_1 l0 (l0.length : Int) x11_1))) else (none)) else (none)) = some (r1, r2, r3) := by first | (rw [hji36] at H; exact H) | (simp only [hji36] at H ⊢; exact H)
           have hji36w : (IntKind.i64.wrap ((x5_4.length : Int) - 1)) = ji36 := (Xbd _).trans hji36
           refine yi H ?_; clear H; intro c37 H
           have c37b0 := eq_true c37
           have c37b1 := decide_eq_true c37
           clear c37
           refine yi H ?_; clear H; intro c38 H
           have c38b0 := eq_true c38
           have c38b1 := decide_eq_true c38
           clear c38
           obtain ⟨y250, hy250⟩ : ∃ y_ : List Int, y_ = (x5_4.take ((ji36) : Int).toNat) := ⟨_, rfl⟩
           replace H : (if (y250.length : Int) > 0 then (if 0 ≤ (wrap64 ((y250.length : Int) - 1)) then (if (wrap64 ((y250.length : Int) - 1)) < (y250.length : Int) then (Xo.l1 kj27 (wrap64 (x3_1 + t243)) ji14 (y250.set ((wrap64 ((y250.length : Int) - 1)) : Int).toNat (wrap64 ((rd y250 (wrap64 ((y250.length : Int) - 1))) - 1))) x11_1 l0 (l0.length : Int) x11_1) else (none)) else (none)) else (Xo.l1 kj27 (wrap64 (x3_1 + t243)) ji14 y250 x11_1 l0 (l0.length : Int) x11_1)) = some (r1, r2, r3) := by first | (rw [hy250]; with_reducible exact H) | (have H2_ := (Option.bind_some _ _).symm.trans H; rw [hy250]; with_reducible exact H2_) | (have H2_ := (Option.bind_some _ _).symm.trans H; with_reducible exact H2_) | with_reducible exact H | (rw [hy250]; exact H) | exact H
           have Ny250 := zq hy250
           clear hy250
           refine yt H ?_ ?_ <;> clear H <;> rintro c39 H
           ·have c39b0 : decide (0 < (y250.length : Int)) = false := decide_eq_false c39
            have c39b1 : decide (0 < y250.length) = false := decide_eq_false J35
            clear c39
            have H' := zq H
            clear H
            obtain ⟨Ao48, co48, eo48⟩ := Kd.R_slice HO_5.out
            subst eo48
            have q49 : ((ji36) : Int) ≤ ((x5_4.length : Int) : Int) := of_decide_eq_true J3
            obtain ⟨i049, hi049, _, hsz49, _⟩ := info_parts info3
            have hcut49 := cut_to (P := Tryd.prog) 29 3 .i64 Tryd.underlying29 hi049 Ao48 x5_4.length co48 (ji36) (of_decide_eq_true J3) q49 (Kd.R_reads' HO_5.out).2.1
            have hr49 := Kd.R_take (m := ((ji36) : Int).toNat) HO_5.out J35
            have hy49 : y250.length = ((ji36) : Int).toNat := (by rw [Ny250.out, List.length_take]; omega)
            rw [← Ny250.out] at hr49
            rw [← hy49] at hr49 hcut49
            clear hy49 hi049 hsz49 HO_5
            have HO252 := zq hr49
            clear hr49
            replace q49 := eq_true q49
            go_wp2
            go_roundg kj27
            case measure => have := HK1.out; have := HJ5.out; have := HJ14.out; have := HK4.out; have := HJ27.out; omega
            case rel => exact ⟨(y250), H', ⟨J127⟩, ⟨J159⟩, ⟨J25⟩, ⟨J15⟩⟩
           have c39b0 := decide_eq_true c39
           have c39b1 : decide (0 < y250.length) = true := decide_eq_true J35
           clear c39
           obtain ⟨ji40, hji40⟩ : ∃ j_ : Int, (wrap64 ((y250.length : Int) - 1)) = j_ := ⟨_, rfl⟩
           replace H : (if 0 ≤ (ji40) then (if (ji40) < (y250.length : Int) then (Xo.l1 kj27 (wrap64 (x3_1 + t243)) ji14 (y250.set ((ji40) : Int).toNat (wrap64 ((rd y250 (ji40)) - 1))) x11_1 l0 (l0.length : Int) x11_1) else (none)) else (none)) = some (r1, r2, r3) := by first | (rw [hji40] at H; exact H) | (simp only [hji40] at H ⊢; exact H)
           have hji40w : (IntKind.i64.wrap ((y250.length : Int) - 1)) = ji40 := (Xbd _).trans hji40
           refine yj H ?_; clear H; intro c41b0 H
           refine yj H ?_; clear H; intro c42b0 H
           obtain ⟨y254, hy254⟩ : ∃ y_ : List Int, y_ = (y250.set ((ji40) : Int).toNat (wrap64 ((rd y250 (ji40)) - 1))) := ⟨_, rfl⟩
           replace H : (Xo.l1 kj27 (wrap64 (x3_1 + t243)) ji14 y254 x11_1 l0 (l0.length : Int) x11_1) = some (r1, r2, r3) := by first | (rw [hy254]; with_reducible exact H) | (have H2_ := (Option.bind_some _ _).symm.trans H; rw [hy254]; with_reducible exact H2_) | (have H2_ := (Option.bind_some _ _).symm.trans H; with_reducible exact H2_) | with_reducible exact H | (rw [hy254]; exact H) | exact H
           have Ny254 := zq hy254
           clear hy254
           have H' := zq H
           clear H
           obtain ⟨Ao44, co44, eo44⟩ := Kd.R_slice HO_5.out
           subst eo44
           have q45 : ((ji36) : Int) ≤ ((x5_4.length : Int) : Int) := of_decide_eq_true J3
           obtain ⟨i045, hi045, _, hsz45, _⟩ := info_parts info3
           have hcut45 := cut_to (P := Tryd.prog) 29 3 .i64 Tryd.underlying29 hi045 Ao44 x5_4.length co44 (ji36) (of_decide_eq_true J3) q45 (Kd.R_reads' HO_5.out).2.1
           have hr45 := Kd.R_take (m := ((ji36) : Int).toNat) HO_5.out J35
           have hy45 : y250.length = ((ji36) : Int).toNat := (by rw [Ny250.out, List.length_take]; omega)
           rw [← Ny250.out] at hr45
           rw [← hy45] at hr45 hcut45
           clear hy45 hi045 hsz45 HO_5
           have HO252 := zq hr45
           clear hr45
           replace q45 := eq_true q45
           have p253 : 0 ≤ ((ji40) : Int) := of_decide_eq_true J3
           have q253 : (ji40) < (y250.length : Int) := of_decide_eq_true J3
           obtain ⟨ad253, e253, hx253_0⟩ := Kd.at_int (Kd.R_reads' HO252.out).2.2 (ji40) p253 q253
           cases e253
           replace p253 := eq_true p253
           replace q253 := eq_true q253
           have p43 : 0 ≤ ((ji40) : Int) := of_decide_eq_true J3
           have q43 : ((ji40) : Int) < ((y250.length : Int) : Int) := of_decide_eq_true J3
           obtain ⟨go43, co43, eo43, gb43, gl43, cl43, HG43⟩ := Kd.R_form HO252.out J35
           (first | cases eo43 | (injection eo43 with ea_ en_ ec_; (first | subst ea_ | (injection ea_ with ea_; subst ea_)); subst ec_; clear en_))
           have GB43 := zq gb43
           have GG43 := zq HG43
           clear gb43 gl43 HG43
           (first | simp only [Xdb] at hx253_0 | skip)
           obtain ⟨hx43_0, hf43_0⟩ := Kd.R_celln 0 HO252.out ((ji40) : Int) p43 q43
           replace p43 := eq_true p43
           replace q43 := eq_true q43
           have HP46 := Kd.R_putg HO252.out ((ji40) : Int) (wrap64 ((rd y250 (ji40)) - 1))
           go_wp2_with (first | ((with_reducible refine Xce (t := 3) (p := 82) rfl ?_); refine Xb3 (t := 3) (p := 82) (v := ?vo_w47) (w1 := (wc.setCell ⟨go43, ((ji40) : Int).toNat, none⟩ (.int .i64 (wrap64 ((rd y250 (ji40)) - 1))))) ?hg ?ho ?hn ?hr ?_; (case ho => rfl); (case hg => rfl); (case hn => rfl); (case hr => first | (go_simp; done) | (go_simp; rfl)); intro w47 hw; have hg : wc.grownBy w47 (some go43) := (by rw [hw]; exact HP46.2); have hp_ : Kd.R (Kd.int .i64) 3 w47 w.heap.size (fun _ => True) (.slice (some ⟨go43, 0, none⟩) y250.length co44) y254 := (by rw [hw, Ny254.out]; exact HP46.1); clear HP46; replace BK242 := zq (Xb7 (g := gb242) (o := .cells #[.int .i64 ((Xa l0 x11_1).f0), .slice A241_1 ((Xa l0 x11_1).f1).length c241_1, .slice A241_2 ((Xa l0 x11_1).f2).length c241_2, .slice A241_3 ((Xa l0 x11_1).f3).length c241_3] 32 (0, 0)) (zk BK242.out) hg (Kd.R_ne HO252.out BK242.out J11)); replace HO252 := zq (hp_); replace HB := zq ((by rw [hw]; exact X2 (HB.out) GB43.out : Below w.heap.size w w47)); clear hg hw hp_))
           go_roundg kj27
           case measure => have := HK1.out; have := HJ5.out; have := HJ14.out; have := HK4.out; have := HJ27.out; omega
           case rel => exact ⟨(y254), H', ⟨J127⟩, ⟨J159⟩, ⟨J25⟩, ⟨J15⟩⟩
end Go.Proofs.YtfjhiiaahbjaiaaDoor.HSystemFirst
