/- What the Go functions of this claim answer, told as functions of numbers and lists, and that other memory stays as it was: words and walks, shortened by a program. -/
import Derived.Test.YtfjhiiaahbjaiaaDoorSSystemFirstx0
import Derived.Test.YtfjhiiaahbjaiaaDoorSSystemFirstx8
import Derived.Test.YtfjhiiaahbjaiaaDoorSSystemFirstx12
namespace Go.Proofs.YtfjhiiaahbjaiaaDoor.HSystemFirst
open Go.RowKit Go.Proofs.YtfjhiiaahbjaiaaDoorW.PrintWords Go.Proofs.YtfjhiiaahbjaiaaDoorW.PrintLast Go.Proofs.YtfjhiiaahbjaiaaDoorW.PrintMore
attribute [local go_sem] Xby Xbw Xcb Xca Xbp Xbo Xbx Xbv
set_option linter.unusedVariables false
set_option linter.unusedSimpArgs false
def Xn.l0 : Nat → List Int → Int → Int → Option (Int)
 | 0, _, _, _ => none
 | k + 1, x0, x7, x8 => if x8 < x7 then (if 0 ≤ x8 then (if x8 < (x0.length : Int) then ((Xci.f (rd x0 x8)).bind fun t286 => (if t286 = true then (some x8) else (Xn.l0 k x0 x7 (wrap64 (x8 + 1))))) else (none)) else (none)) else (some (-1))
def Xn.f (k : Nat) (l0 : List Int) : Option (Int) := Xn.l0 k l0 (l0.length : Int) 0
theorem Xn.mono_l : ∀ k, (∀ y0 y1 y2, LeO (Xn.l0 k y0 y1 y2) (Xn.l0 (k + 1) y0 y1 y2))
 | 0 => fun _ _ _ r h => by simp [Xn.l0] at h
 | k + 1 => by
  have ih0 := Xn.mono_l k
  ·intro y0 y1 y2
   unfold Xn.l0
   exact mz0
theorem Xn.mono : ∀ a0 k, LeO (Xn.f k a0) (Xn.f (k + 1) a0) := by
 intro a0 k
 have ih0 := Xn.mono_l k
 unfold Xn.f
 exact mz0
set_option maxHeartbeats 8000000 in
set_option maxRecDepth 100000 in
theorem Xn.calls (k : Nat) (A0 : Option Addr) (c0 : Nat) (l0 : List Int) (r : Int) (w : World) (hr0 : Kd.C (Kd.int .i64) w A0 l0.length l0) (hc0 : l0.length ≤ c0) (h : Xn.f k l0 = some r) :
  Calls Tryd.prog 67 #[.slice A0 l0.length c0, .func (.func 44) #[] #[]] w fun e w' => e = .returned (.int .i64 r) ∧ Drawn0 w w' := by
 have HR0 := zq hr0
 have HC0 := zq hc0
 clear hr0 hc0
 unfold Xn.f at h
 have H := h
 clear h
 have H' := zq H
 clear H
 go_enter Tryd.func67, Tryd.ntmps67
 go_wp2
 go_loopg [8] k (fun kq v8 w' => ∃ (x8_1 : Int), v8 = .int .i64 x8_1 ∧ Aside0 (Xn.l0 kq l0 (l0.length : Int) x8_1 = some r) ∧ Aside0 (kq ≤ k) ∧ Drawn0 w w')
 case atStart => exact ⟨(0), J4, H', ⟨Nat.le_refl _⟩, J5⟩
 case round =>
  clear H'
  obtain ⟨x8_1, rfl, HA, HK1, ⟨m1, rfl⟩⟩ := hrel
  cases gk with
  | zero => exact absurd HA.out (by simp [Xn.l0])
  | succ k1 =>
   have H := HA.out
   clear HA
   simp only [Xn.l0] at H
   refine yd H ?_ ?_ <;> clear H <;> rintro c2b0 H
   ·obtain rfl := yo H
    go_wp2
    go_ret
    exact ⟨J4, J5⟩
   refine yj H ?_; clear H; intro c3b0 H
   refine yj H ?_; clear H; intro c4b0 H
   refine yv H ?_; clear H; rintro t286 A5 H
   refine yC H ?_ ?_ <;> clear H <;> rintro rfl H
   ·obtain rfl := yo H
    have p285 : 0 ≤ (x8_1 : Int) := of_decide_eq_true J3
    have q285 : x8_1 < (l0.length : Int) := of_decide_eq_true J3
    obtain ⟨ad285, e285, hx285_0⟩ := Kd.at_int HR0.out x8_1 p285 q285
    cases e285
    replace p285 := eq_true p285
    replace q285 := eq_true q285
    go_wp2_with (first | ((with_reducible refine Xk (N := 16) rfl ?_); refine Xc2 (some 16) rfl rfl Tryd.func44 J8 rfl #[.int .i64 (rd l0 x8_1)] (.tmp 11) rfl rfl J1 ?_; (with_reducible refine (Xci.calls (rd l0 x8_1) true _ A5.out).mono ?_); rintro e w' ⟨rfl, ⟨nd, rfl⟩⟩; refine ⟨_, rfl, ?_⟩))
    go_ret
    exact ⟨J4, J5⟩
   have H' := zq H
   clear H
   have p285 : 0 ≤ (x8_1 : Int) := of_decide_eq_true J3
   have q285 : x8_1 < (l0.length : Int) := of_decide_eq_true J3
   obtain ⟨ad285, e285, hx285_0⟩ := Kd.at_int HR0.out x8_1 p285 q285
   cases e285
   replace p285 := eq_true p285
   replace q285 := eq_true q285
   go_wp2_with (first | ((with_reducible refine Xk (N := 16) rfl ?_); refine Xc2 (some 16) rfl rfl Tryd.func44 J8 rfl #[.int .i64 (rd l0 x8_1)] (.tmp 11) rfl rfl J1 ?_; (with_reducible refine (Xci.calls (rd l0 x8_1) false _ A5.out).mono ?_); rintro e w' ⟨rfl, ⟨nd, rfl⟩⟩; refine ⟨_, rfl, ?_⟩))
   go_roundg k1
   case measure => have := HK1.out; omega
   case rel => exact ⟨(wrap64 (x8_1 + 1)), J4, H', ⟨J86⟩, J5⟩
def Xac.f (k : Nat) (l0 : List Int) : Option (Bool) := (Xn.f k l0).bind fun t287 => (some (decide (t287 ≥ 0)))
theorem Xac.mono : ∀ a0 k, LeO (Xac.f k a0) (Xac.f (k + 1) a0) := by
 intro a0 k
 unfold Xac.f
 have im0 := @Xn.mono
 exact mz3
set_option maxHeartbeats 8000000 in
set_option maxRecDepth 100000 in
theorem Xac.calls (k : Nat) (A0 : Option Addr) (c0 : Nat) (l0 : List Int) (r : Bool) (w : World) (hr0 : Kd.C (Kd.int .i64) w A0 l0.length l0) (hc0 : l0.length ≤ c0) (h : Xac.f k l0 = some r) :
  Calls Tryd.prog 46 #[.slice A0 l0.length c0, .func (.func 44) #[] #[]] w fun e w' => e = .returned (.bool r) ∧ Drawn0 w w' := by
 have HR0 := zq hr0
 have HC0 := zq hc0
 clear hr0 hc0
 unfold Xac.f at h
 have H := h
 clear h
 refine yv H ?_; clear H; rintro t287 A2 H
 obtain rfl := yo H
 go_enter Tryd.func46, Tryd.ntmps46
 go_wp2_with (first | ((with_reducible refine Xg (f := 67) rfl ?_); refine Xt (some 7) rfl rfl Tryd.func67 J8 rfl #[.slice A0 l0.length c0, .func (.func 44) #[] #[]] rfl J1 ?_; (with_reducible refine (Xn.calls k _ _ l0 t287 _ ?side1 ?side2 A2.out).mono ?_); (case side1 => exact zc HR0.out); (case side2 => exact HC0.out); rintro e w' ⟨rfl, ⟨nd, rfl⟩⟩; refine ⟨_, rfl, ?_⟩))
 go_ret
 exact ⟨J4, J5⟩
def Xz.j0 : Nat → List Int → List (S40) → Bool → Option (Int × List Int × List Int × (List (S40)) × Bool)
 | 0, _, _, _ => none
 | k + 1, x0, x1, x30 => if x30 = true then (some (0, ([] : List Int), ([] : List Int), ([] : List (S40)), false)) else ((Xam.f x0).bind fun t292 => ((Xat.f k x1).bind fun bt296 => (if bt296.2 = true then (if (x1.length : Int) > 0 then ((Xac.f k bt296.1).bind fun t300 => (if t300 = true then (some (2, t292, bt296.1, ([] : List (S40)), true)) else (some (1, t292, bt296.1, ([] : List (S40)), true)))) else (some (2, t292, bt296.1, ([] : List (S40)), true))) else ((Xcs.f x1).bind fun t301 => (some (4, t292, ([] : List Int), t301, true))))))
def Xz.f (k : Nat) (l0 : List Int) (l1 : List (S40)) : Option (Int × List Int × List Int × (List (S40)) × Bool) := (X3.f k l0).bind fun bt289 => (if bt289.2 = true then (if bt289.1 = (l1.length : Int) then ((Xcj.f k l1).bind fun t291 => (Xz.j0 k l0 l1 t291)) else (Xz.j0 k l0 l1 true)) else (Xz.j0 k l0 l1 true))
theorem Xz.mono_l : ∀ k, (∀ y0 y1 y2, LeO (Xz.j0 k y0 y1 y2) (Xz.j0 (k + 1) y0 y1 y2))
 | 0 => fun _ _ _ r h => by simp [Xz.j0] at h
 | k + 1 => by
  have ih0 := Xz.mono_l k
  ·intro y0 y1 y2
   unfold Xz.j0
   have im0 := @Xcj.mono
   have im1 := @X3.mono
   have im2 := @Xac.mono
   have im3 := @Xat.mono
   exact mz5
theorem Xz.mono : ∀ a0 a1 k, LeO (Xz.f k a0 a1) (Xz.f (k + 1) a0 a1) := by
 intro a0 a1 k
 have ih0 := Xz.mono_l k
 unfold Xz.f
 have im0 := @Xcj.mono
 have im1 := @X3.mono
 have im2 := @Xac.mono
 have im3 := @Xat.mono
 exact mz5
set_option maxHeartbeats 8000000 in
set_option maxRecDepth 100000 in
theorem Xz.calls (k : Nat) (A0 : Option Addr) (c0 : Nat) (l0 : List Int) (A1 : Option Addr) (c1 : Nat) (l1 : List (S40)) (r1 : Int) (r2 : List Int) (r3 : List Int) (r4 : List (S40)) (r5 : Bool) (w : World) (hr0 : Kd.C (Kd.int .i64) w A0 l0.length l0) (hc0 : l0.length ≤ c0) (hr1 : Kd.C k40 w A1 l1.length l1) (hc1 : l1.length ≤ c1) (h : Xz.f k l0 l1 = some (r1, r2, r3, r4, r5)) :
  Calls Tryd.prog 23 #[.slice A0 l0.length c0, .slice A1 l1.length c1] w fun e w' => ∃ v1_ v2_ v3_ : Value, e = .returned (.tuple #[.agg #[.int .i64 r1, v1_, v2_, v3_], .bool r5]) ∧ Kd.R (Kd.int .i64) 3 w' w.heap.size (fun k_ => some k_ ≠ (v2_ : Value).ownBlock) v1_ r2 ∧ Kd.R (Kd.int .i64) 3 w' w.heap.size (fun k_ => some k_ ≠ (v1_ : Value).ownBlock) v2_ r3 ∧ Kd.R k40 40 w' w.heap.size (fun _ => True) v3_ r4 ∧ Below w.heap.size w w' := by
 have hu32 := Tryd.underlying32
 have HR0 := zq hr0
 have HC0 := zq hc0
 clear hr0 hc0
 have HR1 := zq hr1
 have HC1 := zq hc1
 clear hr1 hc1
 have HB := zq (Below.refl w.heap.size w)
 unfold Xz.f at h
 have H := h
 clear h
 refine yv H ?_; clear H; rintro ⟨t289, t290⟩ A3 H
 dsimp only at H
 have HC4 := zq H
 clear H
 go_enter Tryd.func23, Tryd.ntmps23
 go_upto_region 3 with (first | ((with_reducible refine Xk (N := 4) rfl ?_); (try (refine Xaz Xa5 ?_; dsimp only)); refine bxw 4 32 #[.int .i64 0, .slice none 0 0, .slice none 0 0, .slice none 0 0] ?_; intro gb288 hg w5 hbox hb; have BK288 := zq (hbox); have GE288 := zq ((J12 : w.heap.size ≤ gb288)); replace HB := zq (Xd J0 hb); clear hb hbox hg) | ((with_reducible refine Xg (f := 40) rfl ?_); refine Xt (some 15) rfl rfl Tryd.func40 J8 rfl #[.slice A0 l0.length c0] rfl J1 ?_; (with_reducible refine (X3.calls k _ _ l0 t289 t290 _ ?side1 ?side2 A3.out).mono ?_); (case side1 => exact zc (Kd.C_below HR0.out HB.out)); (case side2 => exact HC0.out); rintro e w' ⟨rfl, ⟨nd, rfl⟩⟩; refine ⟨_, rfl, ?_⟩))
 (try simp only [Act.put, List.setIfInBounds_toArray, List.set_cons_zero, List.set_cons_succ])
 go_cut [30] (fun v30 wc => ∃ (kq : Nat) (x30_3 : Bool), v30 = .bool x30_3 ∧ Aside0 (Xz.j0 kq l0 l1 x30_3 = some (r1, r2, r3, r4, r5)) ∧ Aside0 (kq ≤ k) ∧ Aside0 (wc.heap[gb288]? = some (.cells #[.int .i64 0, (.slice none 0 0), (.slice none 0 0), (.slice none 0 0)] 32 (0, 0))) ∧ Aside0 (Below w.heap.size w wc))
 case first =>
  have H := HC4.out
  clear HC4
  refine yB H ?_ ?_ <;> clear H <;> rintro rfl H
  ·have H' := zq H
   clear H
   go_wp2
   go_meet
   case rel => exact ⟨_, (true), J4, H', ⟨J31⟩, ⟨J110⟩, ⟨J65⟩⟩
  refine yE H ?_ ?_ <;> clear H <;> rintro ⟨c7b0, c7b1, c7⟩ H
  ·(first | rw [c7b0] | (simp only [Xbd, Xbh]; rw [c7b0]) | skip)
   have H' := zq H
   clear H
   go_wp2
   go_meet
   case rel => exact ⟨_, (true), J4, H', ⟨J31⟩, ⟨J110⟩, ⟨J65⟩⟩
  clear c7
  (first | rw [c7b0] | (simp only [Xbd, Xbh]; rw [c7b0]) | skip)
  refine yv H ?_; clear H; rintro t291 A8 H
  have H' := zq H
  clear H
  go_wp2_with (first | (go_at_call 41; (with_reducible refine (Xcj.calls k _ _ l1 t291 _ ?side1 ?side2 A8.out).mono ?_); (case side1 => exact zc (Kd.C_below HR1.out HB.out)); (case side2 => exact HC1.out); rintro e w9 ⟨rfl, hb⟩; replace BK288 := zq (Xh (zk BK288.out) hb); replace HB := zq (Xd (zs1 GE288.out) hb); (try clear hb); (try clear hk)))
  go_meet
  case rel => exact ⟨_, (t291), J4, H', ⟨J31⟩, ⟨J110⟩, ⟨J65⟩⟩
 case rest =>
  clear HC4
  try clear c1
  obtain ⟨kq, x30_3, rfl, HA, HJ3, BK288, HB⟩ := hcut
  cases kq with
  | zero => exact absurd HA.out (by simp [Xz.j0])
  | succ kj3 =>
   have H := HA.out
   clear HA
   simp only [Xz.j0] at H
   refine yC H ?_ ?_ <;> clear H <;> rintro rfl H
   ·obtain ⟨rfl, rfl, rfl, rfl, rfl⟩ := yp5 H
    obtain ⟨hcz11_0, hcz11_1, hcz11_2, hcz11_3, hfz11_0, hfz11_1, hfz11_2, hfz11_3⟩ := cz4 BK288.out
    go_wp2
    refine bodyPost_ret (Xa1 rfl _ _ gb288 32 #[.int .i64 0, .slice none 0 0, .slice none 0 0, .slice none 0 0] (0, 0) _ rfl (by (with_reducible repeat (first | refine Xc ?_ _ | refine Xe ?_ | refine Xb ?_ _)); refine Xj (cs := #[.int .i64 0, .slice none 0 0, .slice none 0 0, .slice none 0 0]) ?_ 3 _ rfl; (with_reducible repeat (first | refine Xc ?_ _ | refine Xe ?_ | refine Xb ?_ _)); refine Xj (cs := #[.int .i64 0, .slice none 0 0, .slice none 0 0, .slice none 0 0]) ?_ 2 _ rfl; (with_reducible repeat (first | refine Xc ?_ _ | refine Xe ?_ | refine Xb ?_ _)); refine Xj (cs := #[.int .i64 0, .slice none 0 0, .slice none 0 0, .slice none 0 0]) ?_ 1 _ rfl; (with_reducible repeat (first | refine Xc ?_ _ | refine Xe ?_ | refine Xb ?_ _)); refine Xj (cs := #[.int .i64 0, .slice none 0 0, .slice none 0 0, .slice none 0 0]) ?_ 0 _ rfl; (with_reducible repeat (first | refine Xc ?_ _ | refine Xe ?_ | refine Xb ?_ _)); exact BK288.out) Tryd.underlying32 rfl J8) rfl ?_
    exact ⟨_, _, _, J2, J9, J9, J9, J65⟩
   refine yv H ?_; clear H; rintro t292 A12 H
   refine yv H ?_; clear H; rintro ⟨t296, t297⟩ A13 H
   dsimp only at H
   refine yB H ?_ ?_ <;> clear H <;> rintro rfl H
   ·refine yv H ?_; clear H; rintro t301 A45 H
    obtain ⟨rfl, rfl, rfl, rfl, rfl⟩ := yp5 H
    go_wp2_with (first | ((with_reducible refine Xg (f := 42) rfl ?_); refine Xt (some 33) rfl rfl Tryd.func42 J8 rfl #[.slice A0 l0.length c0] rfl J1 ?_; (with_reducible refine (Xam.calls _ _ l0 t292 _ ?side1 ?side2 A12.out).mono ?_); (case side1 => exact zc (Kd.C_below HR0.out HB.out)); (case side2 => exact HC0.out); rintro e w46 ⟨v293, rfl, ho0, hb⟩; refine ⟨_, rfl, ?_⟩; have HO294 := zq (Kd.R_lower ho0 (Xf (zs1 GE288.out))); replace BK288 := zq (Xh (zk BK288.out) hb); replace HB := zq (Xd (zs1 GE288.out) hb); (try clear hb); (try clear hk); (try clear ho0); obtain ⟨Ao47, co47, eo47⟩ := Kd.R_slice HO294.out; subst eo47) | ((with_reducible refine Xk (N := 9) rfl ?_); (try (refine Xaz Xa5 ?_; dsimp only)); refine bxw 9 32 #[.int .i64 0, .slice none 0 0, .slice none 0 0, .slice none 0 0] ?_; intro gb295 hg w48 hbox hb; replace HO294 := zq (Kd.R_below (zr HO294.out) hb); have BK295 := zq (hbox); have GE295 := zq ((J139 : w.heap.size ≤ gb295)); replace HB := zq (Xd (zs1 GE288.out) hb); have NB288_295 := zq ((J82 : gb288 ≠ gb295)); have NB295_288 := zq ((J83 : gb295 ≠ gb288)); replace BK288 := zq (Xh (zk BK288.out) hb); clear hb hbox hg; have hnb49 := NB295_288.out; have hnc49 := NB288_295.out; obtain ⟨hcz50_0, hcz50_1, hcz50_2, hcz50_3, hfz50_0, hfz50_1, hfz50_2, hfz50_3⟩ := cz4 BK295.out) | ((with_reducible refine Xg (f := 43) rfl ?_); refine Xt (some 37) rfl rfl Tryd.func43 J8 rfl #[.slice A1 l1.length c1] rfl J1 ?_; (with_reducible refine (Xat.calls kj3 _ _ l1 t296 false _ ?side1 ?side2 A13.out).mono ?_); (case side1 => exact Kd.C_below HR1.out (zs2 GE288.out GE295.out)); (case side2 => exact HC1.out); rintro e w51 ⟨v298, rfl, ho0, hb⟩; refine ⟨_, rfl, ?_⟩; replace HO294 := zq (Kd.R_elder' (by (with_reducible repeat (first | apply Kd.R_alloc | apply Kd.R_drewN | apply Kd.R_drew)); exact (Kd.R_mono (Kd.R_far (p := ⟨gb295, 3, none⟩) (Kd.R_far (p := ⟨gb295, 2, none⟩) (Kd.R_far (p := ⟨gb295, 1, none⟩) (Kd.R_far (p := ⟨gb295, 0, none⟩) (Kd.R_types HO294.out BK295.out J11) (fun _ hk => hk.2) (.int .i64 2)) (fun _ hk => hk.2) (.slice Ao47 t292.length co47)) (fun _ hk => hk.2) (.slice none 0 0)) (fun _ hk => hk.2) (.slice none 0 0)) (fun _ h_ => h_.1))) (Kd.R_base ho0) hb); replace BK288 := zq (Xh (g := gb288) (o := .cells #[.int .i64 0, .slice none 0 0, .slice none 0 0, .slice none 0 0] 32 (0, 0)) J16 hb); replace BK295 := zq (Xh (g := gb295) (o := .cells #[.int .i64 2, .slice Ao47 t292.length co47, .slice none 0 0, .slice none 0 0] 32 (0, 0)) (by (with_reducible repeat (first | refine Xc ?_ _ | refine Xe ?_ | refine Xb ?_ _)); refine Xj (cs := #[.int .i64 2, .slice Ao47 t292.length co47, .slice none 0 0, .slice none 0 0]) ?_ 3 _ rfl; (with_reducible repeat (first | refine Xc ?_ _ | refine Xe ?_ | refine Xb ?_ _)); refine Xj (cs := #[.int .i64 2, .slice Ao47 t292.length co47, .slice none 0 0, .slice none 0 0]) ?_ 2 _ rfl; (with_reducible repeat (first | refine Xc ?_ _ | refine Xe ?_ | refine Xb ?_ _)); refine Xj (cs := #[.int .i64 2, .slice none 0 0, .slice none 0 0, .slice none 0 0]) ?_ 1 _ rfl; (with_reducible repeat (first | refine Xc ?_ _ | refine Xe ?_ | refine Xb ?_ _)); refine Xj (cs := #[.int .i64 0, .slice none 0 0, .slice none 0 0, .slice none 0 0]) ?_ 0 _ rfl; (with_reducible repeat (first | refine Xc ?_ _ | refine Xe ?_ | refine Xb ?_ _)); exact BK295.out) hb); replace HB := zq (Xd (zs2 GE288.out GE295.out) hb); (try clear hb); (try clear hk); (try clear ho0)) | ((with_reducible refine Xg (f := 45) rfl ?_); refine Xt (some 44) rfl rfl Tryd.func45 J8 rfl #[.slice A1 l1.length c1] rfl J1 ?_; (with_reducible refine (Xcs.calls _ _ l1 t301 _ ?side1 ?side2 A45.out).mono ?_); (case side1 => exact zc (Kd.C_below HR1.out HB.out)); (case side2 => exact HC1.out); rintro e w52 ⟨v302, rfl, ho0, hb⟩; refine ⟨_, rfl, ?_⟩; replace HO294 := zq (Kd.R_below (zr HO294.out) hb); have HO303 := zq (Kd.R_lower ho0 (Xf (zs2 GE288.out GE295.out))); replace BK288 := zq (Xh (zk BK288.out) hb); replace BK295 := zq (Xh (zk BK295.out) hb); replace HB := zq (Xd (zs2 GE288.out GE295.out) hb); (try clear hb); (try clear hk); (try clear ho0); obtain ⟨hcz53_0, hcz53_1, hcz53_2, hcz53_3, hfz53_0, hfz53_1, hfz53_2, hfz53_3⟩ := cz4 BK295.out; obtain ⟨Ao54, co54, eo54⟩ := Kd.R_slice HO303.out; subst eo54; obtain ⟨hcz55_0, hcz55_1, hcz55_2, hcz55_3, hfz55_0, hfz55_1, hfz55_2, hfz55_3⟩ := cz4 BK288.out))
    refine bodyPost_ret (Xa1 rfl _ _ gb288 32 #[.int .i64 4, .slice Ao47 t292.length co47, .slice none 0 0, .slice Ao54 t301.length co54] (0, 0) _ rfl (by (with_reducible repeat (first | refine Xc ?_ _ | refine Xe ?_ | refine Xb ?_ _)); refine Xj (cs := #[.int .i64 4, .slice Ao47 t292.length co47, .slice none 0 0, .slice none 0 0]) ?_ 3 _ rfl; (with_reducible repeat (first | refine Xc ?_ _ | refine Xe ?_ | refine Xb ?_ _)); refine Xj (cs := #[.int .i64 4, .slice Ao47 t292.length co47, .slice none 0 0, .slice none 0 0]) ?_ 2 _ rfl; (with_reducible repeat (first | refine Xc ?_ _ | refine Xe ?_ | refine Xb ?_ _)); refine Xj (cs := #[.int .i64 4, .slice none 0 0, .slice none 0 0, .slice none 0 0]) ?_ 1 _ rfl; (with_reducible repeat (first | refine Xc ?_ _ | refine Xe ?_ | refine Xb ?_ _)); refine Xj (cs := #[.int .i64 0, .slice none 0 0, .slice none 0 0, .slice none 0 0]) ?_ 0 _ rfl; (with_reducible repeat (first | refine Xc ?_ _ | refine Xe ?_ | refine Xb ?_ _)); refine Xab ?_ NB288_295.out _; (with_reducible repeat (first | refine Xc ?_ _ | refine Xe ?_ | refine Xb ?_ _)); refine Xab ?_ NB288_295.out _; (with_reducible repeat (first | refine Xc ?_ _ | refine Xe ?_ | refine Xb ?_ _)); exact BK288.out) Tryd.underlying32 rfl J8) rfl ?_
    exact ⟨_, _, _, J2, by (with_reducible repeat (first | apply Kd.R_alloc | apply Kd.R_drewN | apply Kd.R_drew)); exact Kd.R_mono (Kd.R_far (p := ⟨gb288, 3, none⟩) (Kd.R_far (p := ⟨gb288, 2, none⟩) (Kd.R_far (p := ⟨gb288, 1, none⟩) (Kd.R_far (p := ⟨gb288, 0, none⟩) (Kd.R_far (p := ⟨gb295, 3, none⟩) (Kd.R_far (p := ⟨gb295, 0, none⟩) (Kd.R_types (Kd.R_types HO294.out BK295.out J11) BK288.out J11) (fun _ hk => hk.1.2) (.int .i64 4)) (fun _ hk => hk.1.2) (.slice Ao54 t301.length co54)) (fun _ hk => hk.2) (.int .i64 4)) (fun _ hk => hk.2) (.slice Ao47 t292.length co47)) (fun _ hk => hk.2) (.slice none 0 0)) (fun _ hk => hk.2) (.slice Ao54 t301.length co54)) (fun _ hk => (by simp [Value.ownBlock])), J9, by (with_reducible repeat (first | apply Kd.R_alloc | apply Kd.R_drewN | apply Kd.R_drew)); exact Kd.R_mono (Kd.R_far (p := ⟨gb288, 3, none⟩) (Kd.R_far (p := ⟨gb288, 2, none⟩) (Kd.R_far (p := ⟨gb288, 1, none⟩) (Kd.R_far (p := ⟨gb288, 0, none⟩) (Kd.R_far (p := ⟨gb295, 3, none⟩) (Kd.R_far (p := ⟨gb295, 0, none⟩) (Kd.R_types (Kd.R_types HO303.out BK295.out J11) BK288.out J11) (fun _ hk => hk.1.2) (.int .i64 4)) (fun _ hk => hk.1.2) (.slice Ao54 t301.length co54)) (fun _ hk => hk.2) (.int .i64 4)) (fun _ hk => hk.2) (.slice Ao47 t292.length co47)) (fun _ hk => hk.2) (.slice none 0 0)) (fun _ hk => hk.2) (.slice Ao54 t301.length co54)) (fun _ hk => trivial), J55⟩
   refine yt H ?_ ?_ <;> clear H <;> rintro c15 H
   ·have c15b0 : decide (0 < (l1.length : Int)) = false := decide_eq_false c15
    have c15b1 : decide (0 < l1.length) = false := decide_eq_false J35
    clear c15
    obtain ⟨rfl, rfl, rfl, rfl, rfl⟩ := yp5 H
    go_wp2_with (first | ((with_reducible refine Xg (f := 42) rfl ?_); refine Xt (some 33) rfl rfl Tryd.func42 J8 rfl #[.slice A0 l0.length c0] rfl J1 ?_; (with_reducible refine (Xam.calls _ _ l0 t292 _ ?side1 ?side2 A12.out).mono ?_); (case side1 => exact zc (Kd.C_below HR0.out HB.out)); (case side2 => exact HC0.out); rintro e w36 ⟨v293, rfl, ho0, hb⟩; refine ⟨_, rfl, ?_⟩; have HO294 := zq (Kd.R_lower ho0 (Xf (zs1 GE288.out))); replace BK288 := zq (Xh (zk BK288.out) hb); replace HB := zq (Xd (zs1 GE288.out) hb); (try clear hb); (try clear hk); (try clear ho0); obtain ⟨Ao37, co37, eo37⟩ := Kd.R_slice HO294.out; subst eo37) | ((with_reducible refine Xk (N := 9) rfl ?_); (try (refine Xaz Xa5 ?_; dsimp only)); refine bxw 9 32 #[.int .i64 0, .slice none 0 0, .slice none 0 0, .slice none 0 0] ?_; intro gb295 hg w38 hbox hb; replace HO294 := zq (Kd.R_below (zr HO294.out) hb); have BK295 := zq (hbox); have GE295 := zq ((J139 : w.heap.size ≤ gb295)); replace HB := zq (Xd (zs1 GE288.out) hb); have NB288_295 := zq ((J82 : gb288 ≠ gb295)); have NB295_288 := zq ((J83 : gb295 ≠ gb288)); replace BK288 := zq (Xh (zk BK288.out) hb); clear hb hbox hg; have hnb39 := NB295_288.out; have hnc39 := NB288_295.out; obtain ⟨hcz40_0, hcz40_1, hcz40_2, hcz40_3, hfz40_0, hfz40_1, hfz40_2, hfz40_3⟩ := cz4 BK295.out) | ((with_reducible refine Xg (f := 43) rfl ?_); refine Xt (some 37) rfl rfl Tryd.func43 J8 rfl #[.slice A1 l1.length c1] rfl J1 ?_; (with_reducible refine (Xat.calls kj3 _ _ l1 t296 true _ ?side1 ?side2 A13.out).mono ?_); (case side1 => exact Kd.C_below HR1.out (zs2 GE288.out GE295.out)); (case side2 => exact HC1.out); rintro e w41 ⟨v298, rfl, ho0, hb⟩; refine ⟨_, rfl, ?_⟩; have HO299 := zq (Kd.R_lower (Kd.R_new' ho0 (Kd.R_lt J73)) (Xf (zs2 GE288.out GE295.out))); replace HO294 := zq (Kd.R_elder' J73 (Kd.R_base ho0) hb); replace BK288 := zq (Xh (g := gb288) (o := .cells #[.int .i64 0, .slice none 0 0, .slice none 0 0, .slice none 0 0] 32 (0, 0)) J16 hb); replace BK295 := zq (Xh (g := gb295) (o := .cells #[.int .i64 2, .slice Ao37 t292.length co37, .slice none 0 0, .slice none 0 0] 32 (0, 0)) (by (with_reducible repeat (first | refine Xc ?_ _ | refine Xe ?_ | refine Xb ?_ _)); refine Xj (cs := #[.int .i64 2, .slice Ao37 t292.length co37, .slice none 0 0, .slice none 0 0]) ?_ 3 _ rfl; (with_reducible repeat (first | refine Xc ?_ _ | refine Xe ?_ | refine Xb ?_ _)); refine Xj (cs := #[.int .i64 2, .slice Ao37 t292.length co37, .slice none 0 0, .slice none 0 0]) ?_ 2 _ rfl; (with_reducible repeat (first | refine Xc ?_ _ | refine Xe ?_ | refine Xb ?_ _)); refine Xj (cs := #[.int .i64 2, .slice none 0 0, .slice none 0 0, .slice none 0 0]) ?_ 1 _ rfl; (with_reducible repeat (first | refine Xc ?_ _ | refine Xe ?_ | refine Xb ?_ _)); refine Xj (cs := #[.int .i64 0, .slice none 0 0, .slice none 0 0, .slice none 0 0]) ?_ 0 _ rfl; (with_reducible repeat (first | refine Xc ?_ _ | refine Xe ?_ | refine Xb ?_ _)); exact BK295.out) hb); replace HB := zq (Xd (zs2 GE288.out GE295.out) hb); (try clear hb); (try clear hk); (try clear ho0); obtain ⟨Ao42, co42, eo42⟩ := Kd.R_slice HO299.out; subst eo42; obtain ⟨hcz43_0, hcz43_1, hcz43_2, hcz43_3, hfz43_0, hfz43_1, hfz43_2, hfz43_3⟩ := cz4 BK295.out; obtain ⟨hcz44_0, hcz44_1, hcz44_2, hcz44_3, hfz44_0, hfz44_1, hfz44_2, hfz44_3⟩ := cz4 BK288.out))
    refine bodyPost_ret (Xa1 rfl _ _ gb288 32 #[.int .i64 2, .slice Ao37 t292.length co37, .slice Ao42 t296.length co42, .slice none 0 0] (0, 0) _ rfl (by (with_reducible repeat (first | refine Xc ?_ _ | refine Xe ?_ | refine Xb ?_ _)); refine Xj (cs := #[.int .i64 2, .slice Ao37 t292.length co37, .slice Ao42 t296.length co42, .slice none 0 0]) ?_ 3 _ rfl; (with_reducible repeat (first | refine Xc ?_ _ | refine Xe ?_ | refine Xb ?_ _)); refine Xj (cs := #[.int .i64 2, .slice Ao37 t292.length co37, .slice none 0 0, .slice none 0 0]) ?_ 2 _ rfl; (with_reducible repeat (first | refine Xc ?_ _ | refine Xe ?_ | refine Xb ?_ _)); refine Xj (cs := #[.int .i64 2, .slice none 0 0, .slice none 0 0, .slice none 0 0]) ?_ 1 _ rfl; (with_reducible repeat (first | refine Xc ?_ _ | refine Xe ?_ | refine Xb ?_ _)); refine Xj (cs := #[.int .i64 0, .slice none 0 0, .slice none 0 0, .slice none 0 0]) ?_ 0 _ rfl; (with_reducible repeat (first | refine Xc ?_ _ | refine Xe ?_ | refine Xb ?_ _)); refine Xab ?_ NB288_295.out _; (with_reducible repeat (first | refine Xc ?_ _ | refine Xe ?_ | refine Xb ?_ _)); exact BK288.out) Tryd.underlying32 rfl J8) rfl ?_
    exact ⟨_, _, _, J2, by (with_reducible repeat (first | apply Kd.R_alloc | apply Kd.R_drewN | apply Kd.R_drew)); exact Kd.R_mono (Kd.R_far (p := ⟨gb288, 3, none⟩) (Kd.R_far (p := ⟨gb288, 2, none⟩) (Kd.R_far (p := ⟨gb288, 1, none⟩) (Kd.R_far (p := ⟨gb288, 0, none⟩) (Kd.R_far (p := ⟨gb295, 2, none⟩) (Kd.R_types (Kd.R_types HO294.out BK295.out J11) BK288.out J11) (fun _ hk => hk.1.2) (.slice Ao42 t296.length co42)) (fun _ hk => hk.2) (.int .i64 2)) (fun _ hk => hk.2) (.slice Ao37 t292.length co37)) (fun _ hk => hk.2) (.slice Ao42 t296.length co42)) (fun _ hk => hk.2) (.slice none 0 0)) (fun _ hk => by first | exact hk.1.1.2 | exact hk.1.1), by (with_reducible repeat (first | apply Kd.R_alloc | apply Kd.R_drewN | apply Kd.R_drew)); exact Kd.R_mono (Kd.R_far (p := ⟨gb288, 3, none⟩) (Kd.R_far (p := ⟨gb288, 2, none⟩) (Kd.R_far (p := ⟨gb288, 1, none⟩) (Kd.R_far (p := ⟨gb288, 0, none⟩) (Kd.R_far (p := ⟨gb295, 2, none⟩) (Kd.R_types (Kd.R_types HO299.out BK295.out J11) BK288.out J11) (fun _ hk => hk.1.2) (.slice Ao42 t296.length co42)) (fun _ hk => hk.2) (.int .i64 2)) (fun _ hk => hk.2) (.slice Ao37 t292.length co37)) (fun _ hk => hk.2) (.slice Ao42 t296.length co42)) (fun _ hk => hk.2) (.slice none 0 0)) (fun _ hk => by first | exact hk.1.1.2 | exact hk.1.1), J9, J55⟩
   have c15b0 := decide_eq_true c15
   have c15b1 : decide (0 < l1.length) = true := decide_eq_true J35
   clear c15
   refine yv H ?_; clear H; rintro t300 A16 H
   refine yC H ?_ ?_ <;> clear H <;> rintro rfl H
   ·obtain ⟨rfl, rfl, rfl, rfl, rfl⟩ := yp5 H
    go_wp2_with (first | ((with_reducible refine Xg (f := 42) rfl ?_); refine Xt (some 33) rfl rfl Tryd.func42 J8 rfl #[.slice A0 l0.length c0] rfl J1 ?_; (with_reducible refine (Xam.calls _ _ l0 t292 _ ?side1 ?side2 A12.out).mono ?_); (case side1 => exact zc (Kd.C_below HR0.out HB.out)); (case side2 => exact HC0.out); rintro e w18 ⟨v293, rfl, ho0, hb⟩; refine ⟨_, rfl, ?_⟩; have HO294 := zq (Kd.R_lower ho0 (Xf (zs1 GE288.out))); replace BK288 := zq (Xh (zk BK288.out) hb); replace HB := zq (Xd (zs1 GE288.out) hb); (try clear hb); (try clear hk); (try clear ho0); obtain ⟨Ao19, co19, eo19⟩ := Kd.R_slice HO294.out; subst eo19) | ((with_reducible refine Xk (N := 9) rfl ?_); (try (refine Xaz Xa5 ?_; dsimp only)); refine bxw 9 32 #[.int .i64 0, .slice none 0 0, .slice none 0 0, .slice none 0 0] ?_; intro gb295 hg w20 hbox hb; replace HO294 := zq (Kd.R_below (zr HO294.out) hb); have BK295 := zq (hbox); have GE295 := zq ((J139 : w.heap.size ≤ gb295)); replace HB := zq (Xd (zs1 GE288.out) hb); have NB288_295 := zq ((J82 : gb288 ≠ gb295)); have NB295_288 := zq ((J83 : gb295 ≠ gb288)); replace BK288 := zq (Xh (zk BK288.out) hb); clear hb hbox hg; have hnb21 := NB295_288.out; have hnc21 := NB288_295.out; obtain ⟨hcz22_0, hcz22_1, hcz22_2, hcz22_3, hfz22_0, hfz22_1, hfz22_2, hfz22_3⟩ := cz4 BK295.out) | ((with_reducible refine Xg (f := 43) rfl ?_); refine Xt (some 37) rfl rfl Tryd.func43 J8 rfl #[.slice A1 l1.length c1] rfl J1 ?_; (with_reducible refine (Xat.calls kj3 _ _ l1 t296 true _ ?side1 ?side2 A13.out).mono ?_); (case side1 => exact Kd.C_below HR1.out (zs2 GE288.out GE295.out)); (case side2 => exact HC1.out); rintro e w23 ⟨v298, rfl, ho0, hb⟩; refine ⟨_, rfl, ?_⟩; have HO299 := zq (Kd.R_lower (Kd.R_new' ho0 (Kd.R_lt J74)) (Xf (zs2 GE288.out GE295.out))); replace HO294 := zq (Kd.R_elder' J74 (Kd.R_base ho0) hb); replace BK288 := zq (Xh (g := gb288) (o := .cells #[.int .i64 0, .slice none 0 0, .slice none 0 0, .slice none 0 0] 32 (0, 0)) J16 hb); replace BK295 := zq (Xh (g := gb295) (o := .cells #[.int .i64 2, .slice Ao19 t292.length co19, .slice none 0 0, .slice none 0 0] 32 (0, 0)) (by (with_reducible repeat (first | refine Xc ?_ _ | refine Xe ?_ | refine Xb ?_ _)); refine Xj (cs := #[.int .i64 2, .slice Ao19 t292.length co19, .slice none 0 0, .slice none 0 0]) ?_ 3 _ rfl; (with_reducible repeat (first | refine Xc ?_ _ | refine Xe ?_ | refine Xb ?_ _)); refine Xj (cs := #[.int .i64 2, .slice Ao19 t292.length co19, .slice none 0 0, .slice none 0 0]) ?_ 2 _ rfl; (with_reducible repeat (first | refine Xc ?_ _ | refine Xe ?_ | refine Xb ?_ _)); refine Xj (cs := #[.int .i64 2, .slice none 0 0, .slice none 0 0, .slice none 0 0]) ?_ 1 _ rfl; (with_reducible repeat (first | refine Xc ?_ _ | refine Xe ?_ | refine Xb ?_ _)); refine Xj (cs := #[.int .i64 0, .slice none 0 0, .slice none 0 0, .slice none 0 0]) ?_ 0 _ rfl; (with_reducible repeat (first | refine Xc ?_ _ | refine Xe ?_ | refine Xb ?_ _)); exact BK295.out) hb); replace HB := zq (Xd (zs2 GE288.out GE295.out) hb); (try clear hb); (try clear hk); (try clear ho0); obtain ⟨Ao24, co24, eo24⟩ := Kd.R_slice HO299.out; subst eo24) | (go_at_call 46; (with_reducible refine (Xac.calls kj3 _ _ t296 true _ ?side1 ?side2 A16.out).mono ?_); (case side1 => exact zc ((Kd.R_reads' HO299.out).2.2)); (case side2 => exact (Kd.R_reads' HO299.out).2.1); rintro e w' ⟨rfl, ⟨nd, rfl⟩⟩; (try (rw [drewN_self w23]; generalize hq_ : World.drewN w23 _ = w23; have n0_ : Aside0 (Kd.R (Kd.int .i64) 3 w23 w.heap.size (fun k_ => some k_ ≠ (.slice Ao24 t296.length co24 : Value).ownBlock) (.slice Ao19 t292.length co19) t292) := ⟨J135⟩; have n1_ : Aside0 (Kd.R (Kd.int .i64) 3 w23 w.heap.size (fun k_ => some k_ ≠ (.slice Ao19 t292.length co19 : Value).ownBlock) (.slice Ao24 t296.length co24) t296) := ⟨J136⟩; have n2_ : Aside0 (w23.heap[gb288]? = some (.cells #[.int .i64 0, .slice none 0 0, .slice none 0 0, .slice none 0 0] 32 (0, 0))) := ⟨by rw [← hq_]; exact (zk BK288.out)⟩; have n3_ : Aside0 (w23.heap[gb295]? = some (.cells #[.int .i64 2, .slice Ao19 t292.length co19, .slice none 0 0, .slice none 0 0] 32 (0, 0))) := ⟨by rw [← hq_]; exact (zk BK295.out)⟩; have n4_ : Aside0 (Below w.heap.size w w23) := ⟨by rw [← hq_]; exact (zs2 GE288.out GE295.out)⟩; clear HO294 HO299 BK288 BK295 HB hq_; have HO294 := n0_; have HO299 := n1_; have BK288 := n2_; have BK295 := n3_; have HB := n4_; clear n0_ n1_ n2_ n3_ n4_)); obtain ⟨hcz25_0, hcz25_1, hcz25_2, hcz25_3, hfz25_0, hfz25_1, hfz25_2, hfz25_3⟩ := cz4 BK295.out; obtain ⟨hcz26_0, hcz26_1, hcz26_2, hcz26_3, hfz26_0, hfz26_1, hfz26_2, hfz26_3⟩ := cz4 BK288.out))
    refine bodyPost_ret (Xa1 rfl _ _ gb288 32 #[.int .i64 2, .slice Ao19 t292.length co19, .slice Ao24 t296.length co24, .slice none 0 0] (0, 0) _ rfl (by (with_reducible repeat (first | refine Xc ?_ _ | refine Xe ?_ | refine Xb ?_ _)); refine Xj (cs := #[.int .i64 2, .slice Ao19 t292.length co19, .slice Ao24 t296.length co24, .slice none 0 0]) ?_ 3 _ rfl; (with_reducible repeat (first | refine Xc ?_ _ | refine Xe ?_ | refine Xb ?_ _)); refine Xj (cs := #[.int .i64 2, .slice Ao19 t292.length co19, .slice none 0 0, .slice none 0 0]) ?_ 2 _ rfl; (with_reducible repeat (first | refine Xc ?_ _ | refine Xe ?_ | refine Xb ?_ _)); refine Xj (cs := #[.int .i64 2, .slice none 0 0, .slice none 0 0, .slice none 0 0]) ?_ 1 _ rfl; (with_reducible repeat (first | refine Xc ?_ _ | refine Xe ?_ | refine Xb ?_ _)); refine Xj (cs := #[.int .i64 0, .slice none 0 0, .slice none 0 0, .slice none 0 0]) ?_ 0 _ rfl; (with_reducible repeat (first | refine Xc ?_ _ | refine Xe ?_ | refine Xb ?_ _)); refine Xab ?_ NB288_295.out _; (with_reducible repeat (first | refine Xc ?_ _ | refine Xe ?_ | refine Xb ?_ _)); exact BK288.out) Tryd.underlying32 rfl J8) rfl ?_
    exact ⟨_, _, _, J2, by (with_reducible repeat (first | apply Kd.R_alloc | apply Kd.R_drewN | apply Kd.R_drew)); exact Kd.R_mono (Kd.R_far (p := ⟨gb288, 3, none⟩) (Kd.R_far (p := ⟨gb288, 2, none⟩) (Kd.R_far (p := ⟨gb288, 1, none⟩) (Kd.R_far (p := ⟨gb288, 0, none⟩) (Kd.R_far (p := ⟨gb295, 2, none⟩) (Kd.R_types (Kd.R_types HO294.out BK295.out J11) BK288.out J11) (fun _ hk => hk.1.2) (.slice Ao24 t296.length co24)) (fun _ hk => hk.2) (.int .i64 2)) (fun _ hk => hk.2) (.slice Ao19 t292.length co19)) (fun _ hk => hk.2) (.slice Ao24 t296.length co24)) (fun _ hk => hk.2) (.slice none 0 0)) (fun _ hk => by first | exact hk.1.1.2 | exact hk.1.1), by (with_reducible repeat (first | apply Kd.R_alloc | apply Kd.R_drewN | apply Kd.R_drew)); exact Kd.R_mono (Kd.R_far (p := ⟨gb288, 3, none⟩) (Kd.R_far (p := ⟨gb288, 2, none⟩) (Kd.R_far (p := ⟨gb288, 1, none⟩) (Kd.R_far (p := ⟨gb288, 0, none⟩) (Kd.R_far (p := ⟨gb295, 2, none⟩) (Kd.R_types (Kd.R_types HO299.out BK295.out J11) BK288.out J11) (fun _ hk => hk.1.2) (.slice Ao24 t296.length co24)) (fun _ hk => hk.2) (.int .i64 2)) (fun _ hk => hk.2) (.slice Ao19 t292.length co19)) (fun _ hk => hk.2) (.slice Ao24 t296.length co24)) (fun _ hk => hk.2) (.slice none 0 0)) (fun _ hk => by first | exact hk.1.1.2 | exact hk.1.1), J9, J55⟩
   obtain ⟨rfl, rfl, rfl, rfl, rfl⟩ := yp5 H
   go_wp2_with (first | ((with_reducible refine Xg (f := 42) rfl ?_); refine Xt (some 33) rfl rfl Tryd.func42 J8 rfl #[.slice A0 l0.length c0] rfl J1 ?_; (with_reducible refine (Xam.calls _ _ l0 t292 _ ?side1 ?side2 A12.out).mono ?_); (case side1 => exact zc (Kd.C_below HR0.out HB.out)); (case side2 => exact HC0.out); rintro e w27 ⟨v293, rfl, ho0, hb⟩; refine ⟨_, rfl, ?_⟩; have HO294 := zq (Kd.R_lower ho0 (Xf (zs1 GE288.out))); replace BK288 := zq (Xh (zk BK288.out) hb); replace HB := zq (Xd (zs1 GE288.out) hb); (try clear hb); (try clear hk); (try clear ho0); obtain ⟨Ao28, co28, eo28⟩ := Kd.R_slice HO294.out; subst eo28) | ((with_reducible refine Xk (N := 9) rfl ?_); (try (refine Xaz Xa5 ?_; dsimp only)); refine bxw 9 32 #[.int .i64 0, .slice none 0 0, .slice none 0 0, .slice none 0 0] ?_; intro gb295 hg w29 hbox hb; replace HO294 := zq (Kd.R_below (zr HO294.out) hb); have BK295 := zq (hbox); have GE295 := zq ((J139 : w.heap.size ≤ gb295)); replace HB := zq (Xd (zs1 GE288.out) hb); have NB288_295 := zq ((J82 : gb288 ≠ gb295)); have NB295_288 := zq ((J83 : gb295 ≠ gb288)); replace BK288 := zq (Xh (zk BK288.out) hb); clear hb hbox hg; have hnb30 := NB295_288.out; have hnc30 := NB288_295.out; obtain ⟨hcz31_0, hcz31_1, hcz31_2, hcz31_3, hfz31_0, hfz31_1, hfz31_2, hfz31_3⟩ := cz4 BK295.out) | ((with_reducible refine Xg (f := 43) rfl ?_); refine Xt (some 37) rfl rfl Tryd.func43 J8 rfl #[.slice A1 l1.length c1] rfl J1 ?_; (with_reducible refine (Xat.calls kj3 _ _ l1 t296 true _ ?side1 ?side2 A13.out).mono ?_); (case side1 => exact Kd.C_below HR1.out (zs2 GE288.out GE295.out)); (case side2 => exact HC1.out); rintro e w32 ⟨v298, rfl, ho0, hb⟩; refine ⟨_, rfl, ?_⟩; have HO299 := zq (Kd.R_lower (Kd.R_new' ho0 (Kd.R_lt J75)) (Xf (zs2 GE288.out GE295.out))); replace HO294 := zq (Kd.R_elder' J75 (Kd.R_base ho0) hb); replace BK288 := zq (Xh (g := gb288) (o := .cells #[.int .i64 0, .slice none 0 0, .slice none 0 0, .slice none 0 0] 32 (0, 0)) J16 hb); replace BK295 := zq (Xh (g := gb295) (o := .cells #[.int .i64 2, .slice Ao28 t292.length co28, .slice none 0 0, .slice none 0 0] 32 (0, 0)) (by (with_reducible repeat (first | refine Xc ?_ _ | refine Xe ?_ | refine Xb ?_ _)); refine Xj (cs := #[.int .i64 2, .slice Ao28 t292.length co28, .slice none 0 0, .slice none 0 0]) ?_ 3 _ rfl; (with_reducible repeat (first | refine Xc ?_ _ | refine Xe ?_ | refine Xb ?_ _)); refine Xj (cs := #[.int .i64 2, .slice Ao28 t292.length co28, .slice none 0 0, .slice none 0 0]) ?_ 2 _ rfl; (with_reducible repeat (first | refine Xc ?_ _ | refine Xe ?_ | refine Xb ?_ _)); refine Xj (cs := #[.int .i64 2, .slice none 0 0, .slice none 0 0, .slice none 0 0]) ?_ 1 _ rfl; (with_reducible repeat (first | refine Xc ?_ _ | refine Xe ?_ | refine Xb ?_ _)); refine Xj (cs := #[.int .i64 0, .slice none 0 0, .slice none 0 0, .slice none 0 0]) ?_ 0 _ rfl; (with_reducible repeat (first | refine Xc ?_ _ | refine Xe ?_ | refine Xb ?_ _)); exact BK295.out) hb); replace HB := zq (Xd (zs2 GE288.out GE295.out) hb); (try clear hb); (try clear hk); (try clear ho0); obtain ⟨Ao33, co33, eo33⟩ := Kd.R_slice HO299.out; subst eo33) | (go_at_call 46; (with_reducible refine (Xac.calls kj3 _ _ t296 false _ ?side1 ?side2 A16.out).mono ?_); (case side1 => exact zc ((Kd.R_reads' HO299.out).2.2)); (case side2 => exact (Kd.R_reads' HO299.out).2.1); rintro e w' ⟨rfl, ⟨nd, rfl⟩⟩; (try (rw [drewN_self w32]; generalize hq_ : World.drewN w32 _ = w32; have n0_ : Aside0 (Kd.R (Kd.int .i64) 3 w32 w.heap.size (fun k_ => some k_ ≠ (.slice Ao33 t296.length co33 : Value).ownBlock) (.slice Ao28 t292.length co28) t292) := ⟨J135⟩; have n1_ : Aside0 (Kd.R (Kd.int .i64) 3 w32 w.heap.size (fun k_ => some k_ ≠ (.slice Ao28 t292.length co28 : Value).ownBlock) (.slice Ao33 t296.length co33) t296) := ⟨J136⟩; have n2_ : Aside0 (w32.heap[gb288]? = some (.cells #[.int .i64 0, .slice none 0 0, .slice none 0 0, .slice none 0 0] 32 (0, 0))) := ⟨by rw [← hq_]; exact (zk BK288.out)⟩; have n3_ : Aside0 (w32.heap[gb295]? = some (.cells #[.int .i64 2, .slice Ao28 t292.length co28, .slice none 0 0, .slice none 0 0] 32 (0, 0))) := ⟨by rw [← hq_]; exact (zk BK295.out)⟩; have n4_ : Aside0 (Below w.heap.size w w32) := ⟨by rw [← hq_]; exact (zs2 GE288.out GE295.out)⟩; clear HO294 HO299 BK288 BK295 HB hq_; have HO294 := n0_; have HO299 := n1_; have BK288 := n2_; have BK295 := n3_; have HB := n4_; clear n0_ n1_ n2_ n3_ n4_)); obtain ⟨hcz34_0, hcz34_1, hcz34_2, hcz34_3, hfz34_0, hfz34_1, hfz34_2, hfz34_3⟩ := cz4 BK295.out; obtain ⟨hcz35_0, hcz35_1, hcz35_2, hcz35_3, hfz35_0, hfz35_1, hfz35_2, hfz35_3⟩ := cz4 BK288.out))
   refine bodyPost_ret (Xa1 rfl _ _ gb288 32 #[.int .i64 1, .slice Ao28 t292.length co28, .slice Ao33 t296.length co33, .slice none 0 0] (0, 0) _ rfl (by (with_reducible repeat (first | refine Xc ?_ _ | refine Xe ?_ | refine Xb ?_ _)); refine Xj (cs := #[.int .i64 1, .slice Ao28 t292.length co28, .slice Ao33 t296.length co33, .slice none 0 0]) ?_ 3 _ rfl; (with_reducible repeat (first | refine Xc ?_ _ | refine Xe ?_ | refine Xb ?_ _)); refine Xj (cs := #[.int .i64 1, .slice Ao28 t292.length co28, .slice none 0 0, .slice none 0 0]) ?_ 2 _ rfl; (with_reducible repeat (first | refine Xc ?_ _ | refine Xe ?_ | refine Xb ?_ _)); refine Xj (cs := #[.int .i64 1, .slice none 0 0, .slice none 0 0, .slice none 0 0]) ?_ 1 _ rfl; (with_reducible repeat (first | refine Xc ?_ _ | refine Xe ?_ | refine Xb ?_ _)); refine Xj (cs := #[.int .i64 0, .slice none 0 0, .slice none 0 0, .slice none 0 0]) ?_ 0 _ rfl; (with_reducible repeat (first | refine Xc ?_ _ | refine Xe ?_ | refine Xb ?_ _)); refine Xab ?_ NB288_295.out _; (with_reducible repeat (first | refine Xc ?_ _ | refine Xe ?_ | refine Xb ?_ _)); refine Xab ?_ NB288_295.out _; (with_reducible repeat (first | refine Xc ?_ _ | refine Xe ?_ | refine Xb ?_ _)); exact BK288.out) Tryd.underlying32 rfl J8) rfl ?_
   exact ⟨_, _, _, J2, by (with_reducible repeat (first | apply Kd.R_alloc | apply Kd.R_drewN | apply Kd.R_drew)); exact Kd.R_mono (Kd.R_far (p := ⟨gb288, 3, none⟩) (Kd.R_far (p := ⟨gb288, 2, none⟩) (Kd.R_far (p := ⟨gb288, 1, none⟩) (Kd.R_far (p := ⟨gb288, 0, none⟩) (Kd.R_far (p := ⟨gb295, 2, none⟩) (Kd.R_far (p := ⟨gb295, 0, none⟩) (Kd.R_types (Kd.R_types HO294.out BK295.out J11) BK288.out J11) (fun _ hk => hk.1.2) (.int .i64 1)) (fun _ hk => hk.1.2) (.slice Ao33 t296.length co33)) (fun _ hk => hk.2) (.int .i64 1)) (fun _ hk => hk.2) (.slice Ao28 t292.length co28)) (fun _ hk => hk.2) (.slice Ao33 t296.length co33)) (fun _ hk => hk.2) (.slice none 0 0)) (fun _ hk => by first | exact hk.1.1.2 | exact hk.1.1), by (with_reducible repeat (first | apply Kd.R_alloc | apply Kd.R_drewN | apply Kd.R_drew)); exact Kd.R_mono (Kd.R_far (p := ⟨gb288, 3, none⟩) (Kd.R_far (p := ⟨gb288, 2, none⟩) (Kd.R_far (p := ⟨gb288, 1, none⟩) (Kd.R_far (p := ⟨gb288, 0, none⟩) (Kd.R_far (p := ⟨gb295, 2, none⟩) (Kd.R_far (p := ⟨gb295, 0, none⟩) (Kd.R_types (Kd.R_types HO299.out BK295.out J11) BK288.out J11) (fun _ hk => hk.1.2) (.int .i64 1)) (fun _ hk => hk.1.2) (.slice Ao33 t296.length co33)) (fun _ hk => hk.2) (.int .i64 1)) (fun _ hk => hk.2) (.slice Ao28 t292.length co28)) (fun _ hk => hk.2) (.slice Ao33 t296.length co33)) (fun _ hk => hk.2) (.slice none 0 0)) (fun _ hk => by first | exact hk.1.1.2 | exact hk.1.1), J9, J55⟩
def Xcz.f (l0 : List (S32)) : Option ((List (S32))) := (some (([] : List (S32)) : List (S32))).bind fun y304 => (if y304.length + l0.length < 1759218604441 then (some (y304 ++ l0)) else (none))
set_option maxHeartbeats 8000000 in
set_option maxRecDepth 100000 in
theorem Xcz.calls (P0_ : Nat → Prop) (A0 : Option Addr) (c0 : Nat) (l0 : List (S32)) (r : List (S32)) (w : World) (hs0 : Kd.V k32 32 w w.heap.size (fun k_ => P0_ k_) (.slice A0 l0.length c0) l0) (h : Xcz.f l0 = some r) :
  Calls Tryd.prog 78 #[.slice A0 l0.length c0] w fun e w' => ∃ v0_ : Value, e = .returned (v0_) ∧ Kd.N k32 32 w' w.heap.size (fun k_ => (P0_ k_ ∨ w.heap.size ≤ k_)) v0_ r ∧ Below w.heap.size w w' := by
 cases A0 with
 | none =>
  obtain rfl : l0 = [] := by
   cases l0 with
   | nil => rfl
   | cons x_ y_ =>
    obtain ⟨ad_, c_, e_, _⟩ := Kd.C_get (Kd.V_reads' hs0).2.2 z32 0 J35 (by rw [List.length_cons]; omega)
    exact absurd e_ J88
  have hn_ : ∀ W : World, (binOp .eql 23 (.slice none 0 c0) (.slice none 0 0)).run Tryd.prog W = .ok (.bool true) W := fun W => Lib.run_eql_slice_nil W 23 32 none _ c0 0 0 Tryd.underlying23
  rw [show ([] : List (S32)).length = 0 from rfl]
  go_enter Tryd.func78, Tryd.ntmps78
  go_wp2
  go_ret
  obtain rfl : r = [] := by simpa [Xcz.f] using h.symm
  exact ⟨_, rfl, Kd.N_nil _ _ _ _ _, Below.refl _ _⟩
 | some a0_ =>
  have hn_ : ∀ W : World, (binOp .eql 23 (.slice (some a0_) l0.length c0) (.slice none 0 0)).run Tryd.prog W = .ok (.bool false) W := fun W => Lib.run_eql_slice_nil W 23 32 (some a0_) _ c0 0 0 Tryd.underlying23
  have HO0 := zq (show Kd.V k32 32 w w.heap.size (fun k_ => (P0_ k_ ∨ w.heap.size ≤ k_)) (.slice (some a0_) l0.length c0) l0 from Kd.V_mono hs0 (fun k_ hk => .inl hk))
  have HB := zq (Below.refl w.heap.size w)
  unfold Xcz.f at h
  have H := h
  clear h
  obtain ⟨y304, hy304⟩ : ∃ y_ : List (S32), y_ = (([] : List (S32))) := ⟨_, rfl⟩
  replace H : (if y304.length + l0.length < 1759218604441 then (some (y304 ++ l0)) else (none)) = some r := by first | (rw [hy304]; with_reducible exact H) | (have H2_ := (Option.bind_some _ _).symm.trans H; rw [hy304]; with_reducible exact H2_) | (have H2_ := (Option.bind_some _ _).symm.trans H; with_reducible exact H2_) | with_reducible exact H | (rw [hy304]; exact H) | exact H
  have Ny304 := zq hy304
  clear hy304
  refine yu H ?_ ?_ <;> clear H <;> rintro c2 H
  ·have LMc2 := zq c2
   clear c2
   obtain ⟨y307, hy307⟩ : ∃ y_ : List (S32), y_ = (y304 ++ l0) := ⟨_, rfl⟩
   replace H : (some y307) = some r := by first | (rw [hy307]; with_reducible exact H) | (have H2_ := (Option.bind_some _ _).symm.trans H; rw [hy307]; with_reducible exact H2_) | (have H2_ := (Option.bind_some _ _).symm.trans H; with_reducible exact H2_) | with_reducible exact H | (rw [hy307]; exact H) | exact H
   have Ny307 := zq hy307
   clear hy307
   obtain rfl := yo H
   go_enter Tryd.func78, Tryd.ntmps78
   go_wp2_with (first | ((with_reducible refine Xk (N := 5) rfl ?_); refine Kd.N_lit k32 _ 32 ?hg (N' := 5) ?hd (xs := ([] : List (S32))) (inner := []) (ok := (fun k_ => (P0_ k_ ∨ w.heap.size ≤ k_))) (okp := (fun k_ => (P0_ k_ ∨ w.heap.size ≤ k_))) ?hr ?hp (fun _ hk => hk) ((show ∀ k_, w.heap.size ≤ k_ → (fun k_ => (P0_ k_ ∨ w.heap.size ≤ k_)) k_ from fun k_ hk => (.inr (Nat.le_trans (Xf J0) hk))) _ (Nat.le_refl _)) (Below.refl _ _) (Nat.le_refl _) J88 ?_; (case hd => rfl); (case hg => rfl); (case hr => first | (go_simp; done) | (go_simp; rfl)); (case hp => exact (Reps.none _ _)); intro v305 w3 ho4 hb hg_ hnew_; clear hg_ hnew_; (first | rw [← Ny304.out] at ho4 | (simp only [Int.reduceToNat] at ho4; rw [← Ny304.out] at ho4)); replace HO0 := zq (Kd.V_elder' (zv HO0.out) (Kd.N_base ho4) hb); have HO306 := zq (Kd.N_lower ho4 (Xf J0)); replace HB := zq (Xd J0 hb); clear hb ho4) | ((with_reducible refine Xbt (b := .append) (xs := #[.tmp 5, .tmp 6]) rfl ?_); at_builtin; refine Kd.N_append_rows k32 (w0 := w) w.heap.size rfl (.tmp 5) (.tmp 6) 23 32 (.agg #[(.int .i64 0), (.slice none 0 0), (.slice none 0 0), (.slice none 0 0)]) 80 rfl Tryd.underlying23 Xd5 rfl J11 J35 v305 y304 l0 _ _ _ (fun k_ => (P0_ k_ ∨ w.heap.size ≤ k_)) (fun k_ => ((fun k_ => (P0_ k_ ∨ w.heap.size ≤ k_))) k_ ∧ some k_ ≠ (v305 : Value).ownBlock) rfl rfl ?aO ?aR (fun _ hk => hk) ?aF ?aB ?aS ?aL ?_; (case aR => exact (by skip; exact Kd.V_F (Kd.V_mono (ok' := (fun k_ => ((fun k_ => (P0_ k_ ∨ w.heap.size ≤ k_))) k_ ∧ some k_ ≠ (v305 : Value).ownBlock)) (HO0.out) (fun k_ hk => ⟨hk.1, hk.2⟩)))); (case aB => exact J0); (case aF => exact (fun k_ hk => (.inr (Nat.le_trans (Xf J0) hk)))); (case aO => exact (zn HO306.out)); (case aS => exact (Xf J0)); (case aL => have := LMc2.out; omega); intro v308 w5 ho hb hg hat; rw [← Ny307.out] at ho; replace HO0 := zq (Kd.V_afterv (ok := (fun k_ => (P0_ k_ ∨ w.heap.size ≤ k_))) (zv HO0.out) hg hat); replace HB := zq (hb); have HO309 := zq (ho); clear HO306; clear ho hb hg hat))
   go_ret
   exact ⟨_, J2, by (with_reducible repeat (first | apply Kd.N_alloc | apply Kd.N_drewN | apply Kd.N_drew)); exact HO309.out, J0⟩
  ·exact absurd H J88
def half {α : Type} (f : Nat → Nat) (d : Kd α) (w0 : World) (ok0 : Nat → Prop) : Kd (α × Nat × Bool) where
 sz := d.sz
 E := d.E
 K := fun _ _ cs => cs.length = d.sz ∧ ∀ u ∈ cs, u.oneCell' = true
 M := fun w base ok x cs => if x.2.2 = true then d.M w base (fun k => ok k ∧ f k = x.2.1) x.1 cs else Kd.FK d w0 ok0 x.1 cs
 K_len := fun h => h.1
 K_one := fun h => h.2
 K_below := fun _ h => h
 K_of_M := fun {w base ok x cs} h => by
  by_cases c : x.2.2 = true
  ·rw [if_pos c] at h; exact ⟨d.K_len (d.K_of_M h), d.K_one (d.K_of_M h)⟩
  ·rw [if_neg c] at h; exact ⟨d.K_len (Kd.FK_now h), d.K_one (Kd.FK_now h)⟩
 M_mono := fun {w base ok ok' x cs} hok h => by
  by_cases c : x.2.2 = true
  ·rw [if_pos c] at h ⊢; exact d.M_mono (fun k hk => ⟨hok k hk.1, hk.2⟩) h
  ·rw [if_neg c] at h ⊢; exact h
 M_bound := fun {w base ok x cs} h => by
  by_cases c : x.2.2 = true
  ·rw [if_pos c] at h ⊢; exact d.M_mono (fun _ hk => ⟨⟨hk.1.1, hk.2⟩, hk.1.2⟩) (d.M_bound h)
  ·rw [if_neg c] at h ⊢; exact h
 M_move := fun {w w1 base ok x cs} hm h => by
  by_cases c : x.2.2 = true
  ·rw [if_pos c] at h ⊢; exact d.M_move (fun k hk => hm k hk.1) h
  ·rw [if_neg c] at h ⊢; exact h
 M_lower := fun {w base base' ok x cs} hb h => by
  by_cases c : x.2.2 = true
  ·rw [if_pos c] at h ⊢; exact d.M_lower hb h
  ·rw [if_neg c] at h ⊢; exact h
theorem half_M {α : Type} {f : Nat → Nat} {d : Kd α} {w0 w : World} {ok0 : Nat → Prop} {base : Nat} {ok : Nat → Prop} {x : α × Nat × Bool} {cs : List Value} : (half f d w0 ok0).M w base ok x cs = if x.2.2 = true then d.M w base (fun k => ok k ∧ f k = x.2.1) x.1 cs else Kd.FK d w0 ok0 x.1 cs := rfl
def Xc6 {α : Type} (xs : List α) (k : Nat) : List (α × Nat × Bool) := xs.zipIdx.map fun p => (p.1, p.2, decide (p.2 < k))
theorem Xcn {α : Type} (xs : List α) (k : Nat) : (Xc6 xs k).length = xs.length := by simp [Xc6]
theorem marks_at {α : Type} {xs : List α} {k j : Nat} {p : α × Nat × Bool} (h : (Xc6 xs k)[j]? = some p) : ∃ x, xs[j]? = some x ∧ p = (x, j, decide (j < k)) := by
 simp only [Xc6, List.getElem?_map, List.getElem?_zipIdx, Nat.zero_add, Option.map_map, Option.map_eq_some_iff] at h
 obtain ⟨x, hx, rfl⟩ := h
 exact ⟨x, hx, rfl⟩
theorem marks_set {α : Type} (xs : List α) (k : Nat) (x : α) (h : xs[k]? = some x) : (Xc6 xs k).set k (x, k, true) = Xc6 xs (k + 1) := by
 apply List.ext_getElem?
 intro j
 rw [List.getElem?_set]
 have hk : k < xs.length := (List.getElem?_eq_some_iff.1 h).1
 by_cases e : k = j
 ·subst e
  rw [if_pos rfl, if_pos (by rw [Xcn]; exact hk)]
  simp [Xc6, h]
 ·rw [if_neg e]
  simp only [Xc6, List.getElem?_map, List.getElem?_zipIdx, Nat.zero_add, Option.map_map]
  congr 1
  funext y
  have : decide (j < k) = decide (j < k + 1) := by rw [decide_eq_decide]; omega
  simp [this]
theorem half_of_N {α : Type} {d : Kd α} {e base : Nat} {ok : Nat → Prop} {w : World} {v : Value} {xs : List α} (f : Nat → Nat) (h : Kd.N d e w base ok v xs) : (half f d w (fun k => some k ≠ v.ownBlock)).R e w base ok v (Xc6 xs 0) := by
 obtain ⟨h0, rows, hl, ⟨_, inner, ho, hr⟩, hf⟩ := h
 refine ⟨h0, inner, ?_, ?_⟩
 ·rw [Xcn, ← hl]; exact ho
 ·refine ⟨?_, fun j p hj => ?_⟩
  ·rw [Xcn, ← hl]; exact hr.1
  ·obtain ⟨x, hx, rfl⟩ := marks_at hj
   have hjl : j < rows.length := by rw [hl]; exact (List.getElem?_eq_some_iff.1 hx).1
   have h1 := hr.2 j _ (List.getElem?_eq_getElem hjl)
   have h2 := Kd.FK_mono (hf j x _ hx (List.getElem?_eq_getElem hjl)) (fun _ hk => hk.2)
   rw [half_M, if_neg J88]
   have h3 : (inner.drop (j * d.sz)).take d.sz = rows[j] := h1.1
   exact h3 ▸ h2
theorem half_retag {α : Type} {d : Kd α} {e base : Nat} {ok ok0 : Nat → Prop} {w0 w : World} {v : Value} {xs : List α} {f : Nat → Nat} {k : Nat} (h : (half f d w0 ok0).R e w base ok v (Xc6 xs k)) (m : Nat) :
  ∃ f', (∀ b, w.heap.size ≤ b → f' b = m) ∧ (half f' d w0 ok0).R e w base ok v (Xc6 xs k) := by
 refine ⟨fun b => if b < w.heap.size then f b else m, fun b hb => if_neg J35, ?_⟩
 have hb := Kd.R_bound h
 obtain ⟨h0, inner, ho, hr⟩ := h
 obtain ⟨_, inner2, ho2, hr2⟩ := hb
 refine ⟨h0, inner, ho, hr.1, fun j p hj => ?_⟩
 have hM := hr.2 j p hj
 obtain ⟨x, hx, rfl⟩ := marks_at hj
 by_cases c : decide (j < k) = true
 ·rw [half_M, if_pos c] at hM ⊢
  exact d.M_mono (fun b hk => ⟨hk.1.1, by show (if b < w.heap.size then f b else m) = j; rw [if_pos hk.2.2.1]; exact hk.1.2⟩) (d.M_bound hM)
 ·rw [half_M, if_neg c] at hM ⊢
  exact hM
theorem S_of_half {α : Type} {d : Kd α} {e base : Nat} {ok ok0 : Nat → Prop} {w0 w : World} {v : Value} {xs : List α} {f : Nat → Nat} (h : (half f d w0 ok0).R e w base ok v (Xc6 xs xs.length)) : Kd.S d e w base ok v xs := by
 obtain ⟨h0, inner, ho, hr⟩ := h
 rw [Xcn] at ho
 refine ⟨f, h0, inner, ?_, ?_, fun j p hj => ?_⟩
 ·rw [List.length_zipIdx]; exact ho
 ·rw [List.length_zipIdx]; have := hr.1; rw [Xcn] at this; exact this
 ·obtain ⟨x, i⟩ := p
  rw [List.getElem?_zipIdx, Nat.zero_add, Option.map_eq_some_iff] at hj
  obtain ⟨y, hy, he⟩ := hj
  injection he with e1 e2
  subst e1 e2
  have hjl := (List.getElem?_eq_some_iff.1 hy).1
  have hM := hr.2 j (y, j, decide (j < xs.length)) (by simp [Xc6, hy])
  rw [half_M, if_pos (by simp [hjl])] at hM
  exact hM
theorem half_elem {α : Type} {d : Kd α} {e base n cap g : Nat} {ok ok0 : Nat → Prop} {w0 W : World} {xs : List α} {f : Nat → Nat} {k : Nat} {x : α} (h : (half f d w0 ok0).R e W base ok (.slice (some ⟨g, 0, none⟩) n cap) (Xc6 xs k)) (hx : xs[k]? = some x) :
  ∃ c, c.length = d.sz ∧ Kd.FK d w0 ok0 x c ∧ (∀ j u, c[j]? = some u → W.cell? ⟨g, k * d.sz + j, none⟩ = some u) ∧ ∀ j, W.frozen? ⟨g, k * d.sz + j, none⟩ = false := by
 have hk : k < xs.length := (List.getElem?_eq_some_iff.1 hx).1
 have hn := (Kd.R_reads' h).1
 rw [Xcn] at hn
 obtain ⟨c, hcl, hM, hcc, hfr⟩ := Kd.R_elem h (x, k, false) (k : Int) J35 J35
 rw [Int.toNat_natCast] at hM hcc hfr
 have hg : (Xc6 xs k).getD k (x, k, false) = (x, k, false) := by simp [Xc6, hx]
 rw [hg] at hM
 refine ⟨c, hcl, ?_, hcc, hfr⟩
 rw [half_M, if_neg J88] at hM
 exact hM
theorem half_put {α : Type} {d : Kd α} {e base n cap g : Nat} {ok okp ok0 : Nat → Prop} {w0 W : World} {xs : List α} {f : Nat → Nat} {k : Nat} {x : α} {seg : List Value} (h : (half f d w0 ok0).R e W base ok (.slice (some ⟨g, 0, none⟩) n cap) (Xc6 xs k)) (hx : xs[k]? = some x)
    (hM : d.M W base okp x seg) (hok : ∀ b, okp b → (ok b ∧ b ≠ g) ∧ f b = k) : (half f d w0 ok0).R e (W.setCells g (k * d.sz) seg) base ok (.slice (some ⟨g, 0, none⟩) n cap) (Xc6 xs (k + 1)) ∧ W.grownBy (W.setCells g (k * d.sz) seg) (some g) := by
  have hk : k < xs.length := (List.getElem?_eq_some_iff.1 hx).1
  have hn := (Kd.R_reads' h).1
  rw [Xcn] at hn
  obtain ⟨c, hcl, _, hcc, _⟩ := half_elem h hx
  have hsl := d.K_len (d.K_of_M hM)
  have := Kd.R_seg (d := half f d w0 ok0) (okp := fun b => ok b ∧ b ≠ g) h (k : Int) J35 J35 (c := c) (seg := seg) (j := 0) hcl (by rw [Int.toNat_natCast]; exact hcc) (by rw [Nat.zero_add, hsl]; exact Nat.le_refl _) (x' := (x, k, true))
    (by rw [List.take_zero, List.nil_append, Nat.zero_add, hsl, ← hcl, List.drop_length, List.append_nil]
        rw [half_M, if_pos rfl]
        exact d.M_mono hok hM) (fun _ hk => hk)
  rw [Int.toNat_natCast, Nat.add_zero, marks_set xs k x hx] at this
  exact this
def Xco.f (l0 : List S32) : Option (List S32) := if l0.length < 1759218604441 ∧ (∀ x ∈ l0, x.f1.length < 17592186044416 ∧ x.f2.length < 17592186044416 ∧ x.f3.length < 8796093022208) then some l0 else none
theorem at_world {P : Program} {c : Code} {Q : Exit → Act → World → Prop} {a : Act} {W : World} (p : World → Prop) (hp : p W) (h : ∀ W2, p W2 → c.wp P Q a W2) : c.wp P Q a W := h W hp
set_option maxHeartbeats 8000000 in
set_option maxRecDepth 100000 in
theorem Xco.calls (A0 : Option Addr) (c0 : Nat) (l0 : List S32) (r : List S32) (w : World) (hr0 : Kd.C k32 w A0 l0.length l0) (hc0 : l0.length ≤ c0) (h : Xco.f l0 = some r) :
  Calls Tryd.prog 59 #[.slice A0 l0.length c0] w fun e w' => ∃ v0_ : Value, e = .returned (v0_) ∧ Kd.S k32 32 w' w.heap.size (fun _ => True) v0_ r ∧ Below w.heap.size w w' := by
 unfold Xco.f at h
 by_cases h0 : l0.length < 1759218604441 ∧ (∀ x ∈ l0, x.f1.length < 17592186044416 ∧ x.f2.length < 17592186044416 ∧ x.f3.length < 8796093022208)
 ·rw [if_pos h0] at h
  obtain rfl := Option.some.inj h
  clear h
  obtain ⟨hlen, hin0⟩ := h0
  have HIN := zq hin0
  clear hin0
  have A1_ := zq (show Xcz.f l0 = some l0 by unfold Xcz.f; rw [Option.bind_some, List.length_nil, Nat.zero_add, if_pos hlen, List.nil_append])
  have HV := zq (show Kd.V k32 32 w w.heap.size (fun k_ => k_ < w.heap.size) (.slice A0 l0.length c0) l0 from Kd.V_mk hc0 (Kd.C_F k32_heap hr0))
  clear hr0 hc0
  have HL := zq hlen
  clear hlen
  go_enter Tryd.func59, Tryd.ntmps59
  go_wp2_with (first | ((with_reducible refine Xg (f := 78) rfl ?_); refine Xt (some 7) rfl rfl Tryd.func78 J8 rfl #[.slice A0 l0.length c0] rfl (by (try simp only [List.map_toArray, List.map_cons, List.map_nil]); first | done | rfl) ?_; (with_reducible refine (Xcz.calls _ A0 c0 l0 l0 _ HV.out A1_.out).mono ?_); rintro e w1 ⟨v1, rfl, ho, hb⟩; refine ⟨_, rfl, ?_⟩; obtain ⟨Ao, co, eo⟩ := Kd.N_slice ho; subst eo; have HN := zq ho; have HB1 := zq hb; clear ho hb))
  have hle : l0.length ≤ 1759218604441 := Nat.le_of_lt HL.out
  go_loopg [10] l0.length (fun kq v10 w' => ∃ (k : Nat) (f : Nat → Nat), v10 = .int .i64 (k : Int) ∧ Aside0 (kq + k = l0.length) ∧ Aside0 ((half f k32 w1 (fun b => some b ≠ (Value.slice Ao l0.length co).ownBlock)).R 32 w' w.heap.size (fun _ => True) (.slice Ao l0.length co) (Xc6 l0 k)) ∧ Aside0 (Below w.heap.size w w') ∧ Aside0 (w1.grownBy w' (Value.slice Ao l0.length co).ownBlock))
  case atStart => exact ⟨0, fun _ => 0, rfl, ⟨J35⟩, ⟨half_of_N _ (Kd.N_mono HN.out (fun _ _ => trivial))⟩, HB1, ⟨World.grownBy.refl _ _⟩⟩
  case round =>
   obtain ⟨k, f, rfl, HQ, HR, HB, HG⟩ := hrel
   by_cases hk : k < l0.length
   ·obtain ⟨g, cap, eg, hg1, hg2, hg3⟩ := Kd.R_form HR.out (by rw [Xcn]; omega)
    have HGE := zq hg1
    have HGL := zq hg2
    rw [Xcn] at eg
    injection eg with eg1 _ eg2
    subst eg1 eg2
    have hx : l0[k]? = some l0[k] := List.getElem?_eq_getElem hk
    obtain ⟨x, hxe⟩ : ∃ x, x = l0[k] := ⟨_, rfl⟩
    rw [← hxe] at hx
    have HX := zq hx
    have hxm : x ∈ l0 := by rw [hxe]; exact List.getElem_mem hk
    obtain ⟨b1, b2, b3⟩ := HIN.out x hxm
    clear hx hxe hxm
    have A1 := zq (show Xam.f x.f1 = some x.f1 by unfold Xam.f; rw [Option.bind_some, List.length_nil, Nat.zero_add, if_pos b1, List.nil_append])
    have A2 := zq (show Xam.f x.f2 = some x.f2 by unfold Xam.f; rw [Option.bind_some, List.length_nil, Nat.zero_add, if_pos b2, List.nil_append])
    have A3 := zq (show Xcs.f x.f3 = some x.f3 by unfold Xcs.f; rw [Option.bind_some, List.length_nil, Nat.zero_add, if_pos b3, List.nil_append])
    clear b1 b2 b3
    obtain ⟨f', hf', hR'⟩ := half_retag HR.out k
    have HF := zq hf'
    have HR2 := zq hR'
    clear HR hf' hR'
    obtain ⟨c, hcl, hFK, hcc, hfr⟩ := half_elem HR2.out HX.out
    have hK := hFK wr (fun b hb1 hb2 => HG.out.block b hb2 hb1)
    obtain ⟨B1, d1, B2, d2, B3, d3, rfl, l1, g1, l2, g2, l3, g3⟩ := Xdh hK
    clear hFK hK hcl
    have HC1 := zq g1
    have HC2 := zq g2
    have HC3 := zq g3
    have HL1 := zq l1
    have HL2 := zq l2
    have HL3 := zq l3
    clear g1 g2 g3 l1 l2 l3
    have hc0 : wr.cell? ⟨g, k * 4, none⟩ = some (.int .i64 x.f0) := hcc 0 _ rfl
    have hc1 : wr.cell? ⟨g, k * 4 + 1, none⟩ = some (.slice B1 x.f1.length d1) := hcc 1 _ rfl
    have hc2 : wr.cell? ⟨g, k * 4 + 2, none⟩ = some (.slice B2 x.f2.length d2) := hcc 2 _ rfl
    have hc3 : wr.cell? ⟨g, k * 4 + 3, none⟩ = some (.slice B3 x.f3.length d3) := hcc 3 _ rfl
    clear hcc hfr
    have hp1 : (0 : Int) ≤ (k : Int) := Int.natCast_nonneg k
    have hp2 : (k : Int) < (l0.length : Int) := Int.ofNat_lt.2 hk
    have hd := decide_eq_true hk
    go_wp2
    refine at_world (fun W2 => W2.heap.size = wr.heap.size + 1 ∧ W2.heap[wr.heap.size]? = some (.cells #[.int .i64 x.f0, .slice B1 x.f1.length d1, .slice B2 x.f2.length d2, .slice B3 x.f3.length d3] 32 (0, 0)) ∧ Below wr.heap.size wr W2) ⟨J88, heap_alloc_new wr _, Xah (Below.refl _ _) _⟩ ?_
    rintro w2 ⟨hsz, hbx, hb2⟩
    have HS := zq hsz
    have BK := zq hbx
    have HW := zq hb2
    clear hsz hbx hb2 hc0 hc1 hc2 hc3
    have hz0 : w2.cell? ⟨wr.heap.size, 0, none⟩ = some (.int .i64 x.f0) := (Xm BK.out 0).trans rfl
    have hz1 : w2.cell? ⟨wr.heap.size, 1, none⟩ = some (.slice B1 x.f1.length d1) := (Xm BK.out 1).trans rfl
    have hz2 : w2.cell? ⟨wr.heap.size, 2, none⟩ = some (.slice B2 x.f2.length d2) := (Xm BK.out 2).trans rfl
    have hz3 : w2.cell? ⟨wr.heap.size, 3, none⟩ = some (.slice B3 x.f3.length d3) := (Xm BK.out 3).trans rfl
    have hne1 : (wr.heap.size = g) = False := eq_false J35
    have hne2 : (g = wr.heap.size) = False := eq_false J35
    go_region_held3 (fun w' => w'.cell? ⟨wr.heap.size, 0, none⟩ = some (.int .i64 x.f0) ∧ w'.cell? ⟨wr.heap.size, 1, none⟩ = some (.slice B1 x.f1.length d1) ∧ w'.cell? ⟨wr.heap.size, 2, none⟩ = some (.slice B2 x.f2.length d2) ∧ w'.cell? ⟨wr.heap.size, 3, none⟩ = some (.slice B3 x.f3.length d3)) (go_keep)
     (first
      | (go_at_call 42; refine (Xam.calls B1 d1 x.f1 x.f1 _ (by first | exact Kd.C_below HC1.out HW.out | exact Kd.C_below HC1.out (Xda HW.out)) HL1.out A1.out).mono ?_; rintro e w3 ⟨v1, rfl, ho, hb⟩; obtain ⟨E1, e1, rfl⟩ := Kd.R_slice ho; have n0_ := zq (Xh (by first | exact BK.out | exact Xe BK.out) hb); have n1_ := zq (Kd.R_lower ho (Xf J109)); have n2_ := zq (Xd J109 hb); clear BK HW ho hb; have BK := n0_; have HO1 := n1_; have HW := n2_; clear n0_ n1_ n2_; have hz0 : w3.cell? ⟨wr.heap.size, 0, none⟩ = some (.int .i64 x.f0) := (Xm BK.out 0).trans rfl; have hz1 : w3.cell? ⟨wr.heap.size, 1, none⟩ = some (.slice B1 x.f1.length d1) := (Xm BK.out 1).trans rfl; have hz2 : w3.cell? ⟨wr.heap.size, 2, none⟩ = some (.slice B2 x.f2.length d2) := (Xm BK.out 2).trans rfl; have hz3 : w3.cell? ⟨wr.heap.size, 3, none⟩ = some (.slice B3 x.f3.length d3) := (Xm BK.out 3).trans rfl)
      | (go_at_call 42; refine (Xam.calls B2 d2 x.f2 x.f2 _ (by first | exact Kd.C_below HC2.out HW.out | exact Kd.C_below HC2.out (Xda HW.out)) HL2.out A2.out).mono ?_; rintro e w4 ⟨v2, rfl, ho, hb⟩; obtain ⟨E2, e2, rfl⟩ := Kd.R_slice ho; have n0_ := zq (Xh (by first | exact BK.out | exact Xe BK.out) hb); have n1_ := zq (Kd.R_lower ho (Xf J109)); have n2_ := zq (Xd J109 hb); have n3_ := zq (Kd.R_below (by first | exact HO1.out | exact Kd.R_drew HO1.out) hb); clear BK HW HO1 ho hb; have BK := n0_; have HO2 := n1_; have HW := n2_; have HO1 := n3_; clear n0_ n1_ n2_ n3_; have hz0 : w4.cell? ⟨wr.heap.size, 0, none⟩ = some (.int .i64 x.f0) := (Xm BK.out 0).trans rfl; have hz1 : w4.cell? ⟨wr.heap.size, 1, none⟩ = some (.slice B1 x.f1.length d1) := (Xm BK.out 1).trans rfl; have hz2 : w4.cell? ⟨wr.heap.size, 2, none⟩ = some (.slice B2 x.f2.length d2) := (Xm BK.out 2).trans rfl; have hz3 : w4.cell? ⟨wr.heap.size, 3, none⟩ = some (.slice B3 x.f3.length d3) := (Xm BK.out 3).trans rfl)
      | (go_at_call 45; refine (Xcs.calls B3 d3 x.f3 x.f3 _ (by first | exact Kd.C_below HC3.out HW.out | exact Kd.C_below HC3.out (Xda HW.out)) HL3.out A3.out).mono ?_; rintro e w5 ⟨v3, rfl, ho, hb⟩; obtain ⟨E3, e3, rfl⟩ := Kd.R_slice ho; have n0_ := zq (Xh (by first | exact BK.out | exact Xe BK.out) hb); have n1_ := zq (Kd.R_lower ho (Xf J109)); have n2_ := zq (Xd J109 hb); have n3_ := zq (Kd.R_below (by first | exact HO1.out | exact Kd.R_drew HO1.out) hb); have n4_ := zq (Kd.R_below (by first | exact HO2.out | exact Kd.R_drew HO2.out) hb); clear BK HW HO1 HO2 ho hb; have BK := n0_; have HO3 := n1_; have HW := n2_; have HO1 := n3_; have HO2 := n4_; clear n0_ n1_ n2_ n3_ n4_; have HR5 := zq (Kd.R_below HR2.out HW.out); obtain ⟨c5, _, hFK5, hcc5, hfr5⟩ := half_elem HR5.out HX.out; obtain ⟨G1, q1, G2, q2, G3, q3, rfl, _, _, _, _, _, _⟩ := Xdh (Kd.FK_now hFK5); clear hFK5; have hs0 : w5.cell? ⟨g, k * 4, none⟩ = some (.int .i64 x.f0) := hcc5 0 _ rfl; have hs1 : w5.cell? ⟨g, k * 4 + 1, none⟩ = some (.slice G1 x.f1.length q1) := hcc5 1 _ rfl; have hs2 : w5.cell? ⟨g, k * 4 + 2, none⟩ = some (.slice G2 x.f2.length q2) := hcc5 2 _ rfl; have hs3 : w5.cell? ⟨g, k * 4 + 3, none⟩ = some (.slice G3 x.f3.length q3) := hcc5 3 _ rfl; have hg0 : w5.frozen? ⟨g, k * 4, none⟩ = false := hfr5 0; have hg1 : w5.frozen? ⟨g, k * 4 + 1, none⟩ = false := hfr5 1; have hg2 : w5.frozen? ⟨g, k * 4 + 2, none⟩ = false := hfr5 2; have hg3 : w5.frozen? ⟨g, k * 4 + 3, none⟩ = false := hfr5 3; clear hcc5 hfr5; have hz0 : w5.cell? ⟨wr.heap.size, 0, none⟩ = some (.int .i64 x.f0) := (Xm BK.out 0).trans rfl; have hz1 : w5.cell? ⟨wr.heap.size, 1, none⟩ = some (.slice B1 x.f1.length d1) := (Xm BK.out 1).trans rfl; have hz2 : w5.cell? ⟨wr.heap.size, 2, none⟩ = some (.slice B2 x.f2.length d2) := (Xm BK.out 2).trans rfl; have hz3 : w5.cell? ⟨wr.heap.size, 3, none⟩ = some (.slice B3 x.f3.length d3) := (Xm BK.out 3).trans rfl))
    go_wp2
    go_roundg (l0.length - (k + 1))
    case measure => have := HQ.out; omega
    case rel =>
     have hM : k32.M w5 w.heap.size (fun b => wr.heap.size ≤ b) x [.int .i64 x.f0, .slice E1 x.f1.length e1, .slice E2 x.f2.length e2, .slice E3 x.f3.length e3] := k32_mkM _ _ _ x (Kd.R_lower (Kd.R_mono (Kd.R_bound HO1.out) (fun _ hk => hk.2.1)) (Xf HB.out)) (Kd.R_lower (Kd.R_mono (Kd.R_bound HO2.out) (fun _ hk => hk.2.1)) (Xf HB.out)) (Kd.R_lower (Kd.R_mono (Kd.R_bound HO3.out) (fun _ hk => hk.2.1)) (Xf HB.out))
     have hP := half_put HR5.out HX.out hM (fun b hb => ⟨⟨trivial, fun e_ => by subst e_; exact Nat.lt_irrefl _ (Nat.lt_of_lt_of_le HGL.out hb)⟩, HF.out b hb⟩)
     exact ⟨k + 1, f', rfl, ⟨by have := HQ.out; omega⟩, ⟨hP.1⟩, ⟨X2 (X2 (X2 (X2 (Xd HB.out HW.out) HGE.out) HGE.out) HGE.out) HGE.out⟩, ⟨(HG.out.trans (grown_of_below HW.out _)).trans hP.2⟩⟩
   ·have c1 : decide (k < l0.length) = false := decide_eq_false hk
    have HK := zq (show k = l0.length by have := HQ.out; omega)
    clear hk
    go_wp2
    go_ret
    exact ⟨_, rfl, S_of_half (by have h_ := HR.out; rw [HK.out] at h_; exact h_), HB.out⟩
 ·rw [if_neg h0] at h
  cases h
end Go.Proofs.YtfjhiiaahbjaiaaDoor.HSystemFirst
