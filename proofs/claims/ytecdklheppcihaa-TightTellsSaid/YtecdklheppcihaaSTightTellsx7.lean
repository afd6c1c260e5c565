/- Words and walks, shortened by a program: what this claim's functions answer, and that other memory stays. -/
import Derived.Test.YtecdklheppcihaaSTightTellsx0
import Derived.Test.YtecdklheppcihaaSTightTellsx2
import Derived.Test.YtecdklheppcihaaSTightTellsx6
namespace Go.Proofs.Ytecdklheppcihaa.HTightTells
open Go.RowKit Go.Proofs.YtecdklheppcihaaW.PrintWords Go.Proofs.YtecdklheppcihaaW.PrintWords.Kd Go.Proofs.YtecdklheppcihaaW.PrintLast Go.Proofs.YtecdklheppcihaaW.PrintMore Go.Proofs.YtecdklheppcihaaW.PrintMore.Kd
attribute [local go_sem] Xbp Xbn Xbu Xbt Xbg Xbf Xbo Xbm
set_option linter.unusedVariables false
set_option linter.unusedSimpArgs false
def Xl.l0 : Nat → List Int → Int → Int → Option (Int)
 | 0, _, _, _ => none
 | k + 1, x0, x7, x8 => if x8 < x7 then (if 0 ≤ x8 then (if x8 < (x0.length : Int) then ((Xbv.f (rd x0 x8)).bind fun t174 => (if t174 = true then (some x8) else (Xl.l0 k x0 x7 (wrap64 (x8 + 1))))) else (none)) else (none)) else (some (-1))
def Xl.f (k : Nat) (l0 : List Int) : Option (Int) := Xl.l0 k l0 (l0.length : Int) 0
theorem Xl.mono_l : ∀ k, (∀ y0 y1 y2, LeO (Xl.l0 k y0 y1 y2) (Xl.l0 (k + 1) y0 y1 y2))
 | 0 => fun _ _ _ r h => by simp [Xl.l0] at h
 | k + 1 => by
  have ih0 := Xl.mono_l k
  ·intro y0 y1 y2
   unfold Xl.l0
   exact mz0
theorem Xl.mono : ∀ a0 k, LeO (Xl.f k a0) (Xl.f (k + 1) a0) := by
 intro a0 k
 have ih0 := Xl.mono_l k
 unfold Xl.f
 exact mz0
set_option maxHeartbeats 8000000 in
set_option maxRecDepth 100000 in
theorem Xl.calls (k : Nat) (A0 : Option Addr) (c0 : Nat) (l0 : List Int) (r : Int) (w : World) (hr0 : Kd.C (Kd.int .i64) w A0 l0.length l0) (hc0 : l0.length ≤ c0) (h : Xl.f k l0 = some r) :
  Calls Try.prog 59 #[.slice A0 l0.length c0, .func (.func 36) #[] #[]] w fun e w' => e = .returned (.int .i64 r) ∧ Drawn0 w w' := by
 have HR0 := zq hr0
 have HC0 := zq hc0
 clear hr0 hc0
 unfold Xl.f at h
 have H := h
 clear h
 have H' := zq H
 clear H
 go_enter Try.func59, Try.ntmps59
 go_wp2
 go_loopg [8] k (fun kq v8 w' => ∃ (x8_1 : Int), v8 = .int .i64 x8_1 ∧ Aside0 (Xl.l0 kq l0 (l0.length : Int) x8_1 = some r) ∧ Aside0 (kq ≤ k) ∧ Drawn0 w w')
 case atStart => exact ⟨(0), J4, H', ⟨Nat.le_refl _⟩, J9⟩
 case round =>
  clear H'
  obtain ⟨x8_1, rfl, HA, HK1, ⟨m1, rfl⟩⟩ := hrel
  cases gk with
  | zero => exact absurd HA.out (by simp [Xl.l0])
  | succ k1 =>
   have H := HA.out
   clear HA
   simp only [Xl.l0] at H
   refine yd H ?_ ?_ <;> clear H <;> rintro c2b0 H
   ·obtain rfl := yo H
    go_wp2
    go_ret
    exact ⟨J4, J9⟩
   refine yj H ?_; clear H; intro c3b0 H
   refine yj H ?_; clear H; intro c4b0 H
   refine yv H ?_; clear H; rintro t174 A5 H
   refine yC H ?_ ?_ <;> clear H <;> rintro rfl H
   ·obtain rfl := yo H
    have p173 : 0 ≤ (x8_1 : Int) := of_decide_eq_true J2
    have q173 : x8_1 < (l0.length : Int) := of_decide_eq_true J2
    obtain ⟨ad173, e173, hx173_0⟩ := Kd.at_int HR0.out x8_1 p173 q173
    cases e173
    replace p173 := eq_true p173
    replace q173 := eq_true q173
    go_wp2_with (first | ((with_reducible refine Xj (N := 16) rfl ?_); refine Xcj (some 16) rfl rfl Try.func36 J17 rfl #[.int .i64 (rd l0 x8_1)] (.tmp 11) rfl rfl J3 ?_; (with_reducible refine (Xbv.calls (rd l0 x8_1) true _ A5.out).mono ?_); rintro e w' ⟨rfl, ⟨nd, rfl⟩⟩; refine ⟨_, rfl, ?_⟩))
    go_ret
    exact ⟨J4, J9⟩
   have H' := zq H
   clear H
   have p173 : 0 ≤ (x8_1 : Int) := of_decide_eq_true J2
   have q173 : x8_1 < (l0.length : Int) := of_decide_eq_true J2
   obtain ⟨ad173, e173, hx173_0⟩ := Kd.at_int HR0.out x8_1 p173 q173
   cases e173
   replace p173 := eq_true p173
   replace q173 := eq_true q173
   go_wp2_with (first | ((with_reducible refine Xj (N := 16) rfl ?_); refine Xcj (some 16) rfl rfl Try.func36 J17 rfl #[.int .i64 (rd l0 x8_1)] (.tmp 11) rfl rfl J3 ?_; (with_reducible refine (Xbv.calls (rd l0 x8_1) false _ A5.out).mono ?_); rintro e w' ⟨rfl, ⟨nd, rfl⟩⟩; refine ⟨_, rfl, ?_⟩))
   go_roundg k1
   case measure => have := HK1.out; omega
   case rel => exact ⟨(wrap64 (x8_1 + 1)), J4, H', ⟨J84⟩, J9⟩
def X8.f (k : Nat) (l0 : List Int) : Option (Bool) := (Xl.f k l0).bind fun t175 => (some (decide (t175 ≥ 0)))
theorem X8.mono : ∀ a0 k, LeO (X8.f k a0) (X8.f (k + 1) a0) := by
 intro a0 k
 unfold X8.f
 have im0 := @Xl.mono
 exact mz3
set_option maxHeartbeats 8000000 in
set_option maxRecDepth 100000 in
theorem X8.calls (k : Nat) (A0 : Option Addr) (c0 : Nat) (l0 : List Int) (r : Bool) (w : World) (hr0 : Kd.C (Kd.int .i64) w A0 l0.length l0) (hc0 : l0.length ≤ c0) (h : X8.f k l0 = some r) :
  Calls Try.prog 38 #[.slice A0 l0.length c0, .func (.func 36) #[] #[]] w fun e w' => e = .returned (.bool r) ∧ Drawn0 w w' := by
 have HR0 := zq hr0
 have HC0 := zq hc0
 clear hr0 hc0
 unfold X8.f at h
 have H := h
 clear h
 refine yv H ?_; clear H; rintro t175 A2 H
 obtain rfl := yo H
 go_enter Try.func38, Try.ntmps38
 go_wp2_with (first | ((with_reducible refine Xi (f := 59) rfl ?_); refine gL 7 Try.func59 #[.slice A0 l0.length c0, .func (.func 36) #[] #[]] (Xl.calls k _ _ l0 t175 _ (zc HR0.out) HC0.out A2.out) ?_; rintro e w' ⟨rfl, ⟨nd, rfl⟩⟩; refine ⟨_, rfl, ?_⟩))
 go_ret
 exact ⟨J4, J9⟩
def X2.j0 : Nat → List Int → List (S38) → Bool → Option (Int × List Int × List Int × (List (S38)) × Bool)
 | 0, _, _, _ => none
 | k + 1, x0, x1, x30 => if x30 = true then (some (0, ([] : List Int), ([] : List Int), ([] : List (S38)), false)) else ((Xae.f x0).bind fun t180 => ((Xat.f k x1).bind fun bt184 => (if bt184.2 = true then (if (x1.length : Int) > 0 then ((X8.f k bt184.1).bind fun t188 => (if t188 = true then (some (2, t180, bt184.1, ([] : List (S38)), true)) else (some (1, t180, bt184.1, ([] : List (S38)), true)))) else (some (2, t180, bt184.1, ([] : List (S38)), true))) else ((Xb7.f x1).bind fun t189 => (some (4, t180, ([] : List Int), t189, true))))))
def X2.f (k : Nat) (l0 : List Int) (l1 : List (S38)) : Option (Int × List Int × List Int × (List (S38)) × Bool) := (Xz.f k l0).bind fun bt177 => (if bt177.2 = true then (if bt177.1 = (l1.length : Int) then ((Xby.f k l1).bind fun t179 => (X2.j0 k l0 l1 t179)) else (X2.j0 k l0 l1 true)) else (X2.j0 k l0 l1 true))
theorem X2.mono_l : ∀ k, (∀ y0 y1 y2, LeO (X2.j0 k y0 y1 y2) (X2.j0 (k + 1) y0 y1 y2))
 | 0 => fun _ _ _ r h => by simp [X2.j0] at h
 | k + 1 => by
  have ih0 := X2.mono_l k
  ·intro y0 y1 y2
   unfold X2.j0
   have im0 := @Xby.mono
   have im1 := @Xz.mono
   have im2 := @X8.mono
   have im3 := @Xat.mono
   exact mz5
theorem X2.mono : ∀ a0 a1 k, LeO (X2.f k a0 a1) (X2.f (k + 1) a0 a1) := by
 intro a0 a1 k
 have ih0 := X2.mono_l k
 unfold X2.f
 have im0 := @Xby.mono
 have im1 := @Xz.mono
 have im2 := @X8.mono
 have im3 := @Xat.mono
 exact mz5
set_option maxHeartbeats 8000000 in
set_option maxRecDepth 100000 in
theorem X2.calls (k : Nat) (A0 : Option Addr) (c0 : Nat) (l0 : List Int) (A1 : Option Addr) (c1 : Nat) (l1 : List (S38)) (r1 : Int) (r2 : List Int) (r3 : List Int) (r4 : List (S38)) (r5 : Bool) (w : World) (hr0 : Kd.C (Kd.int .i64) w A0 l0.length l0) (hc0 : l0.length ≤ c0) (hr1 : Kd.C k38 w A1 l1.length l1) (hc1 : l1.length ≤ c1) (h : X2.f k l0 l1 = some (r1, r2, r3, r4, r5)) :
  Calls Try.prog 13 #[.slice A0 l0.length c0, .slice A1 l1.length c1] w fun e w' => ∃ v1_ v2_ v3_ : Value, e = .returned (.tuple #[.agg #[.int .i64 r1, v1_, v2_, v3_], .bool r5]) ∧ Kd.R (Kd.int .i64) 3 w' w.heap.size (fun k_ => some k_ ≠ (v2_ : Value).ownBlock) v1_ r2 ∧ Kd.R (Kd.int .i64) 3 w' w.heap.size (fun k_ => some k_ ≠ (v1_ : Value).ownBlock) v2_ r3 ∧ Kd.R k38 38 w' w.heap.size (fun _ => True) v3_ r4 ∧ Below w.heap.size w w' := by
 have hu30 := Try.underlying30
 have HR0 := zq hr0
 have HC0 := zq hc0
 clear hr0 hc0
 have HR1 := zq hr1
 have HC1 := zq hc1
 clear hr1 hc1
 have HB := zq (Below.refl w.heap.size w)
 unfold X2.f at h
 have H := h
 clear h
 refine yv H ?_; clear H; rintro ⟨t177, t178⟩ A3 H
 dsimp only at H
 have HC4 := zq H
 clear H
 go_enter Try.func13, Try.ntmps13
 go_upto_region 3 with (first | ((with_reducible refine Xj (N := 4) rfl ?_); (try (refine Xw J63 ?_; dsimp only)); refine bxw 4 30 #[.int .i64 0, .slice none 0 0, .slice none 0 0, .slice none 0 0] ?_; intro gb176 hg w5 hbox hb; have BK176 := zq (hbox); have GE176 := zq ((J22 : w.heap.size ≤ gb176)); replace HB := zq (Xe J0 hb); clear hb hbox hg) | ((with_reducible refine Xi (f := 32) rfl ?_); refine gL 15 Try.func32 #[.slice A0 l0.length c0] (Xz.calls k _ _ l0 t177 t178 _ (zc (ac HR0.out HB.out)) HC0.out A3.out) ?_; rintro e w' ⟨rfl, ⟨nd, rfl⟩⟩; refine ⟨_, rfl, ?_⟩))
 (try simp only [Act.put, List.setIfInBounds_toArray, List.set_cons_zero, List.set_cons_succ])
 go_cut [30] (fun v30 wc => ∃ (kq : Nat) (x30_3 : Bool), v30 = .bool x30_3 ∧ Aside0 (X2.j0 kq l0 l1 x30_3 = some (r1, r2, r3, r4, r5)) ∧ Aside0 (kq ≤ k) ∧ Aside0 (wc.heap[gb176]? = some (.cells #[.int .i64 0, (.slice none 0 0), (.slice none 0 0), (.slice none 0 0)] 30 (0, 0))) ∧ Aside0 (Below w.heap.size w wc))
 case first =>
  have H := HC4.out
  clear HC4
  refine yB H ?_ ?_ <;> clear H <;> rintro rfl H
  ·have H' := zq H
   clear H
   go_wp2
   go_meet
   case rel => exact ⟨_, (true), J4, H', ⟨J32⟩, ⟨J113⟩, ⟨J68⟩⟩
  refine yE H ?_ ?_ <;> clear H <;> rintro ⟨c7b0, c7b1, c7⟩ H
  ·(first | rw [c7b0] | (simp only [Xan, Xaq]; rw [c7b0]) | skip)
   have H' := zq H
   clear H
   go_wp2
   go_meet
   case rel => exact ⟨_, (true), J4, H', ⟨J32⟩, ⟨J113⟩, ⟨J68⟩⟩
  clear c7
  (first | rw [c7b0] | (simp only [Xan, Xaq]; rw [c7b0]) | skip)
  refine yv H ?_; clear H; rintro t179 A8 H
  have H' := zq H
  clear H
  go_wp2_with (first | (go_at_call 33; (with_reducible refine (Xby.calls k _ _ l1 t179 _ ?side1 ?side2 A8.out).mono ?_); (case side1 => exact zc (ac HR1.out HB.out)); (case side2 => exact HC1.out); rintro e w9 ⟨rfl, hb⟩; replace BK176 := zq (Xg (zk BK176.out) hb); replace HB := zq (Xe (zs1 GE176.out) hb); (try clear hb); (try clear hk)))
  go_meet
  case rel => exact ⟨_, (t179), J4, H', ⟨J32⟩, ⟨J113⟩, ⟨J68⟩⟩
 case rest =>
  clear HC4
  try clear c1
  obtain ⟨kq, x30_3, rfl, HA, HJ3, BK176, HB⟩ := hcut
  cases kq with
  | zero => exact absurd HA.out (by simp [X2.j0])
  | succ kj3 =>
   have H := HA.out
   clear HA
   simp only [X2.j0] at H
   refine yC H ?_ ?_ <;> clear H <;> rintro rfl H
   ·obtain ⟨rfl, rfl, rfl, rfl, rfl⟩ := yp5 H
    have Z11 := cz4 BK176.out
    go_wp2
    refine bodyPost_ret (Xa6 rfl _ _ gb176 30 #[.int .i64 0, .slice none 0 0, .slice none 0 0, .slice none 0 0] (0, 0) _ rfl (by (with_reducible repeat (first | refine Xd ?_ _ | refine Xf ?_ | refine Xb ?_ _)); refine Xk (cs := #[.int .i64 0, .slice none 0 0, .slice none 0 0, .slice none 0 0]) ?_ 3 _ rfl; (with_reducible repeat (first | refine Xd ?_ _ | refine Xf ?_ | refine Xb ?_ _)); refine Xk (cs := #[.int .i64 0, .slice none 0 0, .slice none 0 0, .slice none 0 0]) ?_ 2 _ rfl; (with_reducible repeat (first | refine Xd ?_ _ | refine Xf ?_ | refine Xb ?_ _)); refine Xk (cs := #[.int .i64 0, .slice none 0 0, .slice none 0 0, .slice none 0 0]) ?_ 1 _ rfl; (with_reducible repeat (first | refine Xd ?_ _ | refine Xf ?_ | refine Xb ?_ _)); refine Xk (cs := #[.int .i64 0, .slice none 0 0, .slice none 0 0, .slice none 0 0]) ?_ 0 _ rfl; (with_reducible repeat (first | refine Xd ?_ _ | refine Xf ?_ | refine Xb ?_ _)); exact BK176.out) Try.underlying30 rfl J17) rfl ?_
    exact ⟨_, _, _, J1, J8, J8, J8, J68⟩
   refine yv H ?_; clear H; rintro t180 A12 H
   refine yv H ?_; clear H; rintro ⟨t184, t185⟩ A13 H
   dsimp only at H
   refine yB H ?_ ?_ <;> clear H <;> rintro rfl H
   ·refine yv H ?_; clear H; rintro t189 A45 H
    obtain ⟨rfl, rfl, rfl, rfl, rfl⟩ := yp5 H
    go_wp2_with (first | ((with_reducible refine Xi (f := 34) rfl ?_); refine gL 33 Try.func34 #[.slice A0 l0.length c0] (Xae.calls _ _ l0 t180 _ (zc (ac HR0.out HB.out)) HC0.out A12.out) ?_; rintro e w46 ⟨v181, rfl, ho0, hb⟩; refine ⟨_, rfl, ?_⟩; have HO182 := zq (ag ho0 (Xc (zs1 GE176.out))); replace BK176 := zq (Xg (zk BK176.out) hb); replace HB := zq (Xe (zs1 GE176.out) hb); (try clear hb); (try clear hk); (try clear ho0); obtain ⟨Ao47, co47, eo47⟩ := ah HO182.out; subst eo47) | ((with_reducible refine Xj (N := 9) rfl ?_); (try (refine Xw J63 ?_; dsimp only)); refine bxw 9 30 #[.int .i64 0, .slice none 0 0, .slice none 0 0, .slice none 0 0] ?_; intro gb183 hg w48 hbox hb; replace HO182 := zq (ab (zr HO182.out) hb); have BK183 := zq (hbox); have GE183 := zq ((J149 : w.heap.size ≤ gb183)); replace HB := zq (Xe (zs1 GE176.out) hb); have NB176_183 := zq ((J79 : gb176 ≠ gb183)); have NB183_176 := zq ((J80 : gb183 ≠ gb176)); replace BK176 := zq (Xg (zk BK176.out) hb); clear hb hbox hg; have hnb49 := NB183_176.out; have hnc49 := NB176_183.out; have Z50 := cz4 BK183.out) | ((with_reducible refine Xi (f := 35) rfl ?_); refine gL 37 Try.func35 #[.slice A1 l1.length c1] (Xat.calls kj3 _ _ l1 t184 false _ (ac HR1.out (zs2 GE176.out GE183.out)) HC1.out A13.out) ?_; rintro e w51 ⟨v186, rfl, ho0, hb⟩; refine ⟨_, rfl, ?_⟩; replace HO182 := zq (ay J46 (aa ho0) hb); replace BK176 := zq (Xg (g := gb176) (o := .cells #[.int .i64 0, .slice none 0 0, .slice none 0 0, .slice none 0 0] 30 (0, 0)) J18 hb); replace BK183 := zq (Xg (g := gb183) (o := .cells #[.int .i64 2, .slice Ao47 t180.length co47, .slice none 0 0, .slice none 0 0] 30 (0, 0)) (by (with_reducible repeat (first | refine Xd ?_ _ | refine Xf ?_ | refine Xb ?_ _)); refine Xk (cs := #[.int .i64 2, .slice Ao47 t180.length co47, .slice none 0 0, .slice none 0 0]) ?_ 3 _ rfl; (with_reducible repeat (first | refine Xd ?_ _ | refine Xf ?_ | refine Xb ?_ _)); refine Xk (cs := #[.int .i64 2, .slice Ao47 t180.length co47, .slice none 0 0, .slice none 0 0]) ?_ 2 _ rfl; (with_reducible repeat (first | refine Xd ?_ _ | refine Xf ?_ | refine Xb ?_ _)); refine Xk (cs := #[.int .i64 2, .slice none 0 0, .slice none 0 0, .slice none 0 0]) ?_ 1 _ rfl; (with_reducible repeat (first | refine Xd ?_ _ | refine Xf ?_ | refine Xb ?_ _)); refine Xk (cs := #[.int .i64 0, .slice none 0 0, .slice none 0 0, .slice none 0 0]) ?_ 0 _ rfl; (with_reducible repeat (first | refine Xd ?_ _ | refine Xf ?_ | refine Xb ?_ _)); exact BK183.out) hb); replace HB := zq (Xe (zs2 GE176.out GE183.out) hb); (try clear hb); (try clear hk); (try clear ho0)) | ((with_reducible refine Xi (f := 37) rfl ?_); refine gL 44 Try.func37 #[.slice A1 l1.length c1] (Xb7.calls _ _ l1 t189 _ (zc (ac HR1.out HB.out)) HC1.out A45.out) ?_; rintro e w52 ⟨v190, rfl, ho0, hb⟩; refine ⟨_, rfl, ?_⟩; replace HO182 := zq (ab (zr HO182.out) hb); have HO191 := zq (ag ho0 (Xc (zs2 GE176.out GE183.out))); replace BK176 := zq (Xg (zk BK176.out) hb); replace BK183 := zq (Xg (zk BK183.out) hb); replace HB := zq (Xe (zs2 GE176.out GE183.out) hb); (try clear hb); (try clear hk); (try clear ho0); have Z53 := cz4 BK183.out; obtain ⟨Ao54, co54, eo54⟩ := ah HO191.out; subst eo54; have Z55 := cz4 BK176.out))
    refine bodyPost_ret (Xa6 rfl _ _ gb176 30 #[.int .i64 4, .slice Ao47 t180.length co47, .slice none 0 0, .slice Ao54 t189.length co54] (0, 0) _ rfl (by (with_reducible repeat (first | refine Xd ?_ _ | refine Xf ?_ | refine Xb ?_ _)); refine Xk (cs := #[.int .i64 4, .slice Ao47 t180.length co47, .slice none 0 0, .slice none 0 0]) ?_ 3 _ rfl; (with_reducible repeat (first | refine Xd ?_ _ | refine Xf ?_ | refine Xb ?_ _)); refine Xk (cs := #[.int .i64 4, .slice Ao47 t180.length co47, .slice none 0 0, .slice none 0 0]) ?_ 2 _ rfl; (with_reducible repeat (first | refine Xd ?_ _ | refine Xf ?_ | refine Xb ?_ _)); refine Xk (cs := #[.int .i64 4, .slice none 0 0, .slice none 0 0, .slice none 0 0]) ?_ 1 _ rfl; (with_reducible repeat (first | refine Xd ?_ _ | refine Xf ?_ | refine Xb ?_ _)); refine Xk (cs := #[.int .i64 0, .slice none 0 0, .slice none 0 0, .slice none 0 0]) ?_ 0 _ rfl; (with_reducible repeat (first | refine Xd ?_ _ | refine Xf ?_ | refine Xb ?_ _)); refine Xab ?_ NB176_183.out _; (with_reducible repeat (first | refine Xd ?_ _ | refine Xf ?_ | refine Xb ?_ _)); refine Xab ?_ NB176_183.out _; (with_reducible repeat (first | refine Xd ?_ _ | refine Xf ?_ | refine Xb ?_ _)); exact BK176.out) Try.underlying30 rfl J17) rfl ?_
    exact ⟨_, _, _, J1, by (with_reducible repeat (first | apply Kd.R_alloc | apply ai | apply ak)); exact af (fR4 (aX (p := ⟨gb183, 3, none⟩) (aX (p := ⟨gb183, 0, none⟩) (al (al HO182.out BK183.out J14) BK176.out J14) (fun _ hk => hk.1.2) (.int .i64 4)) (fun _ hk => hk.1.2) (.slice Ao54 t189.length co54))) (fun _ hk => J118), J8, by (with_reducible repeat (first | apply Kd.R_alloc | apply ai | apply ak)); exact af (fR4 (aX (p := ⟨gb183, 3, none⟩) (aX (p := ⟨gb183, 0, none⟩) (al (al HO191.out BK183.out J14) BK176.out J14) (fun _ hk => hk.1.2) (.int .i64 4)) (fun _ hk => hk.1.2) (.slice Ao54 t189.length co54))) (fun _ hk => trivial), J56⟩
   refine yt H ?_ ?_ <;> clear H <;> rintro c15 H
   ·have c15b0 : decide (0 < (l1.length : Int)) = false := decide_eq_false c15
    have c15b1 : decide (0 < l1.length) = false := decide_eq_false J29
    clear c15
    obtain ⟨rfl, rfl, rfl, rfl, rfl⟩ := yp5 H
    go_wp2_with (first | ((with_reducible refine Xi (f := 34) rfl ?_); refine gL 33 Try.func34 #[.slice A0 l0.length c0] (Xae.calls _ _ l0 t180 _ (zc (ac HR0.out HB.out)) HC0.out A12.out) ?_; rintro e w36 ⟨v181, rfl, ho0, hb⟩; refine ⟨_, rfl, ?_⟩; have HO182 := zq (ag ho0 (Xc (zs1 GE176.out))); replace BK176 := zq (Xg (zk BK176.out) hb); replace HB := zq (Xe (zs1 GE176.out) hb); (try clear hb); (try clear hk); (try clear ho0); obtain ⟨Ao37, co37, eo37⟩ := ah HO182.out; subst eo37) | ((with_reducible refine Xj (N := 9) rfl ?_); (try (refine Xw J63 ?_; dsimp only)); refine bxw 9 30 #[.int .i64 0, .slice none 0 0, .slice none 0 0, .slice none 0 0] ?_; intro gb183 hg w38 hbox hb; replace HO182 := zq (ab (zr HO182.out) hb); have BK183 := zq (hbox); have GE183 := zq ((J149 : w.heap.size ≤ gb183)); replace HB := zq (Xe (zs1 GE176.out) hb); have NB176_183 := zq ((J79 : gb176 ≠ gb183)); have NB183_176 := zq ((J80 : gb183 ≠ gb176)); replace BK176 := zq (Xg (zk BK176.out) hb); clear hb hbox hg; have hnb39 := NB183_176.out; have hnc39 := NB176_183.out; have Z40 := cz4 BK183.out) | ((with_reducible refine Xi (f := 35) rfl ?_); refine gL 37 Try.func35 #[.slice A1 l1.length c1] (Xat.calls kj3 _ _ l1 t184 true _ (ac HR1.out (zs2 GE176.out GE183.out)) HC1.out A13.out) ?_; rintro e w41 ⟨v186, rfl, ho0, hb⟩; refine ⟨_, rfl, ?_⟩; have HO187 := zq (ag (aW ho0 (aY J46)) (Xc (zs2 GE176.out GE183.out))); replace HO182 := zq (ay J46 (aa ho0) hb); replace BK176 := zq (Xg (g := gb176) (o := .cells #[.int .i64 0, .slice none 0 0, .slice none 0 0, .slice none 0 0] 30 (0, 0)) J18 hb); replace BK183 := zq (Xg (g := gb183) (o := .cells #[.int .i64 2, .slice Ao37 t180.length co37, .slice none 0 0, .slice none 0 0] 30 (0, 0)) (by (with_reducible repeat (first | refine Xd ?_ _ | refine Xf ?_ | refine Xb ?_ _)); refine Xk (cs := #[.int .i64 2, .slice Ao37 t180.length co37, .slice none 0 0, .slice none 0 0]) ?_ 3 _ rfl; (with_reducible repeat (first | refine Xd ?_ _ | refine Xf ?_ | refine Xb ?_ _)); refine Xk (cs := #[.int .i64 2, .slice Ao37 t180.length co37, .slice none 0 0, .slice none 0 0]) ?_ 2 _ rfl; (with_reducible repeat (first | refine Xd ?_ _ | refine Xf ?_ | refine Xb ?_ _)); refine Xk (cs := #[.int .i64 2, .slice none 0 0, .slice none 0 0, .slice none 0 0]) ?_ 1 _ rfl; (with_reducible repeat (first | refine Xd ?_ _ | refine Xf ?_ | refine Xb ?_ _)); refine Xk (cs := #[.int .i64 0, .slice none 0 0, .slice none 0 0, .slice none 0 0]) ?_ 0 _ rfl; (with_reducible repeat (first | refine Xd ?_ _ | refine Xf ?_ | refine Xb ?_ _)); exact BK183.out) hb); replace HB := zq (Xe (zs2 GE176.out GE183.out) hb); (try clear hb); (try clear hk); (try clear ho0); obtain ⟨Ao42, co42, eo42⟩ := ah HO187.out; subst eo42; have Z43 := cz4 BK183.out; have Z44 := cz4 BK176.out))
    refine bodyPost_ret (Xa6 rfl _ _ gb176 30 #[.int .i64 2, .slice Ao37 t180.length co37, .slice Ao42 t184.length co42, .slice none 0 0] (0, 0) _ rfl (by (with_reducible repeat (first | refine Xd ?_ _ | refine Xf ?_ | refine Xb ?_ _)); refine Xk (cs := #[.int .i64 2, .slice Ao37 t180.length co37, .slice Ao42 t184.length co42, .slice none 0 0]) ?_ 3 _ rfl; (with_reducible repeat (first | refine Xd ?_ _ | refine Xf ?_ | refine Xb ?_ _)); refine Xk (cs := #[.int .i64 2, .slice Ao37 t180.length co37, .slice none 0 0, .slice none 0 0]) ?_ 2 _ rfl; (with_reducible repeat (first | refine Xd ?_ _ | refine Xf ?_ | refine Xb ?_ _)); refine Xk (cs := #[.int .i64 2, .slice none 0 0, .slice none 0 0, .slice none 0 0]) ?_ 1 _ rfl; (with_reducible repeat (first | refine Xd ?_ _ | refine Xf ?_ | refine Xb ?_ _)); refine Xk (cs := #[.int .i64 0, .slice none 0 0, .slice none 0 0, .slice none 0 0]) ?_ 0 _ rfl; (with_reducible repeat (first | refine Xd ?_ _ | refine Xf ?_ | refine Xb ?_ _)); refine Xab ?_ NB176_183.out _; (with_reducible repeat (first | refine Xd ?_ _ | refine Xf ?_ | refine Xb ?_ _)); exact BK176.out) Try.underlying30 rfl J17) rfl ?_
    exact ⟨_, _, _, J1, by (with_reducible repeat (first | apply Kd.R_alloc | apply ai | apply ak)); exact af (fR4 (aX (p := ⟨gb183, 2, none⟩) (al (al HO182.out BK183.out J14) BK176.out J14) (fun _ hk => hk.1.2) (.slice Ao42 t184.length co42))) (fun _ hk => by first | exact hk.1.1.2 | exact hk.1.1), by (with_reducible repeat (first | apply Kd.R_alloc | apply ai | apply ak)); exact af (fR4 (aX (p := ⟨gb183, 2, none⟩) (al (al HO187.out BK183.out J14) BK176.out J14) (fun _ hk => hk.1.2) (.slice Ao42 t184.length co42))) (fun _ hk => by first | exact hk.1.1.2 | exact hk.1.1), J8, J56⟩
   have c15b0 := decide_eq_true c15
   have c15b1 : decide (0 < l1.length) = true := decide_eq_true J29
   clear c15
   refine yv H ?_; clear H; rintro t188 A16 H
   refine yC H ?_ ?_ <;> clear H <;> rintro rfl H
   ·obtain ⟨rfl, rfl, rfl, rfl, rfl⟩ := yp5 H
    go_wp2_with (first | ((with_reducible refine Xi (f := 34) rfl ?_); refine gL 33 Try.func34 #[.slice A0 l0.length c0] (Xae.calls _ _ l0 t180 _ (zc (ac HR0.out HB.out)) HC0.out A12.out) ?_; rintro e w18 ⟨v181, rfl, ho0, hb⟩; refine ⟨_, rfl, ?_⟩; have HO182 := zq (ag ho0 (Xc (zs1 GE176.out))); replace BK176 := zq (Xg (zk BK176.out) hb); replace HB := zq (Xe (zs1 GE176.out) hb); (try clear hb); (try clear hk); (try clear ho0); obtain ⟨Ao19, co19, eo19⟩ := ah HO182.out; subst eo19) | ((with_reducible refine Xj (N := 9) rfl ?_); (try (refine Xw J63 ?_; dsimp only)); refine bxw 9 30 #[.int .i64 0, .slice none 0 0, .slice none 0 0, .slice none 0 0] ?_; intro gb183 hg w20 hbox hb; replace HO182 := zq (ab (zr HO182.out) hb); have BK183 := zq (hbox); have GE183 := zq ((J149 : w.heap.size ≤ gb183)); replace HB := zq (Xe (zs1 GE176.out) hb); have NB176_183 := zq ((J79 : gb176 ≠ gb183)); have NB183_176 := zq ((J80 : gb183 ≠ gb176)); replace BK176 := zq (Xg (zk BK176.out) hb); clear hb hbox hg; have hnb21 := NB183_176.out; have hnc21 := NB176_183.out; have Z22 := cz4 BK183.out) | ((with_reducible refine Xi (f := 35) rfl ?_); refine gL 37 Try.func35 #[.slice A1 l1.length c1] (Xat.calls kj3 _ _ l1 t184 true _ (ac HR1.out (zs2 GE176.out GE183.out)) HC1.out A13.out) ?_; rintro e w23 ⟨v186, rfl, ho0, hb⟩; refine ⟨_, rfl, ?_⟩; have HO187 := zq (ag (aW ho0 (aY J46)) (Xc (zs2 GE176.out GE183.out))); replace HO182 := zq (ay J46 (aa ho0) hb); replace BK176 := zq (Xg (g := gb176) (o := .cells #[.int .i64 0, .slice none 0 0, .slice none 0 0, .slice none 0 0] 30 (0, 0)) J18 hb); replace BK183 := zq (Xg (g := gb183) (o := .cells #[.int .i64 2, .slice Ao19 t180.length co19, .slice none 0 0, .slice none 0 0] 30 (0, 0)) (by (with_reducible repeat (first | refine Xd ?_ _ | refine Xf ?_ | refine Xb ?_ _)); refine Xk (cs := #[.int .i64 2, .slice Ao19 t180.length co19, .slice none 0 0, .slice none 0 0]) ?_ 3 _ rfl; (with_reducible repeat (first | refine Xd ?_ _ | refine Xf ?_ | refine Xb ?_ _)); refine Xk (cs := #[.int .i64 2, .slice Ao19 t180.length co19, .slice none 0 0, .slice none 0 0]) ?_ 2 _ rfl; (with_reducible repeat (first | refine Xd ?_ _ | refine Xf ?_ | refine Xb ?_ _)); refine Xk (cs := #[.int .i64 2, .slice none 0 0, .slice none 0 0, .slice none 0 0]) ?_ 1 _ rfl; (with_reducible repeat (first | refine Xd ?_ _ | refine Xf ?_ | refine Xb ?_ _)); refine Xk (cs := #[.int .i64 0, .slice none 0 0, .slice none 0 0, .slice none 0 0]) ?_ 0 _ rfl; (with_reducible repeat (first | refine Xd ?_ _ | refine Xf ?_ | refine Xb ?_ _)); exact BK183.out) hb); replace HB := zq (Xe (zs2 GE176.out GE183.out) hb); (try clear hb); (try clear hk); (try clear ho0); obtain ⟨Ao24, co24, eo24⟩ := ah HO187.out; subst eo24) | (go_at_call 38; (with_reducible refine (X8.calls kj3 _ _ t184 true _ ?side1 ?side2 A16.out).mono ?_); (case side1 => exact zc ((an HO187.out).2.2)); (case side2 => exact (an HO187.out).2.1); rintro e w' ⟨rfl, ⟨nd, rfl⟩⟩; (try (rw [drewN_self w23]; generalize hq_ : World.drewN w23 _ = w23; have n0_ : Aside0 (Kd.R (Kd.int .i64) 3 w23 w.heap.size (fun k_ => some k_ ≠ (.slice Ao24 t184.length co24 : Value).ownBlock) (.slice Ao19 t180.length co19) t180) := ⟨J142⟩; have n1_ : Aside0 (Kd.R (Kd.int .i64) 3 w23 w.heap.size (fun k_ => some k_ ≠ (.slice Ao19 t180.length co19 : Value).ownBlock) (.slice Ao24 t184.length co24) t184) := ⟨J143⟩; have n2_ : Aside0 (w23.heap[gb176]? = some (.cells #[.int .i64 0, .slice none 0 0, .slice none 0 0, .slice none 0 0] 30 (0, 0))) := ⟨by rw [← hq_]; exact (zk BK176.out)⟩; have n3_ : Aside0 (w23.heap[gb183]? = some (.cells #[.int .i64 2, .slice Ao19 t180.length co19, .slice none 0 0, .slice none 0 0] 30 (0, 0))) := ⟨by rw [← hq_]; exact (zk BK183.out)⟩; have n4_ : Aside0 (Below w.heap.size w w23) := ⟨by rw [← hq_]; exact (zs2 GE176.out GE183.out)⟩; clear HO182 HO187 BK176 BK183 HB hq_; have HO182 := n0_; have HO187 := n1_; have BK176 := n2_; have BK183 := n3_; have HB := n4_; clear n0_ n1_ n2_ n3_ n4_)); have Z25 := cz4 BK183.out; have Z26 := cz4 BK176.out))
    refine bodyPost_ret (Xa6 rfl _ _ gb176 30 #[.int .i64 2, .slice Ao19 t180.length co19, .slice Ao24 t184.length co24, .slice none 0 0] (0, 0) _ rfl (by (with_reducible repeat (first | refine Xd ?_ _ | refine Xf ?_ | refine Xb ?_ _)); refine Xk (cs := #[.int .i64 2, .slice Ao19 t180.length co19, .slice Ao24 t184.length co24, .slice none 0 0]) ?_ 3 _ rfl; (with_reducible repeat (first | refine Xd ?_ _ | refine Xf ?_ | refine Xb ?_ _)); refine Xk (cs := #[.int .i64 2, .slice Ao19 t180.length co19, .slice none 0 0, .slice none 0 0]) ?_ 2 _ rfl; (with_reducible repeat (first | refine Xd ?_ _ | refine Xf ?_ | refine Xb ?_ _)); refine Xk (cs := #[.int .i64 2, .slice none 0 0, .slice none 0 0, .slice none 0 0]) ?_ 1 _ rfl; (with_reducible repeat (first | refine Xd ?_ _ | refine Xf ?_ | refine Xb ?_ _)); refine Xk (cs := #[.int .i64 0, .slice none 0 0, .slice none 0 0, .slice none 0 0]) ?_ 0 _ rfl; (with_reducible repeat (first | refine Xd ?_ _ | refine Xf ?_ | refine Xb ?_ _)); refine Xab ?_ NB176_183.out _; (with_reducible repeat (first | refine Xd ?_ _ | refine Xf ?_ | refine Xb ?_ _)); exact BK176.out) Try.underlying30 rfl J17) rfl ?_
    exact ⟨_, _, _, J1, by (with_reducible repeat (first | apply Kd.R_alloc | apply ai | apply ak)); exact af (fR4 (aX (p := ⟨gb183, 2, none⟩) (al (al HO182.out BK183.out J14) BK176.out J14) (fun _ hk => hk.1.2) (.slice Ao24 t184.length co24))) (fun _ hk => by first | exact hk.1.1.2 | exact hk.1.1), by (with_reducible repeat (first | apply Kd.R_alloc | apply ai | apply ak)); exact af (fR4 (aX (p := ⟨gb183, 2, none⟩) (al (al HO187.out BK183.out J14) BK176.out J14) (fun _ hk => hk.1.2) (.slice Ao24 t184.length co24))) (fun _ hk => by first | exact hk.1.1.2 | exact hk.1.1), J8, J56⟩
   obtain ⟨rfl, rfl, rfl, rfl, rfl⟩ := yp5 H
   go_wp2_with (first | ((with_reducible refine Xi (f := 34) rfl ?_); refine gL 33 Try.func34 #[.slice A0 l0.length c0] (Xae.calls _ _ l0 t180 _ (zc (ac HR0.out HB.out)) HC0.out A12.out) ?_; rintro e w27 ⟨v181, rfl, ho0, hb⟩; refine ⟨_, rfl, ?_⟩; have HO182 := zq (ag ho0 (Xc (zs1 GE176.out))); replace BK176 := zq (Xg (zk BK176.out) hb); replace HB := zq (Xe (zs1 GE176.out) hb); (try clear hb); (try clear hk); (try clear ho0); obtain ⟨Ao28, co28, eo28⟩ := ah HO182.out; subst eo28) | ((with_reducible refine Xj (N := 9) rfl ?_); (try (refine Xw J63 ?_; dsimp only)); refine bxw 9 30 #[.int .i64 0, .slice none 0 0, .slice none 0 0, .slice none 0 0] ?_; intro gb183 hg w29 hbox hb; replace HO182 := zq (ab (zr HO182.out) hb); have BK183 := zq (hbox); have GE183 := zq ((J149 : w.heap.size ≤ gb183)); replace HB := zq (Xe (zs1 GE176.out) hb); have NB176_183 := zq ((J79 : gb176 ≠ gb183)); have NB183_176 := zq ((J80 : gb183 ≠ gb176)); replace BK176 := zq (Xg (zk BK176.out) hb); clear hb hbox hg; have hnb30 := NB183_176.out; have hnc30 := NB176_183.out; have Z31 := cz4 BK183.out) | ((with_reducible refine Xi (f := 35) rfl ?_); refine gL 37 Try.func35 #[.slice A1 l1.length c1] (Xat.calls kj3 _ _ l1 t184 true _ (ac HR1.out (zs2 GE176.out GE183.out)) HC1.out A13.out) ?_; rintro e w32 ⟨v186, rfl, ho0, hb⟩; refine ⟨_, rfl, ?_⟩; have HO187 := zq (ag (aW ho0 (aY J46)) (Xc (zs2 GE176.out GE183.out))); replace HO182 := zq (ay J46 (aa ho0) hb); replace BK176 := zq (Xg (g := gb176) (o := .cells #[.int .i64 0, .slice none 0 0, .slice none 0 0, .slice none 0 0] 30 (0, 0)) J18 hb); replace BK183 := zq (Xg (g := gb183) (o := .cells #[.int .i64 2, .slice Ao28 t180.length co28, .slice none 0 0, .slice none 0 0] 30 (0, 0)) (by (with_reducible repeat (first | refine Xd ?_ _ | refine Xf ?_ | refine Xb ?_ _)); refine Xk (cs := #[.int .i64 2, .slice Ao28 t180.length co28, .slice none 0 0, .slice none 0 0]) ?_ 3 _ rfl; (with_reducible repeat (first | refine Xd ?_ _ | refine Xf ?_ | refine Xb ?_ _)); refine Xk (cs := #[.int .i64 2, .slice Ao28 t180.length co28, .slice none 0 0, .slice none 0 0]) ?_ 2 _ rfl; (with_reducible repeat (first | refine Xd ?_ _ | refine Xf ?_ | refine Xb ?_ _)); refine Xk (cs := #[.int .i64 2, .slice none 0 0, .slice none 0 0, .slice none 0 0]) ?_ 1 _ rfl; (with_reducible repeat (first | refine Xd ?_ _ | refine Xf ?_ | refine Xb ?_ _)); refine Xk (cs := #[.int .i64 0, .slice none 0 0, .slice none 0 0, .slice none 0 0]) ?_ 0 _ rfl; (with_reducible repeat (first | refine Xd ?_ _ | refine Xf ?_ | refine Xb ?_ _)); exact BK183.out) hb); replace HB := zq (Xe (zs2 GE176.out GE183.out) hb); (try clear hb); (try clear hk); (try clear ho0); obtain ⟨Ao33, co33, eo33⟩ := ah HO187.out; subst eo33) | (go_at_call 38; (with_reducible refine (X8.calls kj3 _ _ t184 false _ ?side1 ?side2 A16.out).mono ?_); (case side1 => exact zc ((an HO187.out).2.2)); (case side2 => exact (an HO187.out).2.1); rintro e w' ⟨rfl, ⟨nd, rfl⟩⟩; (try (rw [drewN_self w32]; generalize hq_ : World.drewN w32 _ = w32; have n0_ : Aside0 (Kd.R (Kd.int .i64) 3 w32 w.heap.size (fun k_ => some k_ ≠ (.slice Ao33 t184.length co33 : Value).ownBlock) (.slice Ao28 t180.length co28) t180) := ⟨J142⟩; have n1_ : Aside0 (Kd.R (Kd.int .i64) 3 w32 w.heap.size (fun k_ => some k_ ≠ (.slice Ao28 t180.length co28 : Value).ownBlock) (.slice Ao33 t184.length co33) t184) := ⟨J143⟩; have n2_ : Aside0 (w32.heap[gb176]? = some (.cells #[.int .i64 0, .slice none 0 0, .slice none 0 0, .slice none 0 0] 30 (0, 0))) := ⟨by rw [← hq_]; exact (zk BK176.out)⟩; have n3_ : Aside0 (w32.heap[gb183]? = some (.cells #[.int .i64 2, .slice Ao28 t180.length co28, .slice none 0 0, .slice none 0 0] 30 (0, 0))) := ⟨by rw [← hq_]; exact (zk BK183.out)⟩; have n4_ : Aside0 (Below w.heap.size w w32) := ⟨by rw [← hq_]; exact (zs2 GE176.out GE183.out)⟩; clear HO182 HO187 BK176 BK183 HB hq_; have HO182 := n0_; have HO187 := n1_; have BK176 := n2_; have BK183 := n3_; have HB := n4_; clear n0_ n1_ n2_ n3_ n4_)); have Z34 := cz4 BK183.out; have Z35 := cz4 BK176.out))
   refine bodyPost_ret (Xa6 rfl _ _ gb176 30 #[.int .i64 1, .slice Ao28 t180.length co28, .slice Ao33 t184.length co33, .slice none 0 0] (0, 0) _ rfl (by (with_reducible repeat (first | refine Xd ?_ _ | refine Xf ?_ | refine Xb ?_ _)); refine Xk (cs := #[.int .i64 1, .slice Ao28 t180.length co28, .slice Ao33 t184.length co33, .slice none 0 0]) ?_ 3 _ rfl; (with_reducible repeat (first | refine Xd ?_ _ | refine Xf ?_ | refine Xb ?_ _)); refine Xk (cs := #[.int .i64 1, .slice Ao28 t180.length co28, .slice none 0 0, .slice none 0 0]) ?_ 2 _ rfl; (with_reducible repeat (first | refine Xd ?_ _ | refine Xf ?_ | refine Xb ?_ _)); refine Xk (cs := #[.int .i64 1, .slice none 0 0, .slice none 0 0, .slice none 0 0]) ?_ 1 _ rfl; (with_reducible repeat (first | refine Xd ?_ _ | refine Xf ?_ | refine Xb ?_ _)); refine Xk (cs := #[.int .i64 0, .slice none 0 0, .slice none 0 0, .slice none 0 0]) ?_ 0 _ rfl; (with_reducible repeat (first | refine Xd ?_ _ | refine Xf ?_ | refine Xb ?_ _)); refine Xab ?_ NB176_183.out _; (with_reducible repeat (first | refine Xd ?_ _ | refine Xf ?_ | refine Xb ?_ _)); refine Xab ?_ NB176_183.out _; (with_reducible repeat (first | refine Xd ?_ _ | refine Xf ?_ | refine Xb ?_ _)); exact BK176.out) Try.underlying30 rfl J17) rfl ?_
   exact ⟨_, _, _, J1, by (with_reducible repeat (first | apply Kd.R_alloc | apply ai | apply ak)); exact af (fR4 (aX (p := ⟨gb183, 2, none⟩) (aX (p := ⟨gb183, 0, none⟩) (al (al HO182.out BK183.out J14) BK176.out J14) (fun _ hk => hk.1.2) (.int .i64 1)) (fun _ hk => hk.1.2) (.slice Ao33 t184.length co33))) (fun _ hk => by first | exact hk.1.1.2 | exact hk.1.1), by (with_reducible repeat (first | apply Kd.R_alloc | apply ai | apply ak)); exact af (fR4 (aX (p := ⟨gb183, 2, none⟩) (aX (p := ⟨gb183, 0, none⟩) (al (al HO187.out BK183.out J14) BK176.out J14) (fun _ hk => hk.1.2) (.int .i64 1)) (fun _ hk => hk.1.2) (.slice Ao33 t184.length co33))) (fun _ hk => by first | exact hk.1.1.2 | exact hk.1.1), J8, J56⟩
def Xce.f (l0 : List (S30)) : Option ((List (S30))) := (some (([] : List (S30)) : List (S30))).bind fun y192 => (if y192.length + l0.length < 1759218604441 then (some (y192 ++ l0)) else (none))
set_option maxHeartbeats 8000000 in
set_option maxRecDepth 100000 in
theorem Xce.calls (P0_ : Nat → Prop) (A0 : Option Addr) (c0 : Nat) (l0 : List (S30)) (r : List (S30)) (w : World) (hs0 : Kd.V k30 30 w w.heap.size (fun k_ => P0_ k_) (.slice A0 l0.length c0) l0) (h : Xce.f l0 = some r) :
  Calls Try.prog 65 #[.slice A0 l0.length c0] w fun e w' => ∃ v0_ : Value, e = .returned (v0_) ∧ Kd.N k30 30 w' w.heap.size (fun k_ => (P0_ k_ ∨ w.heap.size ≤ k_)) v0_ r ∧ Below w.heap.size w w' := by
 cases A0 with
 | none =>
  obtain rfl : l0 = [] := by
   cases l0 with
   | nil => rfl
   | cons x_ y_ =>
    obtain ⟨ad_, c_, e_, _⟩ := bH (av hs0).2.2 z30 0 J29 (by rw [List.length_cons]; omega)
    exact absurd e_ J83
  have hn_ : ∀ W : World, (binOp .eql 22 (.slice none 0 c0) (.slice none 0 0)).run Try.prog W = .ok (.bool true) W := fun W => Lib.run_eql_slice_nil W 22 30 none _ c0 0 0 Try.underlying22
  rw [show ([] : List (S30)).length = 0 from rfl]
  go_enter Try.func65, Try.ntmps65
  go_wp2
  go_ret
  obtain rfl : r = [] := by simpa [Xce.f] using h.symm
  exact ⟨_, rfl, cl _ _ _ _ _, Below.refl _ _⟩
 | some a0_ =>
  have hn_ : ∀ W : World, (binOp .eql 22 (.slice (some a0_) l0.length c0) (.slice none 0 0)).run Try.prog W = .ok (.bool false) W := fun W => Lib.run_eql_slice_nil W 22 30 (some a0_) _ c0 0 0 Try.underlying22
  have HO0 := zq (show Kd.V k30 30 w w.heap.size (fun k_ => (P0_ k_ ∨ w.heap.size ≤ k_)) (.slice (some a0_) l0.length c0) l0 from aj hs0 (fun k_ hk => .inl hk))
  have HB := zq (Below.refl w.heap.size w)
  unfold Xce.f at h
  have H := h
  clear h
  refine yl H ?_; clear H; rintro y192 Ny192 H
  refine yu H ?_ ?_ <;> clear H <;> rintro c2 H
  ·have LMc2 := zq c2
   clear c2
   refine yS H ?_; clear H; rintro y195 Ny195 H
   obtain rfl := yo H
   go_enter Try.func65, Try.ntmps65
   go_wp2_with (first | ((with_reducible refine Xj (N := 5) rfl ?_); refine bF k30 _ 30 ?hg (N' := 5) ?hd (xs := ([] : List (S30))) (inner := []) (ok := (fun k_ => (P0_ k_ ∨ w.heap.size ≤ k_))) (okp := (fun k_ => (P0_ k_ ∨ w.heap.size ≤ k_))) ?hr ?hp (fun _ hk => hk) ((show ∀ k_, w.heap.size ≤ k_ → (fun k_ => (P0_ k_ ∨ w.heap.size ≤ k_)) k_ from fun k_ hk => (.inr (Nat.le_trans (Xc J0) hk))) _ (Nat.le_refl _)) (Below.refl _ _) (Nat.le_refl _) J83 ?_; (case hd => rfl); (case hg => rfl); (case hr => first | (go_simp; done) | (go_simp; rfl)); (case hp => exact (Reps.none _ _)); intro v193 w3 ho4 hb hg_ hnew_; clear hg_ hnew_; (first | rw [← Ny192.out] at ho4 | (simp only [Int.reduceToNat] at ho4; rw [← Ny192.out] at ho4)); replace HO0 := zq (am (zv HO0.out) (ao ho4) hb); have HO194 := zq (aH ho4 (Xc J0)); replace HB := zq (Xe J0 hb); clear hb ho4) | ((with_reducible refine Xa0 (b := .append) (xs := #[.tmp 5, .tmp 6]) rfl ?_); at_builtin; refine bj k30 (w0 := w) w.heap.size rfl (.tmp 5) (.tmp 6) 22 30 (.agg #[(.int .i64 0), (.slice none 0 0), (.slice none 0 0), (.slice none 0 0)]) 80 rfl Try.underlying22 Xck rfl J14 J29 v193 y192 l0 _ _ _ (fun k_ => (P0_ k_ ∨ w.heap.size ≤ k_)) (fun k_ => ((fun k_ => (P0_ k_ ∨ w.heap.size ≤ k_))) k_ ∧ some k_ ≠ (v193 : Value).ownBlock) rfl rfl ?aO ?aR (fun _ hk => hk) ?aF ?aB ?aS ?aL ?_; (case aR => exact (by skip; exact cF (aj (ok' := (fun k_ => ((fun k_ => (P0_ k_ ∨ w.heap.size ≤ k_))) k_ ∧ some k_ ≠ (v193 : Value).ownBlock)) (HO0.out) (fun k_ hk => ⟨hk.1, hk.2⟩)))); (case aB => exact J0); (case aF => exact (fun k_ hk => (.inr (Nat.le_trans (Xc J0) hk)))); (case aO => exact (zn HO194.out)); (case aS => exact (Xc J0)); (case aL => have := LMc2.out; omega); intro v196 w5 ho hb hg hat; rw [← Ny195.out] at ho; replace HO0 := zq (aN (ok := (fun k_ => (P0_ k_ ∨ w.heap.size ≤ k_))) (zv HO0.out) hg hat); replace HB := zq (hb); have HO197 := zq (ho); clear HO194; clear ho hb hg hat))
   go_ret
   exact ⟨_, J1, by (with_reducible repeat (first | apply Kd.N_alloc | apply Kd.N_drewN | apply aC)); exact HO197.out, J0⟩
  ·exact absurd H J83
def half {α : Type} (f : Nat → Nat) (d : Kd α) (w0 : World) (ok0 : Nat → Prop) : Kd (α × Nat × Bool) where
 sz := d.sz
 E := d.E
 K := fun _ _ cs => cs.length = d.sz ∧ ∀ u ∈ cs, u.oneCell' = true
 M := fun w base ok x cs => if x.2.2 = true then d.M w base (fun k => ok k ∧ f k = x.2.1) x.1 cs else Kd.FK d w0 ok0 x.1 cs
 K_len := fun h => h.1
 K_one := fun h => h.2
 K_below := fun _ h => h
 K_of_M := fun {w base ok x cs} h => by
  by_cases c : x.2.2 = true
  ·rw [if_pos c] at h; exact ⟨d.K_len (d.K_of_M h), d.K_one (d.K_of_M h)⟩
  ·rw [if_neg c] at h; exact ⟨d.K_len (bi h), d.K_one (bi h)⟩
 M_mono := fun {w base ok ok' x cs} hok h => by
  by_cases c : x.2.2 = true
  ·rw [if_pos c] at h ⊢; exact d.M_mono (fun k hk => ⟨hok k hk.1, hk.2⟩) h
  ·rw [if_neg c] at h ⊢; exact h
 M_bound := fun {w base ok x cs} h => by
  by_cases c : x.2.2 = true
  ·rw [if_pos c] at h ⊢; exact d.M_mono (fun _ hk => ⟨⟨hk.1.1, hk.2⟩, hk.1.2⟩) (d.M_bound h)
  ·rw [if_neg c] at h ⊢; exact h
 M_move := fun {w w1 base ok x cs} hm h => by
  by_cases c : x.2.2 = true
  ·rw [if_pos c] at h ⊢; exact d.M_move (fun k hk => hm k hk.1) h
  ·rw [if_neg c] at h ⊢; exact h
 M_lower := fun {w base base' ok x cs} hb h => by
  by_cases c : x.2.2 = true
  ·rw [if_pos c] at h ⊢; exact d.M_lower hb h
  ·rw [if_neg c] at h ⊢; exact h
theorem half_M {α : Type} {f : Nat → Nat} {d : Kd α} {w0 w : World} {ok0 : Nat → Prop} {base : Nat} {ok : Nat → Prop} {x : α × Nat × Bool} {cs : List Value} : (half f d w0 ok0).M w base ok x cs = if x.2.2 = true then d.M w base (fun k => ok k ∧ f k = x.2.1) x.1 cs else Kd.FK d w0 ok0 x.1 cs := rfl
def Xco {α : Type} (xs : List α) (k : Nat) : List (α × Nat × Bool) := xs.zipIdx.map fun p => (p.1, p.2, decide (p.2 < k))
theorem Xb1 {α : Type} (xs : List α) (k : Nat) : (Xco xs k).length = xs.length := by simp [Xco]
theorem marks_at {α : Type} {xs : List α} {k j : Nat} {p : α × Nat × Bool} (h : (Xco xs k)[j]? = some p) : ∃ x, xs[j]? = some x ∧ p = (x, j, decide (j < k)) := by
 simp only [Xco, List.getElem?_map, List.getElem?_zipIdx, Nat.zero_add, Option.map_map, Option.map_eq_some_iff] at h
 obtain ⟨x, hx, rfl⟩ := h
 exact ⟨x, hx, rfl⟩
theorem marks_set {α : Type} (xs : List α) (k : Nat) (x : α) (h : xs[k]? = some x) : (Xco xs k).set k (x, k, true) = Xco xs (k + 1) := by
 apply List.ext_getElem?
 intro j
 rw [List.getElem?_set]
 have hk : k < xs.length := (List.getElem?_eq_some_iff.1 h).1
 by_cases e : k = j
 ·subst e
  rw [if_pos rfl, if_pos (by rw [Xb1]; exact hk)]
  simp [Xco, h]
 ·rw [if_neg e]
  simp only [Xco, List.getElem?_map, List.getElem?_zipIdx, Nat.zero_add, Option.map_map]
  congr 1
  funext y
  have : decide (j < k) = decide (j < k + 1) := by rw [decide_eq_decide]; omega
  simp [this]
theorem half_of_N {α : Type} {d : Kd α} {e base : Nat} {ok : Nat → Prop} {w : World} {v : Value} {xs : List α} (f : Nat → Nat) (h : Kd.N d e w base ok v xs) : (half f d w (fun k => some k ≠ v.ownBlock)).R e w base ok v (Xco xs 0) := by
 obtain ⟨h0, rows, hl, ⟨_, inner, ho, hr⟩, hf⟩ := h
 refine ⟨h0, inner, ?_, ?_⟩
 ·rw [Xb1, ← hl]; exact ho
 ·refine ⟨?_, fun j p hj => ?_⟩
  ·rw [Xb1, ← hl]; exact hr.1
  ·obtain ⟨x, hx, rfl⟩ := marks_at hj
   have hjl : j < rows.length := by rw [hl]; exact (List.getElem?_eq_some_iff.1 hx).1
   have h1 := hr.2 j _ (List.getElem?_eq_getElem hjl)
   have h2 := bp (hf j x _ hx (List.getElem?_eq_getElem hjl)) (fun _ hk => hk.2)
   rw [half_M, if_neg J83]
   have h3 : (inner.drop (j * d.sz)).take d.sz = rows[j] := h1.1
   exact h3 ▸ h2
theorem half_retag {α : Type} {d : Kd α} {e base : Nat} {ok ok0 : Nat → Prop} {w0 w : World} {v : Value} {xs : List α} {f : Nat → Nat} {k : Nat} (h : (half f d w0 ok0).R e w base ok v (Xco xs k)) (m : Nat) :
  ∃ f', (∀ b, w.heap.size ≤ b → f' b = m) ∧ (half f' d w0 ok0).R e w base ok v (Xco xs k) := by
 refine ⟨fun b => if b < w.heap.size then f b else m, fun b hb => if_neg J29, ?_⟩
 have hb := bb h
 obtain ⟨h0, inner, ho, hr⟩ := h
 obtain ⟨_, inner2, ho2, hr2⟩ := hb
 refine ⟨h0, inner, ho, hr.1, fun j p hj => ?_⟩
 have hM := hr.2 j p hj
 obtain ⟨x, hx, rfl⟩ := marks_at hj
 by_cases c : decide (j < k) = true
 ·rw [half_M, if_pos c] at hM ⊢
  exact d.M_mono (fun b hk => ⟨hk.1.1, by show (if b < w.heap.size then f b else m) = j; rw [if_pos hk.2.2.1]; exact hk.1.2⟩) (d.M_bound hM)
 ·rw [half_M, if_neg c] at hM ⊢
  exact hM
theorem S_of_half {α : Type} {d : Kd α} {e base : Nat} {ok ok0 : Nat → Prop} {w0 w : World} {v : Value} {xs : List α} {f : Nat → Nat} (h : (half f d w0 ok0).R e w base ok v (Xco xs xs.length)) : Kd.S d e w base ok v xs := by
 obtain ⟨h0, inner, ho, hr⟩ := h
 rw [Xb1] at ho
 refine ⟨f, h0, inner, ?_, ?_, fun j p hj => ?_⟩
 ·rw [List.length_zipIdx]; exact ho
 ·rw [List.length_zipIdx]; have := hr.1; rw [Xb1] at this; exact this
 ·obtain ⟨x, i⟩ := p
  rw [List.getElem?_zipIdx, Nat.zero_add, Option.map_eq_some_iff] at hj
  obtain ⟨y, hy, he⟩ := hj
  injection he with e1 e2
  subst e1 e2
  have hjl := (List.getElem?_eq_some_iff.1 hy).1
  have hM := hr.2 j (y, j, decide (j < xs.length)) (by simp [Xco, hy])
  rw [half_M, if_pos (by simp [hjl])] at hM
  exact hM
theorem half_elem {α : Type} {d : Kd α} {e base n cap g : Nat} {ok ok0 : Nat → Prop} {w0 W : World} {xs : List α} {f : Nat → Nat} {k : Nat} {x : α} (h : (half f d w0 ok0).R e W base ok (.slice (some ⟨g, 0, none⟩) n cap) (Xco xs k)) (hx : xs[k]? = some x) :
  ∃ c, c.length = d.sz ∧ Kd.FK d w0 ok0 x c ∧ (∀ j u, c[j]? = some u → W.cell? ⟨g, k * d.sz + j, none⟩ = some u) ∧ ∀ j, W.frozen? ⟨g, k * d.sz + j, none⟩ = false := by
 have hk : k < xs.length := (List.getElem?_eq_some_iff.1 hx).1
 have hn := (an h).1
 rw [Xb1] at hn
 obtain ⟨c, hcl, hM, hcc, hfr⟩ := cv h (x, k, false) (k : Int) J29 J29
 rw [Int.toNat_natCast] at hM hcc hfr
 have hg : (Xco xs k).getD k (x, k, false) = (x, k, false) := by simp [Xco, hx]
 rw [hg] at hM
 refine ⟨c, hcl, ?_, hcc, hfr⟩
 rw [half_M, if_neg J83] at hM
 exact hM
theorem half_put {α : Type} {d : Kd α} {e base n cap g : Nat} {ok okp ok0 : Nat → Prop} {w0 W : World} {xs : List α} {f : Nat → Nat} {k : Nat} {x : α} {seg : List Value} (h : (half f d w0 ok0).R e W base ok (.slice (some ⟨g, 0, none⟩) n cap) (Xco xs k)) (hx : xs[k]? = some x)
    (hM : d.M W base okp x seg) (hok : ∀ b, okp b → (ok b ∧ b ≠ g) ∧ f b = k) : (half f d w0 ok0).R e (W.setCells g (k * d.sz) seg) base ok (.slice (some ⟨g, 0, none⟩) n cap) (Xco xs (k + 1)) ∧ W.grownBy (W.setCells g (k * d.sz) seg) (some g) := by
  have hk : k < xs.length := (List.getElem?_eq_some_iff.1 hx).1
  have hn := (an h).1
  rw [Xb1] at hn
  obtain ⟨c, hcl, _, hcc, _⟩ := half_elem h hx
  have hsl := d.K_len (d.K_of_M hM)
  have := cN (d := half f d w0 ok0) (okp := fun b => ok b ∧ b ≠ g) h (k : Int) J29 J29 (c := c) (seg := seg) (j := 0) hcl (by rw [Int.toNat_natCast]; exact hcc) (by rw [Nat.zero_add, hsl]; exact Nat.le_refl _) (x' := (x, k, true))
    (by rw [List.take_zero, List.nil_append, Nat.zero_add, hsl, ← hcl, List.drop_length, List.append_nil]
        rw [half_M, if_pos rfl]
        exact d.M_mono hok hM) (fun _ hk => hk)
  rw [Int.toNat_natCast, Nat.add_zero, marks_set xs k x hx] at this
  exact this
def Xb3.f (l0 : List S30) : Option (List S30) := if l0.length < 1759218604441 ∧ (∀ x ∈ l0, x.f1.length < 17592186044416 ∧ x.f2.length < 17592186044416 ∧ x.f3.length < 8796093022208) then some l0 else none
theorem at_world {P : Program} {c : Code} {Q : Exit → Act → World → Prop} {a : Act} {W : World} (p : World → Prop) (hp : p W) (h : ∀ W2, p W2 → c.wp P Q a W2) : c.wp P Q a W := h W hp
set_option maxHeartbeats 8000000 in
set_option maxRecDepth 100000 in
theorem Xb3.calls (A0 : Option Addr) (c0 : Nat) (l0 : List S30) (r : List S30) (w : World) (hr0 : Kd.C k30 w A0 l0.length l0) (hc0 : l0.length ≤ c0) (h : Xb3.f l0 = some r) :
  Calls Try.prog 45 #[.slice A0 l0.length c0] w fun e w' => ∃ v0_ : Value, e = .returned (v0_) ∧ Kd.S k30 30 w' w.heap.size (fun _ => True) v0_ r ∧ Below w.heap.size w w' := by
 unfold Xb3.f at h
 by_cases h0 : l0.length < 1759218604441 ∧ (∀ x ∈ l0, x.f1.length < 17592186044416 ∧ x.f2.length < 17592186044416 ∧ x.f3.length < 8796093022208)
 ·rw [if_pos h0] at h
  obtain rfl := Option.some.inj h
  clear h
  obtain ⟨hlen, hin0⟩ := h0
  have HIN := zq hin0
  clear hin0
  have A1_ := zq (show Xce.f l0 = some l0 by unfold Xce.f; rw [Option.bind_some, List.length_nil, Nat.zero_add, if_pos hlen, List.nil_append])
  have HV := zq (show Kd.V k30 30 w w.heap.size (fun k_ => k_ < w.heap.size) (.slice A0 l0.length c0) l0 from be hc0 (Kd.C_F Xdu hr0))
  clear hr0 hc0
  have HL := zq hlen
  clear hlen
  go_enter Try.func45, Try.ntmps45
  go_wp2_with (first | ((with_reducible refine Xi (f := 65) rfl ?_); refine Xbz (some 7) rfl rfl Try.func65 J17 rfl #[.slice A0 l0.length c0] rfl (by (try simp only [List.map_toArray, List.map_cons, List.map_nil]); first | done | rfl) ?_; (with_reducible refine (Xce.calls _ A0 c0 l0 l0 _ HV.out A1_.out).mono ?_); rintro e w1 ⟨v1, rfl, ho, hb⟩; refine ⟨_, rfl, ?_⟩; obtain ⟨Ao, co, eo⟩ := aJ ho; subst eo; have HN := zq ho; have HB1 := zq hb; clear ho hb))
  have hle : l0.length ≤ 1759218604441 := Nat.le_of_lt HL.out
  go_loopg [10] l0.length (fun kq v10 w' => ∃ (k : Nat) (f : Nat → Nat), v10 = .int .i64 (k : Int) ∧ Aside0 (kq + k = l0.length) ∧ Aside0 ((half f k30 w1 (fun b => some b ≠ (Value.slice Ao l0.length co).ownBlock)).R 30 w' w.heap.size (fun _ => True) (.slice Ao l0.length co) (Xco l0 k)) ∧ Aside0 (Below w.heap.size w w') ∧ Aside0 (w1.grownBy w' (Value.slice Ao l0.length co).ownBlock))
  case atStart => exact ⟨0, fun _ => 0, rfl, ⟨J29⟩, ⟨half_of_N _ (ap HN.out (fun _ _ => trivial))⟩, HB1, ⟨World.grownBy.refl _ _⟩⟩
  case round =>
   obtain ⟨k, f, rfl, HQ, HR, HB, HG⟩ := hrel
   by_cases hk : k < l0.length
   ·obtain ⟨g, cap, eg, hg1, hg2, hg3⟩ := bZ HR.out (by rw [Xb1]; omega)
    have HGE := zq hg1
    have HGL := zq hg2
    rw [Xb1] at eg
    injection eg with eg1 _ eg2
    subst eg1 eg2
    have hx : l0[k]? = some l0[k] := List.getElem?_eq_getElem hk
    obtain ⟨x, hxe⟩ : ∃ x, x = l0[k] := ⟨_, rfl⟩
    rw [← hxe] at hx
    have HX := zq hx
    have hxm : x ∈ l0 := by rw [hxe]; exact List.getElem_mem hk
    obtain ⟨b1, b2, b3⟩ := HIN.out x hxm
    clear hx hxe hxm
    have A1 := zq (show Xae.f x.f1 = some x.f1 by unfold Xae.f; rw [Option.bind_some, List.length_nil, Nat.zero_add, if_pos b1, List.nil_append])
    have A2 := zq (show Xae.f x.f2 = some x.f2 by unfold Xae.f; rw [Option.bind_some, List.length_nil, Nat.zero_add, if_pos b2, List.nil_append])
    have A3 := zq (show Xb7.f x.f3 = some x.f3 by unfold Xb7.f; rw [Option.bind_some, List.length_nil, Nat.zero_add, if_pos b3, List.nil_append])
    clear b1 b2 b3
    obtain ⟨f', hf', hR'⟩ := half_retag HR.out k
    have HF := zq hf'
    have HR2 := zq hR'
    clear HR hf' hR'
    obtain ⟨c, hcl, hFK, hcc, hfr⟩ := half_elem HR2.out HX.out
    have hK := hFK wr (fun b hb1 hb2 => HG.out.block b hb2 hb1)
    obtain ⟨B1, d1, B2, d2, B3, d3, rfl, l1, g1, l2, g2, l3, g3⟩ := Xc1 hK
    clear hFK hK hcl
    have HC1 := zq g1
    have HC2 := zq g2
    have HC3 := zq g3
    have HL1 := zq l1
    have HL2 := zq l2
    have HL3 := zq l3
    clear g1 g2 g3 l1 l2 l3
    have hc0 : wr.cell? ⟨g, k * 4, none⟩ = some (.int .i64 x.f0) := hcc 0 _ rfl
    have hc1 : wr.cell? ⟨g, k * 4 + 1, none⟩ = some (.slice B1 x.f1.length d1) := hcc 1 _ rfl
    have hc2 : wr.cell? ⟨g, k * 4 + 2, none⟩ = some (.slice B2 x.f2.length d2) := hcc 2 _ rfl
    have hc3 : wr.cell? ⟨g, k * 4 + 3, none⟩ = some (.slice B3 x.f3.length d3) := hcc 3 _ rfl
    clear hcc hfr
    have hp1 : (0 : Int) ≤ (k : Int) := Int.natCast_nonneg k
    have hp2 : (k : Int) < (l0.length : Int) := Int.ofNat_lt.2 hk
    have hd := decide_eq_true hk
    go_wp2
    refine at_world (fun W2 => W2.heap.size = wr.heap.size + 1 ∧ W2.heap[wr.heap.size]? = some (.cells #[.int .i64 x.f0, .slice B1 x.f1.length d1, .slice B2 x.f2.length d2, .slice B3 x.f3.length d3] 30 (0, 0)) ∧ Below wr.heap.size wr W2) ⟨J83, heap_alloc_new wr _, Xaf (Below.refl _ _) _⟩ ?_
    rintro w2 ⟨hsz, hbx, hb2⟩
    have HS := zq hsz
    have BK := zq hbx
    have HW := zq hb2
    clear hsz hbx hb2 hc0 hc1 hc2 hc3
    have hz0 : w2.cell? ⟨wr.heap.size, 0, none⟩ = some (.int .i64 x.f0) := (Xx BK.out 0).trans rfl
    have hz1 : w2.cell? ⟨wr.heap.size, 1, none⟩ = some (.slice B1 x.f1.length d1) := (Xx BK.out 1).trans rfl
    have hz2 : w2.cell? ⟨wr.heap.size, 2, none⟩ = some (.slice B2 x.f2.length d2) := (Xx BK.out 2).trans rfl
    have hz3 : w2.cell? ⟨wr.heap.size, 3, none⟩ = some (.slice B3 x.f3.length d3) := (Xx BK.out 3).trans rfl
    have hne1 : (wr.heap.size = g) = False := eq_false J29
    have hne2 : (g = wr.heap.size) = False := eq_false J29
    go_region_held3 (fun w' => w'.cell? ⟨wr.heap.size, 0, none⟩ = some (.int .i64 x.f0) ∧ w'.cell? ⟨wr.heap.size, 1, none⟩ = some (.slice B1 x.f1.length d1) ∧ w'.cell? ⟨wr.heap.size, 2, none⟩ = some (.slice B2 x.f2.length d2) ∧ w'.cell? ⟨wr.heap.size, 3, none⟩ = some (.slice B3 x.f3.length d3)) (go_keep)
     (first
      | (go_at_call 34; refine (Xae.calls B1 d1 x.f1 x.f1 _ (by first | exact ac HC1.out HW.out | exact ac HC1.out (Xcd HW.out)) HL1.out A1.out).mono ?_; rintro e w3 ⟨v1, rfl, ho, hb⟩; obtain ⟨E1, e1, rfl⟩ := ah ho; have n0_ := zq (Xg (by first | exact BK.out | exact Xf BK.out) hb); have n1_ := zq (ag ho (Xc J111)); have n2_ := zq (Xe J111 hb); clear BK HW ho hb; have BK := n0_; have HO1 := n1_; have HW := n2_; clear n0_ n1_ n2_; have hz0 : w3.cell? ⟨wr.heap.size, 0, none⟩ = some (.int .i64 x.f0) := (Xx BK.out 0).trans rfl; have hz1 : w3.cell? ⟨wr.heap.size, 1, none⟩ = some (.slice B1 x.f1.length d1) := (Xx BK.out 1).trans rfl; have hz2 : w3.cell? ⟨wr.heap.size, 2, none⟩ = some (.slice B2 x.f2.length d2) := (Xx BK.out 2).trans rfl; have hz3 : w3.cell? ⟨wr.heap.size, 3, none⟩ = some (.slice B3 x.f3.length d3) := (Xx BK.out 3).trans rfl)
      | (go_at_call 34; refine (Xae.calls B2 d2 x.f2 x.f2 _ (by first | exact ac HC2.out HW.out | exact ac HC2.out (Xcd HW.out)) HL2.out A2.out).mono ?_; rintro e w4 ⟨v2, rfl, ho, hb⟩; obtain ⟨E2, e2, rfl⟩ := ah ho; have n0_ := zq (Xg (by first | exact BK.out | exact Xf BK.out) hb); have n1_ := zq (ag ho (Xc J111)); have n2_ := zq (Xe J111 hb); have n3_ := zq (ab (by first | exact HO1.out | exact ak HO1.out) hb); clear BK HW HO1 ho hb; have BK := n0_; have HO2 := n1_; have HW := n2_; have HO1 := n3_; clear n0_ n1_ n2_ n3_; have hz0 : w4.cell? ⟨wr.heap.size, 0, none⟩ = some (.int .i64 x.f0) := (Xx BK.out 0).trans rfl; have hz1 : w4.cell? ⟨wr.heap.size, 1, none⟩ = some (.slice B1 x.f1.length d1) := (Xx BK.out 1).trans rfl; have hz2 : w4.cell? ⟨wr.heap.size, 2, none⟩ = some (.slice B2 x.f2.length d2) := (Xx BK.out 2).trans rfl; have hz3 : w4.cell? ⟨wr.heap.size, 3, none⟩ = some (.slice B3 x.f3.length d3) := (Xx BK.out 3).trans rfl)
      | (go_at_call 37; refine (Xb7.calls B3 d3 x.f3 x.f3 _ (by first | exact ac HC3.out HW.out | exact ac HC3.out (Xcd HW.out)) HL3.out A3.out).mono ?_; rintro e w5 ⟨v3, rfl, ho, hb⟩; obtain ⟨E3, e3, rfl⟩ := ah ho; have n0_ := zq (Xg (by first | exact BK.out | exact Xf BK.out) hb); have n1_ := zq (ag ho (Xc J111)); have n2_ := zq (Xe J111 hb); have n3_ := zq (ab (by first | exact HO1.out | exact ak HO1.out) hb); have n4_ := zq (ab (by first | exact HO2.out | exact ak HO2.out) hb); clear BK HW HO1 HO2 ho hb; have BK := n0_; have HO3 := n1_; have HW := n2_; have HO1 := n3_; have HO2 := n4_; clear n0_ n1_ n2_ n3_ n4_; have HR5 := zq (ab HR2.out HW.out); obtain ⟨c5, _, hFK5, hcc5, hfr5⟩ := half_elem HR5.out HX.out; obtain ⟨G1, q1, G2, q2, G3, q3, rfl, _, _, _, _, _, _⟩ := Xc1 (bi hFK5); clear hFK5; have hs0 : w5.cell? ⟨g, k * 4, none⟩ = some (.int .i64 x.f0) := hcc5 0 _ rfl; have hs1 : w5.cell? ⟨g, k * 4 + 1, none⟩ = some (.slice G1 x.f1.length q1) := hcc5 1 _ rfl; have hs2 : w5.cell? ⟨g, k * 4 + 2, none⟩ = some (.slice G2 x.f2.length q2) := hcc5 2 _ rfl; have hs3 : w5.cell? ⟨g, k * 4 + 3, none⟩ = some (.slice G3 x.f3.length q3) := hcc5 3 _ rfl; have hg0 : w5.frozen? ⟨g, k * 4, none⟩ = false := hfr5 0; have hg1 : w5.frozen? ⟨g, k * 4 + 1, none⟩ = false := hfr5 1; have hg2 : w5.frozen? ⟨g, k * 4 + 2, none⟩ = false := hfr5 2; have hg3 : w5.frozen? ⟨g, k * 4 + 3, none⟩ = false := hfr5 3; clear hcc5 hfr5; have hz0 : w5.cell? ⟨wr.heap.size, 0, none⟩ = some (.int .i64 x.f0) := (Xx BK.out 0).trans rfl; have hz1 : w5.cell? ⟨wr.heap.size, 1, none⟩ = some (.slice B1 x.f1.length d1) := (Xx BK.out 1).trans rfl; have hz2 : w5.cell? ⟨wr.heap.size, 2, none⟩ = some (.slice B2 x.f2.length d2) := (Xx BK.out 2).trans rfl; have hz3 : w5.cell? ⟨wr.heap.size, 3, none⟩ = some (.slice B3 x.f3.length d3) := (Xx BK.out 3).trans rfl))
    go_wp2
    go_roundg (l0.length - (k + 1))
    case measure => have := HQ.out; omega
    case rel =>
     have hM : k30.M w5 w.heap.size (fun b => wr.heap.size ≤ b) x [.int .i64 x.f0, .slice E1 x.f1.length e1, .slice E2 x.f2.length e2, .slice E3 x.f3.length e3] := k30_mkM _ _ _ x (ag (af (bb HO1.out) (fun _ hk => hk.2.1)) (Xc HB.out)) (ag (af (bb HO2.out) (fun _ hk => hk.2.1)) (Xc HB.out)) (ag (af (bb HO3.out) (fun _ hk => hk.2.1)) (Xc HB.out))
     have hP := half_put HR5.out HX.out hM (fun b hb => ⟨⟨trivial, fun e_ => by subst e_; exact Nat.lt_irrefl _ (Nat.lt_of_lt_of_le HGL.out hb)⟩, HF.out b hb⟩)
     exact ⟨k + 1, f', rfl, ⟨by have := HQ.out; omega⟩, ⟨hP.1⟩, ⟨X0 (X0 (X0 (X0 (Xe HB.out HW.out) HGE.out) HGE.out) HGE.out) HGE.out⟩, ⟨(HG.out.trans (grown_of_below HW.out _)).trans hP.2⟩⟩
   ·have c1 : decide (k < l0.length) = false := decide_eq_false hk
    have HK := zq (show k = l0.length by have := HQ.out; omega)
    clear hk
    go_wp2
    go_ret
    exact ⟨_, rfl, S_of_half (by have h_ := HR.out; rw [HK.out] at h_; exact h_), HB.out⟩
 ·rw [if_neg h0] at h
  cases h
def Wr3 (W : World) (b : Nat) (A : Option Addr) (n : Nat) : Prop := ∀ j, j < n → ∃ (g : Nat) (cur : Array Value), A = some ⟨g, 0, none⟩ ∧ b ≤ g ∧ W.heap[g]? = some (.cells cur 3 (0, 0)) ∧ j < cur.size
theorem Wr3.of_R {W : World} {base b : Nat} {ok : Nat → Prop} {v : Value} {l : List Int} (h : (Kd.int .i64).R 3 W base ok v l) (hb : b ≤ base) : ∃ A c, v = .slice A l.length c ∧ Wr3 W b A l.length ∧ l.length ≤ 9223372036854775807 := by
 obtain ⟨_, inner, ho, _⟩ := h
 rcases ho.2 with ⟨rfl, hn⟩ | ⟨g, cap, cur, rfl, hg1, hg, hc, hx, hs, _⟩
 ·exact ⟨none, 0, by rw [hn], fun j hj => by omega, J29⟩
 ·rw [show (Kd.int .i64).sz = 1 from rfl, Nat.mul_one] at hs
  simp only [maxLen] at hx
  exact ⟨_, _, rfl, fun j hj => ⟨g, cur, rfl, Nat.le_trans hb hg1, hg, J29⟩, J29⟩
theorem Wr3.heap {W W1 : World} {b n : Nat} {A : Option Addr} (hb : ∀ k, k < W.heap.size → W1.heap[k]? = W.heap[k]?) (h : Wr3 W b A n) : Wr3 W1 b A n := by
 intro j hj
 obtain ⟨g, cur, e, h1, h2, h3⟩ := h j hj
 exact ⟨g, cur, e, h1, (hb g (by rcases Nat.lt_or_ge g W.heap.size with h4 | h4; exact h4; rw [Array.getElem?_eq_none h4] at h2; cases h2)).trans h2, h3⟩
def WrK (b : Nat) (w : World) (x : S30) (cs : List Value) : Prop := ∃ A1 c1 A2 c2, cs[1]? = some (.slice A1 x.f1.length c1) ∧ cs[2]? = some (.slice A2 x.f2.length c2) ∧ Wr3 w b A1 x.f1.length ∧ Wr3 w b A2 x.f2.length ∧ x.f1.length ≤ 9223372036854775807 ∧ x.f2.length ≤ 9223372036854775807
theorem WrK.heap {b : Nat} {w w1 : World} {x : S30} {cs : List Value} (hb : ∀ k, k < w.heap.size → w1.heap[k]? = w.heap[k]?) (h : WrK b w x cs) : WrK b w1 x cs := by
 obtain ⟨A1, c1, A2, c2, e1, e2, h1, h2, h3, h4⟩ := h
 exact ⟨A1, c1, A2, c2, e1, e2, h1.heap hb, h2.heap hb, h3, h4⟩
theorem WrK.of_M {b base : Nat} {w : World} {ok : Nat → Prop} {x : S30} {cs : List Value} (h : k30.M w base ok x cs) (hb : b ≤ base) : WrK b w x cs := by
 obtain ⟨v1, v2, v3, rfl, h1, h2, _⟩ := k30_openM h
 obtain ⟨A1, c1, rfl, q1, n1⟩ := Wr3.of_R h1 hb
 obtain ⟨A2, c2, rfl, q2, n2⟩ := Wr3.of_R h2 hb
 exact ⟨A1, c1, A2, c2, rfl, rfl, q1, q2, n1, n2⟩
def kW (b : Nat) : Kd S30 where
 sz := 4
 E := k30.E
 K := fun w x cs => k30.K w x cs ∧ WrK b w x cs
 M := fun w base ok x cs => ∃ base2, base ≤ base2 ∧ b ≤ base2 ∧ k30.M w base2 ok x cs
 K_len := fun h => k30.K_len h.1
 K_one := fun h => k30.K_one h.1
 K_below := fun hb h => ⟨k30.K_below hb h.1, h.2.heap (fun k hk => hb.block k hk)⟩
 K_of_M := fun ⟨_, _, h2, h⟩ => ⟨k30.K_of_M h, WrK.of_M h h2⟩
 M_mono := fun hok ⟨b2, h1, h2, h⟩ => ⟨b2, h1, h2, k30.M_mono hok h⟩
 M_bound := fun ⟨b2, h1, h2, h⟩ => ⟨b2, h1, h2, k30.M_mono (fun _ hk => ⟨hk.1, Nat.le_trans h1 hk.2.1, hk.2.2⟩) (k30.M_bound h)⟩
 M_move := fun hm ⟨b2, h1, h2, h⟩ => ⟨b2, h1, h2, k30.M_move hm h⟩
 M_lower := fun hb ⟨b2, h1, h2, h⟩ => ⟨b2, Nat.le_trans hb h1, h2, h⟩
theorem kW_N {b e : Nat} {w : World} {base : Nat} {ok : Nat → Prop} {v : Value} {xs : List S30} (h : Kd.N (kW b) e w base ok v xs) : Kd.N k30 e w base ok v xs := by
 obtain ⟨h0, rows, hl, hR, hf⟩ := h
 exact ⟨h0, rows, hl, hR, fun j x c hx hc W' hW => (hf j x c hx hc W' hW).1⟩
theorem kW_le {b b' e : Nat} {w : World} {base : Nat} {ok : Nat → Prop} {v : Value} {xs : List S30} (h : Kd.N (kW b') e w base ok v xs) (hb : b ≤ b') : Kd.N (kW b) e w base ok v xs := by
 obtain ⟨h0, rows, hl, hR, hf⟩ := h
 refine ⟨h0, rows, hl, hR, fun j x c hx hc W' hW => ?_⟩
 obtain ⟨h1, A1, c1, A2, c2, e1, e2, w1, w2, n⟩ := hf j x c hx hc W' hW
 refine ⟨h1, A1, c1, A2, c2, e1, e2, fun j hj => ?_, fun j hj => ?_, n⟩
 ·obtain ⟨g, cur, e, q1, q⟩ := w1 j hj; exact ⟨g, cur, e, Nat.le_trans hb q1, q⟩
 ·obtain ⟨g, cur, e, q1, q⟩ := w2 j hj; exact ⟨g, cur, e, Nat.le_trans hb q1, q⟩
theorem kW_R {b e : Nat} {w : World} {base : Nat} {ok : Nat → Prop} {v : Value} {xs : List S30} (h : Kd.R k30 e w base ok v xs) (hb : b ≤ base) : Kd.R (kW b) e w base ok v xs := by
 obtain ⟨h0, inner, ho, hr⟩ := h
 exact ⟨h0, inner, ho, hr.1, fun j x hj => ⟨base, Nat.le_refl _, hb, hr.2 j x hj⟩⟩
theorem kW_C {b : Nat} {w : World} {A : Option Addr} {n : Nat} {xs : List S30} (h : Kd.C (kW b) w A n xs) : Kd.C k30 w A n xs := by
 obtain ⟨h1, h2, h3⟩ := h
 refine ⟨h1, h2, fun hn => ?_⟩
 obtain ⟨ad, e, hc⟩ := h3 hn
 refine ⟨ad, e, fun j p hj => ?_⟩
 obtain ⟨c, q1, q2, q3⟩ := hc j p hj
 exact ⟨c, q1, q2.1, q3⟩
theorem kW_Rnil {b e : Nat} {w : World} {base : Nat} {ok : Nat → Prop} {v : Value} (h : Kd.R k30 e w base ok v []) : Kd.R (kW b) e w base ok v [] := by
 obtain ⟨h0, inner, ho, hr⟩ := h
 exact ⟨h0, inner, ho, hr.1, fun j x hj => by simp at hj⟩
theorem kWs_R {b e : Nat} {w : World} {base : Nat} {ok : Nat → Prop} {v : Value} {xs : List (List S30)} (h : Kd.R (Kd.slice 30 k30) e w base ok v xs) (hb : b ≤ base) : Kd.R (Kd.slice 30 (kW b)) e w base ok v xs := by
 obtain ⟨h0, inner, ho, hr⟩ := h
 refine ⟨h0, inner, ho, hr.1, fun j x hj => ?_⟩
 obtain ⟨v, q1, q2⟩ := hr.2 j x hj
 exact ⟨v, q1, kW_R q2 hb⟩
theorem kWs_K {b : Nat} {w : World} {x : List S30} {cs : List Value} (h : (Kd.slice 30 (kW b)).K w x cs) : (Kd.slice 30 k30).K w x cs := by
 obtain ⟨A, c, q1, q2, q3⟩ := h
 exact ⟨A, c, q1, q2, kW_C q3⟩
theorem kWs_C {b : Nat} {w : World} {A : Option Addr} {n : Nat} {xs : List (List S30)} (h : Kd.C (Kd.slice 30 (kW b)) w A n xs) : Kd.C (Kd.slice 30 k30) w A n xs := by
 obtain ⟨h1, h2, h3⟩ := h
 refine ⟨h1, h2, fun hn => ?_⟩
 obtain ⟨ad, e, hc⟩ := h3 hn
 refine ⟨ad, e, fun j p hj => ?_⟩
 obtain ⟨c, q1, q2, q3⟩ := hc j p hj
 exact ⟨c, q1, kWs_K q2, q3⟩
theorem Wr3.foot {W : World} {base b : Nat} {ok : Nat → Prop} {A : Option Addr} {n c : Nat} {l : List Int} (h : (Kd.int .i64).R 3 W base ok (.slice A n c) l) (hb : b ≤ base) (W' : World) (hW : ∀ k, ok k → k < W.heap.size → W'.heap[k]? = W.heap[k]?) : Wr3 W' b A l.length ∧ l.length ≤ 9223372036854775807 := by
 obtain ⟨A1, c1, e, h1, h2⟩ := Wr3.of_R (bQ h hW) hb
 injection e with e1
 subst e1
 exact ⟨h1, h2⟩
theorem kW_mkF {b base : Nat} (W : World) (ok : Nat → Prop) (x : S30) {A1 : Option Addr} {c1 : Nat} (r1 : (Kd.int .i64).R 3 W base ok (.slice A1 x.f1.length c1) x.f1) {A2 : Option Addr} {c2 : Nat} (r2 : (Kd.int .i64).R 3 W base ok (.slice A2 x.f2.length c2) x.f2) {A3 : Option Addr} {c3 : Nat} (l3 : x.f3.length ≤ c3) (g3 : Kd.F k38 W ok A3 x.f3.length x.f3) (hb : b ≤ base) : Kd.FK (kW b) W ok x [.int .i64 x.f0, .slice A1 x.f1.length c1, .slice A2 x.f2.length c2, .slice A3 x.f3.length c3] :=
 fun W' hW => ⟨k30_mkF W ok x (an r1).2.1 (Kd.R_F r1) (an r2).2.1 (Kd.R_F r2) l3 g3 W' hW, A1, c1, A2, c2, rfl, rfl, (Wr3.foot r1 hb W' hW).1, (Wr3.foot r2 hb W' hW).1, (Wr3.foot r1 hb W' hW).2, (Wr3.foot r2 hb W' hW).2⟩
theorem kW_F {b n : Nat} {w : World} {ok : Nat → Prop} {A : Option Addr} {xs : List S30} (h : Kd.F (kW b) w ok A n xs) : Kd.F k30 w ok A n xs := fun W' hW => kW_C (h W' hW)
def Xcn.f (a1 : Int) : Option (List (S30)) := if 0 ≤ a1 ∧ a1.toNat * 80 ≤ 140737488355328 then some [] else none
set_option maxHeartbeats 8000000 in
set_option maxRecDepth 100000 in
theorem Xcn.calls (b_ : Nat) (a1 : Int) (r : List (S30)) (w : World) (h : Xcn.f a1 = some r) :
  Calls Try.prog 66 #[.slice none 0 0, .int .i64 a1] w fun e w' => ∃ v0_ : Value, e = .returned (v0_) ∧ Kd.N (kW b_) 30 w' w.heap.size (fun k_ => w.heap.size ≤ k_) v0_ r ∧ Below w.heap.size w w' := by
 unfold Xcn.f at h
 by_cases h0 : 0 ≤ a1 ∧ a1.toNat * 80 ≤ 140737488355328
 ·rw [if_pos h0] at h
  obtain rfl := Option.some.inj h
  clear h
  have H0 := zq h0
  have n1 : decide (a1 < 0) = false := decide_eq_false J29
  obtain ⟨i0_, hi0_, _, hsz_, _⟩ := info_parts Xck
  have hcutA := cut_to (P := Try.prog) 22 30 .i64 Try.underlying22 hi0_ none 0 0 0 J14 J14 J14
  simp only [Int.toNat_zero] at hcutA
  have HS := zq (show wrap64 a1 = a1 by unfold wrap64; omega)
  by_cases hp : 0 < a1
  ·have p1 : decide (0 < wrap64 a1) = true := by rw [HS.out]; exact decide_eq_true hp
   have HP := zq hp
   clear hp
   clear h0
   go_enter Try.func66, Try.ntmps66
   go_wp2_with (first | ((with_reducible refine Xa0 (b := .append) (xs := #[.tmp 20, .tmp 21]) rfl ?_); at_builtin; refine bS k30 (w0 := w) w.heap.size rfl (.tmp 20) (.tmp 21) 22 3 30 (.agg #[(.int .i64 0), (.slice none 0 0), (.slice none 0 0), (.slice none 0 0)]) 80 rfl Try.underlying22 Try.underlying3 Xck rfl J14 J29 (.slice none 0 0) [] z30 (wrap64 a1) (fun k_ => w.heap.size ≤ k_) rfl rfl (k30_mkM _ _ _ z30 (bw _ _ _ _ _) (bw _ _ _ _ _) (bw _ _ _ _ _)) (fun _ hk => hk) (bw _ _ _ _ _) (by rw [HS.out]; exact Int.le_of_lt HP.out) (Below.refl _ _) (Nat.le_refl _) ?aL ?_; (case aL => rw [show (([] : List (S30)).length) = 0 from rfl, Nat.zero_add, HS.out]; exact H0.out.2); intro v1 w1 ho hb hg hat; obtain ⟨A1, c1, e1⟩ := ah ho; subst e1; have HO := zq ho; have HB := zq hb; have hcap := (an ho).2.1; clear ho hb hg hat; have hcutB := cut_to (P := Try.prog) 22 30 .i64 Try.underlying22 hi0_ A1 _ c1 0 J14 J29 hcap; simp only [Int.toNat_zero] at hcutB; clear hcap))
   go_ret
   exact ⟨_, rfl, cG (kW_Rnil (cb HO.out (Nat.zero_le _))), HB.out⟩
  ·have p1 : decide (0 < wrap64 a1) = false := by rw [HS.out]; exact decide_eq_false hp
   clear hp
   clear h0
   go_enter Try.func66, Try.ntmps66
   go_wp2
   go_ret
   exact ⟨_, rfl, cl _ _ _ _ _, Below.refl _ _⟩
 ·rw [if_neg h0] at h
  cases h
end Go.Proofs.Ytecdklheppcihaa.HTightTells
