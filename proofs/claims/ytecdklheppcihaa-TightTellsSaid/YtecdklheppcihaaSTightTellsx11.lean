/- Words and walks, shortened by a program: what this claim's functions answer, and that other memory stays. -/
import Derived.Test.YtecdklheppcihaaSTightTellsx0
import Derived.Test.YtecdklheppcihaaSTightTellsx1
import Derived.Test.YtecdklheppcihaaSTightTellsx6
import Derived.Test.YtecdklheppcihaaSTightTellsx7
import Derived.Test.YtecdklheppcihaaSTightTellsx10
namespace Go.Proofs.Ytecdklheppcihaa.HTightTells
open Go.RowKit Go.Proofs.YtecdklheppcihaaW.PrintWords Go.Proofs.YtecdklheppcihaaW.PrintWords.Kd Go.Proofs.YtecdklheppcihaaW.PrintLast Go.Proofs.YtecdklheppcihaaW.PrintMore Go.Proofs.YtecdklheppcihaaW.PrintMore.Kd
attribute [local go_sem] Xbp Xbn Xbu Xbt Xbg Xbf Xbo Xbm
set_option linter.unusedVariables false
set_option linter.unusedSimpArgs false
attribute [local go_sem high] eqA38
def Xav.f (k : Nat) (l0 : List (S30)) : Option ((List (S30)) × Bool) := (Xa8.f k l0).bind fun t339 => (if t339 = true then ((tight_form.f k l0).bind fun t340 => (some (t340, true))) else (some (([] : List (S30)), false)))
theorem Xav.mono : ∀ a0 k, LeO (Xav.f k a0) (Xav.f (k + 1) a0) := by
 intro a0 k
 unfold Xav.f
 have im0 := @Xa8.mono
 have im1 := @tight_form.mono
 exact mz3
set_option maxHeartbeats 8000000 in
set_option maxRecDepth 100000 in
theorem Xav.callsW (k : Nat) (P0_ : Nat → Prop) (A0 : Option Addr) (c0 : Nat) (l0 : List (S30)) (r1 : List (S30)) (r2 : Bool) (w : World) (hs0 : Kd.V k30 30 w w.heap.size (fun k_ => P0_ k_) (.slice A0 l0.length c0) l0) (h : Xav.f k l0 = some (r1, r2)) :
  Calls Try.prog 11 #[.slice A0 l0.length c0] w fun e w' => ∃ v0_ : Value, e = .returned (.tuple #[v0_, .bool r2]) ∧ Kd.N (kW w.heap.size) 30 w' w.heap.size (fun k_ => (P0_ k_ ∨ w.heap.size ≤ k_)) v0_ r1 ∧ Below w.heap.size w w' := by
 have HO0 := zq (show Kd.V k30 30 w w.heap.size (fun k_ => (P0_ k_ ∨ w.heap.size ≤ k_)) (.slice A0 l0.length c0) l0 from aj hs0 (fun k_ hk => .inl hk))
 have HB := zq (Below.refl w.heap.size w)
 have H : ((Xa8.f k l0).bind fun t339 => (if t339 = true then ((tight_form.f k l0).bind fun t340 => (some (t340, true))) else (some (([] : List (S30)), false)))) = some (r1, r2) := h
 clear h
 refine yv H ?_; clear H; rintro t339 A2 H
 refine yB H ?_ ?_ <;> clear H <;> rintro rfl H
 ·obtain ⟨rfl, rfl⟩ := yp2 H
  go_enter Try.func11, Try.ntmps11
  go_wp2_with (first | ((first | ((with_reducible refine Xi (f := 23) rfl ?_); refine Xbz (some 5) rfl rfl Try.func23 J17 rfl #[.slice A0 l0.length c0] rfl J3 ?_) | go_at_call 23); (with_reducible refine (Xa8.calls k _ _ l0 false _ ?side1 ?side2 A2.out).mono ?_); (case side1 => exact zc ((av HO0.out).2.2)); (case side2 => exact (av HO0.out).2.1); rintro e w7 ⟨rfl, hb⟩; (try refine ⟨_, rfl, ?_⟩); replace HB := zq (Xe J0 hb); (try clear hb); (try clear hk)))
  go_ret2
  exact ⟨_, J1, J106, J0⟩
 refine yv H ?_; clear H; rintro t340 A4 H
 obtain ⟨rfl, rfl⟩ := yp2 H
 go_enter Try.func11, Try.ntmps11
 go_wp2_with (first | ((first | ((with_reducible refine Xi (f := 23) rfl ?_); refine Xbz (some 5) rfl rfl Try.func23 J17 rfl #[.slice A0 l0.length c0] rfl J3 ?_) | go_at_call 23); (with_reducible refine (Xa8.calls k _ _ l0 true _ ?side1 ?side2 A2.out).mono ?_); (case side1 => exact zc ((av HO0.out).2.2)); (case side2 => exact (av HO0.out).2.1); rintro e w5 ⟨rfl, hb⟩; (try refine ⟨_, rfl, ?_⟩); replace HO0 := zq (ax (zv HO0.out) hb); replace HB := zq (Xe J0 hb); (try clear hb); (try clear hk)) | ((first | ((with_reducible refine Xi (f := 27) rfl ?_); refine Xbz (some 8) rfl rfl Try.func27 J17 rfl #[.slice A0 l0.length c0] rfl J3 ?_) | go_at_call 27); (with_reducible refine (tight_form.calls k (fun k_ => (P0_ k_ ∨ w.heap.size ≤ k_)) _ _ l0 t340 _ ?side1 A4.out).mono ?_); (case side1 => exact HO0.out); rintro e w6 ⟨v341, rfl, ho0, hb⟩; replace ho0 := kW_le ho0 (Xc J0); (try refine ⟨_, rfl, ?_⟩); replace HO0 := zq (am (zv HO0.out) (ao ho0) hb); have HO342 := zq (aH (ap (ok' := fun k_ => (P0_ k_ ∨ w.heap.size ≤ k_)) ho0 (fun k_ hk_ => Or.elim hk_ (fun hs_ => hs_) (fun hn_ => (.inr (Nat.le_trans (Xc J0) hn_))))) (Xc J0)); replace HB := zq (Xe J0 hb); (try clear hb); (try clear hk); (try clear ho0)))
 go_ret2
 exact ⟨_, J1, by (with_reducible repeat (first | apply Kd.N_alloc | apply Kd.N_drewN | apply aC)); exact HO342.out, J0⟩
theorem Xav.calls (k : Nat) (P0_ : Nat → Prop) (A0 : Option Addr) (c0 : Nat) (l0 : List (S30)) (r1 : List (S30)) (r2 : Bool) (w : World) (hs0 : Kd.V k30 30 w w.heap.size (fun k_ => P0_ k_) (.slice A0 l0.length c0) l0) (h : Xav.f k l0 = some (r1, r2)) :
  Calls Try.prog 11 #[.slice A0 l0.length c0] w fun e w' => ∃ v0_ : Value, e = .returned (.tuple #[v0_, .bool r2]) ∧ Kd.N k30 30 w' w.heap.size (fun k_ => (P0_ k_ ∨ w.heap.size ≤ k_)) v0_ r1 ∧ Below w.heap.size w w' := by
 refine (Xav.callsW k P0_ A0 c0 l0 r1 r2 w hs0 h).mono ?_
 rintro e w' ⟨v, he, h1, hB⟩
 exact ⟨v, he, kW_N h1, hB⟩
def Xy.l0 : Nat → List Int → List Int → Int → Option (Bool)
 | 0, _, _, _ => none
 | k + 1, x0, x1, x5 => if x5 < (x0.length : Int) then (if 0 ≤ x5 then (if x5 < (x1.length : Int) then (if (rd x0 x5) = (rd x1 x5) then (Xy.l0 k x0 x1 (wrap64 (x5 + 1))) else (some false)) else (none)) else (none)) else (some true)
def Xy.f (k : Nat) (l0 : List Int) (l1 : List Int) : Option (Bool) := if (l0.length : Int) = (l1.length : Int) then (Xy.l0 k l0 l1 0) else (some false)
theorem Xy.mono_l : ∀ k, (∀ y0 y1 y2, LeO (Xy.l0 k y0 y1 y2) (Xy.l0 (k + 1) y0 y1 y2))
 | 0 => fun _ _ _ r h => by simp [Xy.l0] at h
 | k + 1 => by
  have ih0 := Xy.mono_l k
  ·intro y0 y1 y2
   unfold Xy.l0
   exact mz0
theorem Xy.mono : ∀ a0 a1 k, LeO (Xy.f k a0 a1) (Xy.f (k + 1) a0 a1) := by
 intro a0 a1 k
 have ih0 := Xy.mono_l k
 unfold Xy.f
 exact mz0
set_option maxHeartbeats 8000000 in
set_option maxRecDepth 100000 in
theorem Xy.calls (k : Nat) (A0 : Option Addr) (c0 : Nat) (l0 : List Int) (A1 : Option Addr) (c1 : Nat) (l1 : List Int) (r : Bool) (w : World) (hr0 : Kd.C (Kd.int .i64) w A0 l0.length l0) (hc0 : l0.length ≤ c0) (hr1 : Kd.C (Kd.int .i64) w A1 l1.length l1) (hc1 : l1.length ≤ c1) (h : Xy.f k l0 l1 = some r) :
  Calls Try.prog 21 #[.slice A0 l0.length c0, .slice A1 l1.length c1] w fun e w' => e = .returned (.bool r) ∧ Drawn0 w w' := by
 have HR0 := zq hr0
 have HC0 := zq hc0
 clear hr0 hc0
 have HR1 := zq hr1
 have HC1 := zq hc1
 clear hr1 hc1
 unfold Xy.f at h
 have H := h
 clear h
 refine yE H ?_ ?_ <;> clear H <;> rintro ⟨c3b0, c3b1, c3⟩ H
 ·have c3b2 : (l0.length == l1.length) = false := by first | simpa using c3 | (simp at c3 ⊢; omega)
  obtain rfl := yo H
  go_enter Try.func21, Try.ntmps21
  go_wp2
  repeat (go_quiet (fail); try go_wp2)
  go_ret
  exact ⟨J4, J9⟩
 have c3b2 : (l0.length == l1.length) = true := J112
 clear c3
 have H' := zq H
 clear H
 go_enter Try.func21, Try.ntmps21
 go_wp2
 repeat (go_quiet (fail); try go_wp2)
 go_loopg [5] k (fun kq v5 w' => ∃ (x5_1 : Int), v5 = .int .i64 x5_1 ∧ Aside0 (Xy.l0 kq l0 l1 x5_1 = some r) ∧ Aside0 (kq ≤ k) ∧ Drawn0 w w')
 case atStart => exact ⟨(0), J4, H', ⟨Nat.le_refl _⟩, J9⟩
 case round =>
  clear H'
  try clear c1
  try clear c3
  try clear c3b0
  try clear c3b1
  try clear c3b2
  obtain ⟨x5_1, rfl, HA, HK1, ⟨m1, rfl⟩⟩ := hrel
  cases gk with
  | zero => exact absurd HA.out (by simp [Xy.l0])
  | succ k1 =>
   have H := HA.out
   clear HA
   simp only [Xy.l0] at H
   refine yd H ?_ ?_ <;> clear H <;> rintro c4b0 H
   ·obtain rfl := yo H
    go_wp2
    repeat (go_quiet (fail); try go_wp2)
    go_ret
    exact ⟨J4, J9⟩
   refine yj H ?_; clear H; intro c5b0 H
   refine yj H ?_; clear H; intro c6b0 H
   refine yE H ?_ ?_ <;> clear H <;> rintro ⟨c7b0, c7b1, c7⟩ H
   ·obtain rfl := yo H
    have p343 : 0 ≤ (x5_1 : Int) := of_decide_eq_true J2
    have q343 : x5_1 < (l0.length : Int) := of_decide_eq_true J2
    obtain ⟨ad343, e343, hx343_0⟩ := Kd.at_int HR0.out x5_1 p343 q343
    cases e343
    replace p343 := eq_true p343
    replace q343 := eq_true q343
    have p344 : 0 ≤ (x5_1 : Int) := of_decide_eq_true J2
    have q344 : x5_1 < (l1.length : Int) := of_decide_eq_true J2
    obtain ⟨ad344, e344, hx344_0⟩ := Kd.at_int HR1.out x5_1 p344 q344
    cases e344
    replace p344 := eq_true p344
    replace q344 := eq_true q344
    go_wp2
    repeat (go_quiet (fail); try go_wp2)
    go_ret
    exact ⟨J4, J9⟩
   clear c7
   have H' := zq H
   clear H
   have p343 : 0 ≤ (x5_1 : Int) := of_decide_eq_true J2
   have q343 : x5_1 < (l0.length : Int) := of_decide_eq_true J2
   obtain ⟨ad343, e343, hx343_0⟩ := Kd.at_int HR0.out x5_1 p343 q343
   cases e343
   replace p343 := eq_true p343
   replace q343 := eq_true q343
   have p344 : 0 ≤ (x5_1 : Int) := of_decide_eq_true J2
   have q344 : x5_1 < (l1.length : Int) := of_decide_eq_true J2
   obtain ⟨ad344, e344, hx344_0⟩ := Kd.at_int HR1.out x5_1 p344 q344
   cases e344
   replace p344 := eq_true p344
   replace q344 := eq_true q344
   go_wp2
   repeat (go_quiet (fail); try go_wp2)
   go_roundg k1
   case measure => have := HK1.out; omega
   case rel => exact ⟨(wrap64 (x5_1 + 1)), J4, H', ⟨J84⟩, J9⟩
def X5.l0 : Nat → Int → Int → List Int → List Int → List (S38) → Int → List Int → List Int → List (S38) → Option (Bool)
 | 0, _, _, _, _, _, _, _, _, _ => none
 | k + 1, x5, x346000, x346001, x346002, x346003, x347000, x347001, x347002, x347003 => if x5 < (x346003.length : Int) then (if 0 ≤ x5 then (if x5 < (x347003.length : Int) then (if (!(((Xt x346003 x5).f0) == ((Xt x347003 x5).f0)) || (!(((Xt x346003 x5).f1) == ((Xt x347003 x5).f1)))) = true then (some false) else (X5.l0 k (wrap64 (x5 + 1)) x346000 x346001 x346002 x346003 x347000 x347001 x347002 x347003)) else (none)) else (none)) else (if x346000 = x347000 then ((Xy.f k x346001 x347001).bind fun t349 => (if t349 = true then ((Xy.f k x346002 x347002).bind fun t350 => (some t350)) else (some false))) else (some false))
def X5.f (k : Nat) (a0_0 : Int) (l0_1 : List Int) (l0_2 : List Int) (l0_3 : List (S38)) (a1_0 : Int) (l1_1 : List Int) (l1_2 : List Int) (l1_3 : List (S38)) : Option (Bool) := if (l0_3.length : Int) = (l1_3.length : Int) then (X5.l0 k 0 a0_0 l0_1 l0_2 l0_3 a1_0 l1_1 l1_2 l1_3) else (some false)
theorem X5.mono_l : ∀ k, (∀ y0 y1 y2 y3 y4 y5 y6 y7 y8, LeO (X5.l0 k y0 y1 y2 y3 y4 y5 y6 y7 y8) (X5.l0 (k + 1) y0 y1 y2 y3 y4 y5 y6 y7 y8))
 | 0 => fun _ _ _ _ _ _ _ _ _ r h => by simp [X5.l0] at h
 | k + 1 => by
  have ih0 := X5.mono_l k
  ·intro y0 y1 y2 y3 y4 y5 y6 y7 y8
   unfold X5.l0
   have im0 := @Xy.mono
   exact mz3
theorem X5.mono : ∀ a0 a1 a2 a3 a4 a5 a6 a7 k, LeO (X5.f k a0 a1 a2 a3 a4 a5 a6 a7) (X5.f (k + 1) a0 a1 a2 a3 a4 a5 a6 a7) := by
 intro a0 a1 a2 a3 a4 a5 a6 a7 k
 have ih0 := X5.mono_l k
 unfold X5.f
 have im0 := @Xy.mono
 exact mz3
set_option maxHeartbeats 8000000 in
set_option maxRecDepth 100000 in
theorem X5.calls (k : Nat) (a0_0 : Int) (A0_1 : Option Addr) (c0_1 : Nat) (l0_1 : List Int) (A0_2 : Option Addr) (c0_2 : Nat) (l0_2 : List Int) (A0_3 : Option Addr) (c0_3 : Nat) (l0_3 : List (S38)) (a1_0 : Int) (A1_1 : Option Addr) (c1_1 : Nat) (l1_1 : List Int) (A1_2 : Option Addr) (c1_2 : Nat) (l1_2 : List Int) (A1_3 : Option Addr) (c1_3 : Nat) (l1_3 : List (S38)) (r : Bool) (w : World) (hr0_1 : Kd.C (Kd.int .i64) w A0_1 l0_1.length l0_1) (hc0_1 : l0_1.length ≤ c0_1) (hr0_2 : Kd.C (Kd.int .i64) w A0_2 l0_2.length l0_2) (hc0_2 : l0_2.length ≤ c0_2) (hr0_3 : Kd.C k38 w A0_3 l0_3.length l0_3) (hc0_3 : l0_3.length ≤ c0_3) (hr1_1 : Kd.C (Kd.int .i64) w A1_1 l1_1.length l1_1) (hc1_1 : l1_1.length ≤ c1_1) (hr1_2 : Kd.C (Kd.int .i64) w A1_2 l1_2.length l1_2) (hc1_2 : l1_2.length ≤ c1_2) (hr1_3 : Kd.C k38 w A1_3 l1_3.length l1_3) (hc1_3 : l1_3.length ≤ c1_3) (h : X5.f k a0_0 l0_1 l0_2 l0_3 a1_0 l1_1 l1_2 l1_3 = some r) :
  Calls Try.prog 17 #[.agg #[.int .i64 a0_0, .slice A0_1 l0_1.length c0_1, .slice A0_2 l0_2.length c0_2, .slice A0_3 l0_3.length c0_3], .agg #[.int .i64 a1_0, .slice A1_1 l1_1.length c1_1, .slice A1_2 l1_2.length c1_2, .slice A1_3 l1_3.length c1_3]] w fun e w' => e = .returned (.bool r) ∧ Below w.heap.size w w' := by
 have hu30 := Try.underlying30
 have hu38 := Try.underlying38
 have HR0_1 := zq hr0_1
 have HC0_1 := zq hc0_1
 clear hr0_1 hc0_1
 have HR0_2 := zq hr0_2
 have HC0_2 := zq hc0_2
 clear hr0_2 hc0_2
 have HR0_3 := zq hr0_3
 have HC0_3 := zq hc0_3
 clear hr0_3 hc0_3
 have HR1_1 := zq hr1_1
 have HC1_1 := zq hc1_1
 clear hr1_1 hc1_1
 have HR1_2 := zq hr1_2
 have HC1_2 := zq hc1_2
 clear hr1_2 hc1_2
 have HR1_3 := zq hr1_3
 have HC1_3 := zq hc1_3
 clear hr1_3 hc1_3
 have HB := zq (Below.refl w.heap.size w)
 unfold X5.f at h
 have H := h
 clear h
 refine yE H ?_ ?_ <;> clear H <;> rintro ⟨c3b0, c3b1, c3⟩ H
 ·have c3b2 : (l0_3.length == l1_3.length) = false := by first | simpa using c3 | (simp at c3 ⊢; omega)
  obtain rfl := yo H
  go_enter Try.func17, Try.ntmps17
  go_wp2_with (first | ((with_reducible refine Xj (N := 2) rfl ?_); refine bxw 2 30 #[.int .i64 a0_0, .slice A0_1 l0_1.length c0_1, .slice A0_2 l0_2.length c0_2, .slice A0_3 l0_3.length c0_3] ?_; intro gb345 hg w32 hbox hb; have BK345 := zq (hbox); have GW345 := zq ((J22 : w.heap.size ≤ gb345)); have GE345 := zq ((J22 : w.heap.size ≤ gb345)); replace HB := zq (Xe J0 hb); clear hb hbox hg) | ((with_reducible refine Xj (N := 3) rfl ?_); refine bxw 3 30 #[.int .i64 a1_0, .slice A1_1 l1_1.length c1_1, .slice A1_2 l1_2.length c1_2, .slice A1_3 l1_3.length c1_3] ?_; intro gb346 hg w33 hbox hb; have BK346 := zq (hbox); have GW346 := zq ((J75 : w.heap.size ≤ gb346)); have GE346 := zq ((J75 : w.heap.size ≤ gb346)); replace HB := zq (Xe (zs1 GE345.out) hb); have NB345_346 := zq ((J35 : gb345 ≠ gb346)); have NB346_345 := zq ((J36 : gb346 ≠ gb345)); replace BK345 := zq (Xg (zk BK345.out) hb); clear hb hbox hg; have hnb34 := NB345_346.out; have hnc34 := NB346_345.out; have Z35 := cz4 BK345.out; have Z36 := cz4 BK346.out))
  repeat (go_quiet (first | ((with_reducible refine Xj (N := 2) rfl ?_); refine bxw 2 30 #[.int .i64 a0_0, .slice A0_1 l0_1.length c0_1, .slice A0_2 l0_2.length c0_2, .slice A0_3 l0_3.length c0_3] ?_; intro gb345 hg w32 hbox hb; have BK345 := zq (hbox); have GW345 := zq ((J22 : w.heap.size ≤ gb345)); have GE345 := zq ((J22 : w.heap.size ≤ gb345)); replace HB := zq (Xe J0 hb); clear hb hbox hg) | ((with_reducible refine Xj (N := 3) rfl ?_); refine bxw 3 30 #[.int .i64 a1_0, .slice A1_1 l1_1.length c1_1, .slice A1_2 l1_2.length c1_2, .slice A1_3 l1_3.length c1_3] ?_; intro gb346 hg w33 hbox hb; have BK346 := zq (hbox); have GW346 := zq ((J75 : w.heap.size ≤ gb346)); have GE346 := zq ((J75 : w.heap.size ≤ gb346)); replace HB := zq (Xe (zs1 GE345.out) hb); have NB345_346 := zq ((J35 : gb345 ≠ gb346)); have NB346_345 := zq ((J36 : gb346 ≠ gb345)); replace BK345 := zq (Xg (zk BK345.out) hb); clear hb hbox hg; have hnb34 := NB345_346.out; have hnc34 := NB346_345.out; have Z35 := cz4 BK345.out; have Z36 := cz4 BK346.out)); try go_wp2_with (first | ((with_reducible refine Xj (N := 2) rfl ?_); refine bxw 2 30 #[.int .i64 a0_0, .slice A0_1 l0_1.length c0_1, .slice A0_2 l0_2.length c0_2, .slice A0_3 l0_3.length c0_3] ?_; intro gb345 hg w32 hbox hb; have BK345 := zq (hbox); have GW345 := zq ((J22 : w.heap.size ≤ gb345)); have GE345 := zq ((J22 : w.heap.size ≤ gb345)); replace HB := zq (Xe J0 hb); clear hb hbox hg) | ((with_reducible refine Xj (N := 3) rfl ?_); refine bxw 3 30 #[.int .i64 a1_0, .slice A1_1 l1_1.length c1_1, .slice A1_2 l1_2.length c1_2, .slice A1_3 l1_3.length c1_3] ?_; intro gb346 hg w33 hbox hb; have BK346 := zq (hbox); have GW346 := zq ((J75 : w.heap.size ≤ gb346)); have GE346 := zq ((J75 : w.heap.size ≤ gb346)); replace HB := zq (Xe (zs1 GE345.out) hb); have NB345_346 := zq ((J35 : gb345 ≠ gb346)); have NB346_345 := zq ((J36 : gb346 ≠ gb345)); replace BK345 := zq (Xg (zk BK345.out) hb); clear hb hbox hg; have hnb34 := NB345_346.out; have hnc34 := NB346_345.out; have Z35 := cz4 BK345.out; have Z36 := cz4 BK346.out)))
  go_ret
  exact ⟨J1, J27⟩
 have c3b2 : (l0_3.length == l1_3.length) = true := J112
 clear c3
 have H' := zq H
 clear H
 go_enter Try.func17, Try.ntmps17
 go_wp2_with (first | ((with_reducible refine Xj (N := 2) rfl ?_); refine bxw 2 30 #[.int .i64 a0_0, .slice A0_1 l0_1.length c0_1, .slice A0_2 l0_2.length c0_2, .slice A0_3 l0_3.length c0_3] ?_; intro gb345 hg w4 hbox hb; have BK345 := zq (hbox); have GW345 := zq ((J22 : w.heap.size ≤ gb345)); have GE345 := zq ((J22 : w.heap.size ≤ gb345)); replace HB := zq (Xe J0 hb); clear hb hbox hg) | ((with_reducible refine Xj (N := 3) rfl ?_); refine bxw 3 30 #[.int .i64 a1_0, .slice A1_1 l1_1.length c1_1, .slice A1_2 l1_2.length c1_2, .slice A1_3 l1_3.length c1_3] ?_; intro gb346 hg w5 hbox hb; have BK346 := zq (hbox); have GW346 := zq ((J75 : w.heap.size ≤ gb346)); have GE346 := zq ((J75 : w.heap.size ≤ gb346)); replace HB := zq (Xe (zs1 GE345.out) hb); have NB345_346 := zq ((J35 : gb345 ≠ gb346)); have NB346_345 := zq ((J36 : gb346 ≠ gb345)); replace BK345 := zq (Xg (zk BK345.out) hb); clear hb hbox hg; have hnb6 := NB345_346.out; have hnc6 := NB346_345.out; have Z7 := cz4 BK345.out; have Z8 := cz4 BK346.out))
 repeat (go_quiet (first | ((with_reducible refine Xj (N := 2) rfl ?_); refine bxw 2 30 #[.int .i64 a0_0, .slice A0_1 l0_1.length c0_1, .slice A0_2 l0_2.length c0_2, .slice A0_3 l0_3.length c0_3] ?_; intro gb345 hg w4 hbox hb; have BK345 := zq (hbox); have GW345 := zq ((J22 : w.heap.size ≤ gb345)); have GE345 := zq ((J22 : w.heap.size ≤ gb345)); replace HB := zq (Xe J0 hb); clear hb hbox hg) | ((with_reducible refine Xj (N := 3) rfl ?_); refine bxw 3 30 #[.int .i64 a1_0, .slice A1_1 l1_1.length c1_1, .slice A1_2 l1_2.length c1_2, .slice A1_3 l1_3.length c1_3] ?_; intro gb346 hg w5 hbox hb; have BK346 := zq (hbox); have GW346 := zq ((J75 : w.heap.size ≤ gb346)); have GE346 := zq ((J75 : w.heap.size ≤ gb346)); replace HB := zq (Xe (zs1 GE345.out) hb); have NB345_346 := zq ((J35 : gb345 ≠ gb346)); have NB346_345 := zq ((J36 : gb346 ≠ gb345)); replace BK345 := zq (Xg (zk BK345.out) hb); clear hb hbox hg; have hnb6 := NB345_346.out; have hnc6 := NB346_345.out; have Z7 := cz4 BK345.out; have Z8 := cz4 BK346.out)); try go_wp2_with (first | ((with_reducible refine Xj (N := 2) rfl ?_); refine bxw 2 30 #[.int .i64 a0_0, .slice A0_1 l0_1.length c0_1, .slice A0_2 l0_2.length c0_2, .slice A0_3 l0_3.length c0_3] ?_; intro gb345 hg w4 hbox hb; have BK345 := zq (hbox); have GW345 := zq ((J22 : w.heap.size ≤ gb345)); have GE345 := zq ((J22 : w.heap.size ≤ gb345)); replace HB := zq (Xe J0 hb); clear hb hbox hg) | ((with_reducible refine Xj (N := 3) rfl ?_); refine bxw 3 30 #[.int .i64 a1_0, .slice A1_1 l1_1.length c1_1, .slice A1_2 l1_2.length c1_2, .slice A1_3 l1_3.length c1_3] ?_; intro gb346 hg w5 hbox hb; have BK346 := zq (hbox); have GW346 := zq ((J75 : w.heap.size ≤ gb346)); have GE346 := zq ((J75 : w.heap.size ≤ gb346)); replace HB := zq (Xe (zs1 GE345.out) hb); have NB345_346 := zq ((J35 : gb345 ≠ gb346)); have NB346_345 := zq ((J36 : gb346 ≠ gb345)); replace BK345 := zq (Xg (zk BK345.out) hb); clear hb hbox hg; have hnb6 := NB345_346.out; have hnc6 := NB346_345.out; have Z7 := cz4 BK345.out; have Z8 := cz4 BK346.out)))
 go_loopg [5] k (fun kq v5 w' => ∃ (x5_1 : Int), v5 = .int .i64 x5_1 ∧ Aside0 (X5.l0 kq x5_1 a0_0 l0_1 l0_2 l0_3 a1_0 l1_1 l1_2 l1_3 = some r) ∧ Aside0 (kq ≤ k) ∧ Aside0 (w'.heap[gb345]? = some (.cells #[.int .i64 a0_0, (.slice A0_1 l0_1.length c0_1), (.slice A0_2 l0_2.length c0_2), (.slice A0_3 l0_3.length c0_3)] 30 (0, 0))) ∧ Aside0 (w'.heap[gb346]? = some (.cells #[.int .i64 a1_0, (.slice A1_1 l1_1.length c1_1), (.slice A1_2 l1_2.length c1_2), (.slice A1_3 l1_3.length c1_3)] 30 (0, 0))) ∧ Aside0 (Below w.heap.size w w'))
 case atStart => exact ⟨(0), J4, H', ⟨Nat.le_refl _⟩, ⟨J163⟩, ⟨J164⟩, ⟨J27⟩⟩
 case round =>
  clear H'
  try clear c3
  try clear c3b0
  try clear c3b1
  try clear c3b2
  try clear Z7
  try clear Z8
  obtain ⟨x5_1, rfl, HA, HK1, BK345, BK346, HB⟩ := hrel
  cases gk with
  | zero => exact absurd HA.out (by simp [X5.l0])
  | succ k1 =>
   have H := HA.out
   clear HA
   simp only [X5.l0] at H
   refine yd H ?_ ?_ <;> clear H <;> rintro c9b0 H
   ·refine yF H ?_ ?_ <;> clear H <;> rintro ⟨c19b0, c19b1, c19⟩ H
    ·clear c19
     refine yv H ?_; clear H; rintro t349 A20 H
     refine yC H ?_ ?_ <;> clear H <;> rintro rfl H
     ·refine yv H ?_; clear H; rintro t350 A22 H
      obtain rfl := yo H
      have hnb23 := NB345_346.out
      have hnc23 := NB346_345.out
      have Z24 := cz4 BK345.out
      have Z25 := cz4 BK346.out
      go_wp2_with (first | (go_at_call 21; (with_reducible refine (Xy.calls k1 _ _ l0_1 _ _ l1_1 true _ ?side1 ?side2 ?side3 ?side4 A20.out).mono ?_); (case side1 => exact zc (ac HR0_1.out HB.out)); (case side2 => exact HC0_1.out); (case side3 => exact zc (ac HR1_1.out HB.out)); (case side4 => exact HC1_1.out); rintro e w' ⟨rfl, ⟨nd, rfl⟩⟩; (try first | exact ⟨rfl, _, World.drewN_drewN _ _ _⟩ | exact ⟨rfl, _, Eq.trans (World.drewN_drewN _ _ _) (congrArg (World.drewN _) (Nat.add_assoc _ _ _))⟩)) | (go_at_call 21; (with_reducible refine (Xy.calls k1 _ _ l0_2 _ _ l1_2 t350 _ ?side1 ?side2 ?side3 ?side4 A22.out).mono ?_); (case side1 => repeat (first | exact (ac HR0_2.out (zs2 GE345.out GE346.out)) | (with_reducible refine Kd.C_alloc ?_ _) | (with_reducible refine au ?_ _) | (with_reducible refine Kd.C_drew ?_))); (case side2 => exact HC0_2.out); (case side3 => repeat (first | exact (ac HR1_2.out (zs2 GE345.out GE346.out)) | (with_reducible refine Kd.C_alloc ?_ _) | (with_reducible refine au ?_ _) | (with_reducible refine Kd.C_drew ?_))); (case side4 => exact HC1_2.out); rintro e w' ⟨rfl, ⟨nd, rfl⟩⟩; (try first | exact ⟨rfl, _, World.drewN_drewN _ _ _⟩ | exact ⟨rfl, _, Eq.trans (World.drewN_drewN _ _ _) (congrArg (World.drewN _) (Nat.add_assoc _ _ _))⟩)))
      repeat (go_quiet (first | (go_at_call 21; (with_reducible refine (Xy.calls k1 _ _ l0_1 _ _ l1_1 true _ ?side1 ?side2 ?side3 ?side4 A20.out).mono ?_); (case side1 => exact zc (ac HR0_1.out HB.out)); (case side2 => exact HC0_1.out); (case side3 => exact zc (ac HR1_1.out HB.out)); (case side4 => exact HC1_1.out); rintro e w' ⟨rfl, ⟨nd, rfl⟩⟩; (try first | exact ⟨rfl, _, World.drewN_drewN _ _ _⟩ | exact ⟨rfl, _, Eq.trans (World.drewN_drewN _ _ _) (congrArg (World.drewN _) (Nat.add_assoc _ _ _))⟩)) | (go_at_call 21; (with_reducible refine (Xy.calls k1 _ _ l0_2 _ _ l1_2 t350 _ ?side1 ?side2 ?side3 ?side4 A22.out).mono ?_); (case side1 => repeat (first | exact (ac HR0_2.out (zs2 GE345.out GE346.out)) | (with_reducible refine Kd.C_alloc ?_ _) | (with_reducible refine au ?_ _) | (with_reducible refine Kd.C_drew ?_))); (case side2 => exact HC0_2.out); (case side3 => repeat (first | exact (ac HR1_2.out (zs2 GE345.out GE346.out)) | (with_reducible refine Kd.C_alloc ?_ _) | (with_reducible refine au ?_ _) | (with_reducible refine Kd.C_drew ?_))); (case side4 => exact HC1_2.out); rintro e w' ⟨rfl, ⟨nd, rfl⟩⟩; (try first | exact ⟨rfl, _, World.drewN_drewN _ _ _⟩ | exact ⟨rfl, _, Eq.trans (World.drewN_drewN _ _ _) (congrArg (World.drewN _) (Nat.add_assoc _ _ _))⟩))); try go_wp2_with (first | (go_at_call 21; (with_reducible refine (Xy.calls k1 _ _ l0_1 _ _ l1_1 true _ ?side1 ?side2 ?side3 ?side4 A20.out).mono ?_); (case side1 => exact zc (ac HR0_1.out HB.out)); (case side2 => exact HC0_1.out); (case side3 => exact zc (ac HR1_1.out HB.out)); (case side4 => exact HC1_1.out); rintro e w' ⟨rfl, ⟨nd, rfl⟩⟩; (try first | exact ⟨rfl, _, World.drewN_drewN _ _ _⟩ | exact ⟨rfl, _, Eq.trans (World.drewN_drewN _ _ _) (congrArg (World.drewN _) (Nat.add_assoc _ _ _))⟩)) | (go_at_call 21; (with_reducible refine (Xy.calls k1 _ _ l0_2 _ _ l1_2 t350 _ ?side1 ?side2 ?side3 ?side4 A22.out).mono ?_); (case side1 => repeat (first | exact (ac HR0_2.out (zs2 GE345.out GE346.out)) | (with_reducible refine Kd.C_alloc ?_ _) | (with_reducible refine au ?_ _) | (with_reducible refine Kd.C_drew ?_))); (case side2 => exact HC0_2.out); (case side3 => repeat (first | exact (ac HR1_2.out (zs2 GE345.out GE346.out)) | (with_reducible refine Kd.C_alloc ?_ _) | (with_reducible refine au ?_ _) | (with_reducible refine Kd.C_drew ?_))); (case side4 => exact HC1_2.out); rintro e w' ⟨rfl, ⟨nd, rfl⟩⟩; (try first | exact ⟨rfl, _, World.drewN_drewN _ _ _⟩ | exact ⟨rfl, _, Eq.trans (World.drewN_drewN _ _ _) (congrArg (World.drewN _) (Nat.add_assoc _ _ _))⟩))))
      go_ret
      exact ⟨J1, J27⟩
     ·obtain rfl := yo H
      have hnb26 := NB345_346.out
      have hnc26 := NB346_345.out
      have Z27 := cz4 BK345.out
      have Z28 := cz4 BK346.out
      go_wp2_with (first | (go_at_call 21; (with_reducible refine (Xy.calls k1 _ _ l0_1 _ _ l1_1 false _ ?side1 ?side2 ?side3 ?side4 A20.out).mono ?_); (case side1 => exact zc (ac HR0_1.out HB.out)); (case side2 => exact HC0_1.out); (case side3 => exact zc (ac HR1_1.out HB.out)); (case side4 => exact HC1_1.out); rintro e w' ⟨rfl, ⟨nd, rfl⟩⟩; (try first | exact ⟨rfl, _, World.drewN_drewN _ _ _⟩ | exact ⟨rfl, _, Eq.trans (World.drewN_drewN _ _ _) (congrArg (World.drewN _) (Nat.add_assoc _ _ _))⟩)))
      repeat (go_quiet (first | (go_at_call 21; (with_reducible refine (Xy.calls k1 _ _ l0_1 _ _ l1_1 false _ ?side1 ?side2 ?side3 ?side4 A20.out).mono ?_); (case side1 => exact zc (ac HR0_1.out HB.out)); (case side2 => exact HC0_1.out); (case side3 => exact zc (ac HR1_1.out HB.out)); (case side4 => exact HC1_1.out); rintro e w' ⟨rfl, ⟨nd, rfl⟩⟩; (try first | exact ⟨rfl, _, World.drewN_drewN _ _ _⟩ | exact ⟨rfl, _, Eq.trans (World.drewN_drewN _ _ _) (congrArg (World.drewN _) (Nat.add_assoc _ _ _))⟩))); try go_wp2_with (first | (go_at_call 21; (with_reducible refine (Xy.calls k1 _ _ l0_1 _ _ l1_1 false _ ?side1 ?side2 ?side3 ?side4 A20.out).mono ?_); (case side1 => exact zc (ac HR0_1.out HB.out)); (case side2 => exact HC0_1.out); (case side3 => exact zc (ac HR1_1.out HB.out)); (case side4 => exact HC1_1.out); rintro e w' ⟨rfl, ⟨nd, rfl⟩⟩; (try first | exact ⟨rfl, _, World.drewN_drewN _ _ _⟩ | exact ⟨rfl, _, Eq.trans (World.drewN_drewN _ _ _) (congrArg (World.drewN _) (Nat.add_assoc _ _ _))⟩))))
      go_ret
      exact ⟨J1, J27⟩
    ·obtain rfl := yo H
     have hnb29 := NB345_346.out
     have hnc29 := NB346_345.out
     have Z30 := cz4 BK345.out
     have Z31 := cz4 BK346.out
     go_wp2
     repeat (go_quiet (fail); try go_wp2)
     go_ret
     exact ⟨J1, J27⟩
   refine yj H ?_; clear H; intro c10b0 H
   refine yj H ?_; clear H; intro c11b0 H
   refine yu H ?_ ?_ <;> clear H <;> rintro c12 H
   ·have c12b0 : (!(((Xt l0_3 x5_1).f0) == ((Xt l1_3 x5_1).f0)) || (!(((Xt l0_3 x5_1).f1) == ((Xt l1_3 x5_1).f1)))) = true := c12
    clear c12
    obtain rfl := yo H
    have hnb13 := NB345_346.out
    have hnc13 := NB346_345.out
    have Z14 := cz4 BK345.out
    obtain ⟨ad347, e347, hx347_0, hx347_1, p347, q347⟩ := rdD HR0_3.out HB.out x5_1
    cases e347
    have Z15 := cz4 BK346.out
    obtain ⟨ad348, e348, hx348_0, hx348_1, p348, q348⟩ := rdD HR1_3.out HB.out x5_1
    cases e348
    go_wp2
    repeat (go_quiet (fail); try go_wp2)
    go_ret
    exact ⟨J1, J27⟩
   have c12b0 : (!(((Xt l0_3 x5_1).f0) == ((Xt l1_3 x5_1).f0)) || (!(((Xt l0_3 x5_1).f1) == ((Xt l1_3 x5_1).f1)))) = false := by simpa using c12
   clear c12
   have H' := zq H
   clear H
   have hnb16 := NB345_346.out
   have hnc16 := NB346_345.out
   have Z17 := cz4 BK345.out
   obtain ⟨ad347, e347, hx347_0, hx347_1, p347, q347⟩ := rdD HR0_3.out HB.out x5_1
   cases e347
   have Z18 := cz4 BK346.out
   obtain ⟨ad348, e348, hx348_0, hx348_1, p348, q348⟩ := rdD HR1_3.out HB.out x5_1
   cases e348
   go_wp2
   repeat (go_quiet (fail); try go_wp2)
   go_roundg k1
   case measure => have := HK1.out; omega
   case rel => exact ⟨(wrap64 (x5_1 + 1)), J4, H', ⟨J84⟩, ⟨J163⟩, ⟨J164⟩, ⟨J27⟩⟩
end Go.Proofs.Ytecdklheppcihaa.HTightTells
