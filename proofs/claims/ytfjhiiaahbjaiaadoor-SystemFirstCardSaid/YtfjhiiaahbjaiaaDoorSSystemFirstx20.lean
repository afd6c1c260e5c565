/- What the Go functions of this claim answer, told as functions of numbers and lists, and that other memory stays as it was: words and walks, shortened by a program. -/
import Derived.Test.YtfjhiiaahbjaiaaDoorSSystemFirstx0
import Derived.Test.YtfjhiiaahbjaiaaDoorSSystemFirstx1
namespace Go.Proofs.YtfjhiiaahbjaiaaDoor.HSystemFirst
open Go.RowKit Go.Proofs.YtfjhiiaahbjaiaaDoorW.PrintWords Go.Proofs.YtfjhiiaahbjaiaaDoorW.PrintLast Go.Proofs.YtfjhiiaahbjaiaaDoorW.PrintMore
attribute [local go_sem] Xby Xbw Xcb Xca Xbp Xbo Xbx Xbv
set_option linter.unusedVariables false
set_option linter.unusedSimpArgs false
attribute [local go_sem high] eqA40
def X9.l0 : Nat → List Int → List Int → Int → Option (Bool)
 | 0, _, _, _ => none
 | k + 1, x0, x1, x5 => if x5 < (x0.length : Int) then (if 0 ≤ x5 then (if x5 < (x1.length : Int) then (if (rd x0 x5) = (rd x1 x5) then (X9.l0 k x0 x1 (wrap64 (x5 + 1))) else (some false)) else (none)) else (none)) else (some true)
def X9.f (k : Nat) (l0 : List Int) (l1 : List Int) : Option (Bool) := if (l0.length : Int) = (l1.length : Int) then (X9.l0 k l0 l1 0) else (some false)
theorem X9.mono_l : ∀ k, (∀ y0 y1 y2, LeO (X9.l0 k y0 y1 y2) (X9.l0 (k + 1) y0 y1 y2))
 | 0 => fun _ _ _ r h => by simp [X9.l0] at h
 | k + 1 => by
  have ih0 := X9.mono_l k
  ·intro y0 y1 y2
   unfold X9.l0
   exact mz0
theorem X9.mono : ∀ a0 a1 k, LeO (X9.f k a0 a1) (X9.f (k + 1) a0 a1) := by
 intro a0 a1 k
 have ih0 := X9.mono_l k
 unfold X9.f
 exact mz0
set_option maxHeartbeats 8000000 in
set_option maxRecDepth 100000 in
theorem X9.calls (k : Nat) (A0 : Option Addr) (c0 : Nat) (l0 : List Int) (A1 : Option Addr) (c1 : Nat) (l1 : List Int) (r : Bool) (w : World) (hr0 : Kd.C (Kd.int .i64) w A0 l0.length l0) (hc0 : l0.length ≤ c0) (hr1 : Kd.C (Kd.int .i64) w A1 l1.length l1) (hc1 : l1.length ≤ c1) (h : X9.f k l0 l1 = some r) :
  Calls Tryd.prog 48 #[.slice A0 l0.length c0, .slice A1 l1.length c1] w fun e w' => e = .returned (.bool r) ∧ Drawn0 w w' := by
 have HR0 := zq hr0
 have HC0 := zq hc0
 clear hr0 hc0
 have HR1 := zq hr1
 have HC1 := zq hc1
 clear hr1 hc1
 unfold X9.f at h
 have H := h
 clear h
 refine yE H ?_ ?_ <;> clear H <;> rintro ⟨c3b0, c3b1, c3⟩ H
 ·have c3b2 : (l0.length == l1.length) = false := by first | simpa using c3 | (simp at c3 ⊢; omega)
  obtain rfl := yo H
  go_enter Tryd.func48, Tryd.ntmps48
  go_wp2
  repeat (go_quiet (fail); try go_wp2)
  go_ret
  exact ⟨J4, J5⟩
 have c3b2 : (l0.length == l1.length) = true := J99
 clear c3
 have H' := zq H
 clear H
 go_enter Tryd.func48, Tryd.ntmps48
 go_wp2
 repeat (go_quiet (fail); try go_wp2)
 go_loopg [5] k (fun kq v5 w' => ∃ (x5_1 : Int), v5 = .int .i64 x5_1 ∧ Aside0 (X9.l0 kq l0 l1 x5_1 = some r) ∧ Aside0 (kq ≤ k) ∧ Drawn0 w w')
 case atStart => exact ⟨(0), J4, H', ⟨Nat.le_refl _⟩, J5⟩
 case round =>
  clear H'
  try clear c1
  try clear c3
  try clear c3b0
  try clear c3b1
  try clear c3b2
  obtain ⟨x5_1, rfl, HA, HK1, ⟨m1, rfl⟩⟩ := hrel
  cases gk with
  | zero => exact absurd HA.out (by simp [X9.l0])
  | succ k1 =>
   have H := HA.out
   clear HA
   simp only [X9.l0] at H
   refine yd H ?_ ?_ <;> clear H <;> rintro c4b0 H
   ·obtain rfl := yo H
    go_wp2
    repeat (go_quiet (fail); try go_wp2)
    go_ret
    exact ⟨J4, J5⟩
   refine yj H ?_; clear H; intro c5b0 H
   refine yj H ?_; clear H; intro c6b0 H
   refine yE H ?_ ?_ <;> clear H <;> rintro ⟨c7b0, c7b1, c7⟩ H
   ·obtain rfl := yo H
    have p634 : 0 ≤ (x5_1 : Int) := of_decide_eq_true J3
    have q634 : x5_1 < (l0.length : Int) := of_decide_eq_true J3
    obtain ⟨ad634, e634, hx634_0⟩ := Kd.at_int HR0.out x5_1 p634 q634
    cases e634
    replace p634 := eq_true p634
    replace q634 := eq_true q634
    have p635 : 0 ≤ (x5_1 : Int) := of_decide_eq_true J3
    have q635 : x5_1 < (l1.length : Int) := of_decide_eq_true J3
    obtain ⟨ad635, e635, hx635_0⟩ := Kd.at_int HR1.out x5_1 p635 q635
    cases e635
    replace p635 := eq_true p635
    replace q635 := eq_true q635
    go_wp2
    repeat (go_quiet (fail); try go_wp2)
    go_ret
    exact ⟨J4, J5⟩
   clear c7
   have H' := zq H
   clear H
   have p634 : 0 ≤ (x5_1 : Int) := of_decide_eq_true J3
   have q634 : x5_1 < (l0.length : Int) := of_decide_eq_true J3
   obtain ⟨ad634, e634, hx634_0⟩ := Kd.at_int HR0.out x5_1 p634 q634
   cases e634
   replace p634 := eq_true p634
   replace q634 := eq_true q634
   have p635 : 0 ≤ (x5_1 : Int) := of_decide_eq_true J3
   have q635 : x5_1 < (l1.length : Int) := of_decide_eq_true J3
   obtain ⟨ad635, e635, hx635_0⟩ := Kd.at_int HR1.out x5_1 p635 q635
   cases e635
   replace p635 := eq_true p635
   replace q635 := eq_true q635
   go_wp2
   repeat (go_quiet (fail); try go_wp2)
   go_roundg k1
   case measure => have := HK1.out; omega
   case rel => exact ⟨(wrap64 (x5_1 + 1)), J4, H', ⟨J86⟩, J5⟩
def Xas.l0 : Nat → Int → Int → List Int → List Int → List (S40) → Int → List Int → List Int → List (S40) → Option (Bool)
 | 0, _, _, _, _, _, _, _, _, _ => none
 | k + 1, x5, x637000, x637001, x637002, x637003, x638000, x638001, x638002, x638003 => if x5 < (x637003.length : Int) then (if 0 ≤ x5 then (if x5 < (x638003.length : Int) then (if (!(((Xv x637003 x5).f0) == ((Xv x638003 x5).f0)) || (!(((Xv x637003 x5).f1) == ((Xv x638003 x5).f1)))) = true then (some false) else (Xas.l0 k (wrap64 (x5 + 1)) x637000 x637001 x637002 x637003 x638000 x638001 x638002 x638003)) else (none)) else (none)) else (if x637000 = x638000 then ((X9.f k x637001 x638001).bind fun t640 => (if t640 = true then ((X9.f k x637002 x638002).bind fun t641 => (some t641)) else (some false))) else (some false))
def Xas.f (k : Nat) (a0_0 : Int) (l0_1 : List Int) (l0_2 : List Int) (l0_3 : List (S40)) (a1_0 : Int) (l1_1 : List Int) (l1_2 : List Int) (l1_3 : List (S40)) : Option (Bool) := if (l0_3.length : Int) = (l1_3.length : Int) then (Xas.l0 k 0 a0_0 l0_1 l0_2 l0_3 a1_0 l1_1 l1_2 l1_3) else (some false)
theorem Xas.mono_l : ∀ k, (∀ y0 y1 y2 y3 y4 y5 y6 y7 y8, LeO (Xas.l0 k y0 y1 y2 y3 y4 y5 y6 y7 y8) (Xas.l0 (k + 1) y0 y1 y2 y3 y4 y5 y6 y7 y8))
 | 0 => fun _ _ _ _ _ _ _ _ _ r h => by simp [Xas.l0] at h
 | k + 1 => by
  have ih0 := Xas.mono_l k
  ·intro y0 y1 y2 y3 y4 y5 y6 y7 y8
   unfold Xas.l0
   have im0 := @X9.mono
   exact mz3
theorem Xas.mono : ∀ a0 a1 a2 a3 a4 a5 a6 a7 k, LeO (Xas.f k a0 a1 a2 a3 a4 a5 a6 a7) (Xas.f (k + 1) a0 a1 a2 a3 a4 a5 a6 a7) := by
 intro a0 a1 a2 a3 a4 a5 a6 a7 k
 have ih0 := Xas.mono_l k
 unfold Xas.f
 have im0 := @X9.mono
 exact mz3
set_option maxHeartbeats 8000000 in
set_option maxRecDepth 100000 in
theorem Xas.calls (k : Nat) (a0_0 : Int) (A0_1 : Option Addr) (c0_1 : Nat) (l0_1 : List Int) (A0_2 : Option Addr) (c0_2 : Nat) (l0_2 : List Int) (A0_3 : Option Addr) (c0_3 : Nat) (l0_3 : List (S40)) (a1_0 : Int) (A1_1 : Option Addr) (c1_1 : Nat) (l1_1 : List Int) (A1_2 : Option Addr) (c1_2 : Nat) (l1_2 : List Int) (A1_3 : Option Addr) (c1_3 : Nat) (l1_3 : List (S40)) (r : Bool) (w : World) (hr0_1 : Kd.C (Kd.int .i64) w A0_1 l0_1.length l0_1) (hc0_1 : l0_1.length ≤ c0_1) (hr0_2 : Kd.C (Kd.int .i64) w A0_2 l0_2.length l0_2) (hc0_2 : l0_2.length ≤ c0_2) (hr0_3 : Kd.C k40 w A0_3 l0_3.length l0_3) (hc0_3 : l0_3.length ≤ c0_3) (hr1_1 : Kd.C (Kd.int .i64) w A1_1 l1_1.length l1_1) (hc1_1 : l1_1.length ≤ c1_1) (hr1_2 : Kd.C (Kd.int .i64) w A1_2 l1_2.length l1_2) (hc1_2 : l1_2.length ≤ c1_2) (hr1_3 : Kd.C k40 w A1_3 l1_3.length l1_3) (hc1_3 : l1_3.length ≤ c1_3) (h : Xas.f k a0_0 l0_1 l0_2 l0_3 a1_0 l1_1 l1_2 l1_3 = some r) :
  Calls Tryd.prog 25 #[.agg #[.int .i64 a0_0, .slice A0_1 l0_1.length c0_1, .slice A0_2 l0_2.length c0_2, .slice A0_3 l0_3.length c0_3], .agg #[.int .i64 a1_0, .slice A1_1 l1_1.length c1_1, .slice A1_2 l1_2.length c1_2, .slice A1_3 l1_3.length c1_3]] w fun e w' => e = .returned (.bool r) ∧ Below w.heap.size w w' := by
 have hu32 := Tryd.underlying32
 have hu40 := Tryd.underlying40
 have HR0_1 := zq hr0_1
 have HC0_1 := zq hc0_1
 clear hr0_1 hc0_1
 have HR0_2 := zq hr0_2
 have HC0_2 := zq hc0_2
 clear hr0_2 hc0_2
 have HR0_3 := zq hr0_3
 have HC0_3 := zq hc0_3
 clear hr0_3 hc0_3
 have HR1_1 := zq hr1_1
 have HC1_1 := zq hc1_1
 clear hr1_1 hc1_1
 have HR1_2 := zq hr1_2
 have HC1_2 := zq hc1_2
 clear hr1_2 hc1_2
 have HR1_3 := zq hr1_3
 have HC1_3 := zq hc1_3
 clear hr1_3 hc1_3
 have HB := zq (Below.refl w.heap.size w)
 unfold Xas.f at h
 have H := h
 clear h
 refine yE H ?_ ?_ <;> clear H <;> rintro ⟨c3b0, c3b1, c3⟩ H
 ·have c3b2 : (l0_3.length == l1_3.length) = false := by first | simpa using c3 | (simp at c3 ⊢; omega)
  obtain rfl := yo H
  go_enter Tryd.func25, Tryd.ntmps25
  go_wp2_with (first | ((with_reducible refine Xk (N := 2) rfl ?_); refine bxw 2 32 #[.int .i64 a0_0, .slice A0_1 l0_1.length c0_1, .slice A0_2 l0_2.length c0_2, .slice A0_3 l0_3.length c0_3] ?_; intro gb636 hg w32 hbox hb; have BK636 := zq (hbox); have GW636 := zq ((J12 : w.heap.size ≤ gb636)); have GE636 := zq ((J12 : w.heap.size ≤ gb636)); replace HB := zq (Xd J0 hb); clear hb hbox hg) | ((with_reducible refine Xk (N := 3) rfl ?_); refine bxw 3 32 #[.int .i64 a1_0, .slice A1_1 l1_1.length c1_1, .slice A1_2 l1_2.length c1_2, .slice A1_3 l1_3.length c1_3] ?_; intro gb637 hg w33 hbox hb; have BK637 := zq (hbox); have GW637 := zq ((J76 : w.heap.size ≤ gb637)); have GE637 := zq ((J76 : w.heap.size ≤ gb637)); replace HB := zq (Xd (zs1 GE636.out) hb); have NB636_637 := zq ((J33 : gb636 ≠ gb637)); have NB637_636 := zq ((J34 : gb637 ≠ gb636)); replace BK636 := zq (Xh (g := gb636) (o := .cells #[.int .i64 a0_0, .slice A0_1 l0_1.length c0_1, .slice A0_2 l0_2.length c0_2, .slice A0_3 l0_3.length c0_3] 32 (0, 0)) (zk BK636.out) hb); clear hb hbox hg; have hnb34 := NB636_637.out; have hnc34 := NB637_636.out; obtain ⟨hcz35_0, hcz35_1, hcz35_2, hcz35_3, hfz35_0, hfz35_1, hfz35_2, hfz35_3⟩ := cz4 BK636.out; obtain ⟨hcz36_0, hcz36_1, hcz36_2, hcz36_3, hfz36_0, hfz36_1, hfz36_2, hfz36_3⟩ := cz4 BK637.out))
  repeat (go_quiet (first | ((with_reducible refine Xk (N := 2) rfl ?_); refine bxw 2 32 #[.int .i64 a0_0, .slice A0_1 l0_1.length c0_1, .slice A0_2 l0_2.length c0_2, .slice A0_3 l0_3.length c0_3] ?_; intro gb636 hg w32 hbox hb; have BK636 := zq (hbox); have GW636 := zq ((J12 : w.heap.size ≤ gb636)); have GE636 := zq ((J12 : w.heap.size ≤ gb636)); replace HB := zq (Xd J0 hb); clear hb hbox hg) | ((with_reducible refine Xk (N := 3) rfl ?_); refine bxw 3 32 #[.int .i64 a1_0, .slice A1_1 l1_1.length c1_1, .slice A1_2 l1_2.length c1_2, .slice A1_3 l1_3.length c1_3] ?_; intro gb637 hg w33 hbox hb; have BK637 := zq (hbox); have GW637 := zq ((J76 : w.heap.size ≤ gb637)); have GE637 := zq ((J76 : w.heap.size ≤ gb637)); replace HB := zq (Xd (zs1 GE636.out) hb); have NB636_637 := zq ((J33 : gb636 ≠ gb637)); have NB637_636 := zq ((J34 : gb637 ≠ gb636)); replace BK636 := zq (Xh (g := gb636) (o := .cells #[.int .i64 a0_0, .slice A0_1 l0_1.length c0_1, .slice A0_2 l0_2.length c0_2, .slice A0_3 l0_3.length c0_3] 32 (0, 0)) (zk BK636.out) hb); clear hb hbox hg; have hnb34 := NB636_637.out; have hnc34 := NB637_636.out; obtain ⟨hcz35_0, hcz35_1, hcz35_2, hcz35_3, hfz35_0, hfz35_1, hfz35_2, hfz35_3⟩ := cz4 BK636.out; obtain ⟨hcz36_0, hcz36_1, hcz36_2, hcz36_3, hfz36_0, hfz36_1, hfz36_2, hfz36_3⟩ := cz4 BK637.out)); try go_wp2_with (first | ((with_reducible refine Xk (N := 2) rfl ?_); refine bxw 2 32 #[.int .i64 a0_0, .slice A0_1 l0_1.length c0_1, .slice A0_2 l0_2.length c0_2, .slice A0_3 l0_3.length c0_3] ?_; intro gb636 hg w32 hbox hb; have BK636 := zq (hbox); have GW636 := zq ((J12 : w.heap.size ≤ gb636)); have GE636 := zq ((J12 : w.heap.size ≤ gb636)); replace HB := zq (Xd J0 hb); clear hb hbox hg) | ((with_reducible refine Xk (N := 3) rfl ?_); refine bxw 3 32 #[.int .i64 a1_0, .slice A1_1 l1_1.length c1_1, .slice A1_2 l1_2.length c1_2, .slice A1_3 l1_3.length c1_3] ?_; intro gb637 hg w33 hbox hb; have BK637 := zq (hbox); have GW637 := zq ((J76 : w.heap.size ≤ gb637)); have GE637 := zq ((J76 : w.heap.size ≤ gb637)); replace HB := zq (Xd (zs1 GE636.out) hb); have NB636_637 := zq ((J33 : gb636 ≠ gb637)); have NB637_636 := zq ((J34 : gb637 ≠ gb636)); replace BK636 := zq (Xh (g := gb636) (o := .cells #[.int .i64 a0_0, .slice A0_1 l0_1.length c0_1, .slice A0_2 l0_2.length c0_2, .slice A0_3 l0_3.length c0_3] 32 (0, 0)) (zk BK636.out) hb); clear hb hbox hg; have hnb34 := NB636_637.out; have hnc34 := NB637_636.out; obtain ⟨hcz35_0, hcz35_1, hcz35_2, hcz35_3, hfz35_0, hfz35_1, hfz35_2, hfz35_3⟩ := cz4 BK636.out; obtain ⟨hcz36_0, hcz36_1, hcz36_2, hcz36_3, hfz36_0, hfz36_1, hfz36_2, hfz36_3⟩ := cz4 BK637.out)))
  go_ret
  exact ⟨J2, J24⟩
 have c3b2 : (l0_3.length == l1_3.length) = true := J99
 clear c3
 have H' := zq H
 clear H
 go_enter Tryd.func25, Tryd.ntmps25
 go_wp2_with (first | ((with_reducible refine Xk (N := 2) rfl ?_); refine bxw 2 32 #[.int .i64 a0_0, .slice A0_1 l0_1.length c0_1, .slice A0_2 l0_2.length c0_2, .slice A0_3 l0_3.length c0_3] ?_; intro gb636 hg w4 hbox hb; have BK636 := zq (hbox); have GW636 := zq ((J12 : w.heap.size ≤ gb636)); have GE636 := zq ((J12 : w.heap.size ≤ gb636)); replace HB := zq (Xd J0 hb); clear hb hbox hg) | ((with_reducible refine Xk (N := 3) rfl ?_); refine bxw 3 32 #[.int .i64 a1_0, .slice A1_1 l1_1.length c1_1, .slice A1_2 l1_2.length c1_2, .slice A1_3 l1_3.length c1_3] ?_; intro gb637 hg w5 hbox hb; have BK637 := zq (hbox); have GW637 := zq ((J76 : w.heap.size ≤ gb637)); have GE637 := zq ((J76 : w.heap.size ≤ gb637)); replace HB := zq (Xd (zs1 GE636.out) hb); have NB636_637 := zq ((J33 : gb636 ≠ gb637)); have NB637_636 := zq ((J34 : gb637 ≠ gb636)); replace BK636 := zq (Xh (g := gb636) (o := .cells #[.int .i64 a0_0, .slice A0_1 l0_1.length c0_1, .slice A0_2 l0_2.length c0_2, .slice A0_3 l0_3.length c0_3] 32 (0, 0)) (zk BK636.out) hb); clear hb hbox hg; have hnb6 := NB636_637.out; have hnc6 := NB637_636.out; obtain ⟨hcz7_0, hcz7_1, hcz7_2, hcz7_3, hfz7_0, hfz7_1, hfz7_2, hfz7_3⟩ := cz4 BK636.out; obtain ⟨hcz8_0, hcz8_1, hcz8_2, hcz8_3, hfz8_0, hfz8_1, hfz8_2, hfz8_3⟩ := cz4 BK637.out))
 repeat (go_quiet (first | ((with_reducible refine Xk (N := 2) rfl ?_); refine bxw 2 32 #[.int .i64 a0_0, .slice A0_1 l0_1.length c0_1, .slice A0_2 l0_2.length c0_2, .slice A0_3 l0_3.length c0_3] ?_; intro gb636 hg w4 hbox hb; have BK636 := zq (hbox); have GW636 := zq ((J12 : w.heap.size ≤ gb636)); have GE636 := zq ((J12 : w.heap.size ≤ gb636)); replace HB := zq (Xd J0 hb); clear hb hbox hg) | ((with_reducible refine Xk (N := 3) rfl ?_); refine bxw 3 32 #[.int .i64 a1_0, .slice A1_1 l1_1.length c1_1, .slice A1_2 l1_2.length c1_2, .slice A1_3 l1_3.length c1_3] ?_; intro gb637 hg w5 hbox hb; have BK637 := zq (hbox); have GW637 := zq ((J76 : w.heap.size ≤ gb637)); have GE637 := zq ((J76 : w.heap.size ≤ gb637)); replace HB := zq (Xd (zs1 GE636.out) hb); have NB636_637 := zq ((J33 : gb636 ≠ gb637)); have NB637_636 := zq ((J34 : gb637 ≠ gb636)); replace BK636 := zq (Xh (g := gb636) (o := .cells #[.int .i64 a0_0, .slice A0_1 l0_1.length c0_1, .slice A0_2 l0_2.length c0_2, .slice A0_3 l0_3.length c0_3] 32 (0, 0)) (zk BK636.out) hb); clear hb hbox hg; have hnb6 := NB636_637.out; have hnc6 := NB637_636.out; obtain ⟨hcz7_0, hcz7_1, hcz7_2, hcz7_3, hfz7_0, hfz7_1, hfz7_2, hfz7_3⟩ := cz4 BK636.out; obtain ⟨hcz8_0, hcz8_1, hcz8_2, hcz8_3, hfz8_0, hfz8_1, hfz8_2, hfz8_3⟩ := cz4 BK637.out)); try go_wp2_with (first | ((with_reducible refine Xk (N := 2) rfl ?_); refine bxw 2 32 #[.int .i64 a0_0, .slice A0_1 l0_1.length c0_1, .slice A0_2 l0_2.length c0_2, .slice A0_3 l0_3.length c0_3] ?_; intro gb636 hg w4 hbox hb; have BK636 := zq (hbox); have GW636 := zq ((J12 : w.heap.size ≤ gb636)); have GE636 := zq ((J12 : w.heap.size ≤ gb636)); replace HB := zq (Xd J0 hb); clear hb hbox hg) | ((with_reducible refine Xk (N := 3) rfl ?_); refine bxw 3 32 #[.int .i64 a1_0, .slice A1_1 l1_1.length c1_1, .slice A1_2 l1_2.length c1_2, .slice A1_3 l1_3.length c1_3] ?_; intro gb637 hg w5 hbox hb; have BK637 := zq (hbox); have GW637 := zq ((J76 : w.heap.size ≤ gb637)); have GE637 := zq ((J76 : w.heap.size ≤ gb637)); replace HB := zq (Xd (zs1 GE636.out) hb); have NB636_637 := zq ((J33 : gb636 ≠ gb637)); have NB637_636 := zq ((J34 : gb637 ≠ gb636)); replace BK636 := zq (Xh (g := gb636) (o := .cells #[.int .i64 a0_0, .slice A0_1 l0_1.length c0_1, .slice A0_2 l0_2.length c0_2, .slice A0_3 l0_3.length c0_3] 32 (0, 0)) (zk BK636.out) hb); clear hb hbox hg; have hnb6 := NB636_637.out; have hnc6 := NB637_636.out; obtain ⟨hcz7_0, hcz7_1, hcz7_2, hcz7_3, hfz7_0, hfz7_1, hfz7_2, hfz7_3⟩ := cz4 BK636.out; obtain ⟨hcz8_0, hcz8_1, hcz8_2, hcz8_3, hfz8_0, hfz8_1, hfz8_2, hfz8_3⟩ := cz4 BK637.out)))
 go_loopg [5] k (fun kq v5 w' => ∃ (x5_1 : Int), v5 = .int .i64 x5_1 ∧ Aside0 (Xas.l0 kq x5_1 a0_0 l0_1 l0_2 l0_3 a1_0 l1_1 l1_2 l1_3 = some r) ∧ Aside0 (kq ≤ k) ∧ Aside0 (w'.heap[gb636]? = some (.cells #[.int .i64 a0_0, (.slice A0_1 l0_1.length c0_1), (.slice A0_2 l0_2.length c0_2), (.slice A0_3 l0_3.length c0_3)] 32 (0, 0))) ∧ Aside0 (w'.heap[gb637]? = some (.cells #[.int .i64 a1_0, (.slice A1_1 l1_1.length c1_1), (.slice A1_2 l1_2.length c1_2), (.slice A1_3 l1_3.length c1_3)] 32 (0, 0))) ∧ Aside0 (Below w.heap.size w w'))
 case atStart => exact ⟨(0), J4, H', ⟨Nat.le_refl _⟩, ⟨J155⟩, ⟨J156⟩, ⟨J24⟩⟩
 case round =>
  clear H'
  try clear c3
  try clear c3b0
  try clear c3b1
  try clear c3b2
  try clear hcz7_0
  try clear hcz7_1
  try clear hcz7_2
  try clear hcz7_3
  try clear hcz8_0
  try clear hcz8_1
  try clear hcz8_2
  try clear hcz8_3
  try clear hfz7_0
  try clear hfz7_1
  try clear hfz7_2
  try clear hfz7_3
  try clear hfz8_0
  try clear hfz8_1
  try clear hfz8_2
  try clear hfz8_3
  obtain ⟨x5_1, rfl, HA, HK1, BK636, BK637, HB⟩ := hrel
  cases gk with
  | zero => exact absurd HA.out (by simp [Xas.l0])
  | succ k1 =>
   have H := HA.out
   clear HA
   simp only [Xas.l0] at H
   refine yd H ?_ ?_ <;> clear H <;> rintro c9b0 H
   ·refine yF H ?_ ?_ <;> clear H <;> rintro ⟨c19b0, c19b1, c19⟩ H
    ·clear c19
     refine yv H ?_; clear H; rintro t640 A20 H
     refine yC H ?_ ?_ <;> clear H <;> rintro rfl H
     ·refine yv H ?_; clear H; rintro t641 A22 H
      obtain rfl := yo H
      have hnb23 := NB636_637.out
      have hnc23 := NB637_636.out
      obtain ⟨hcz24_0, hcz24_1, hcz24_2, hcz24_3, hfz24_0, hfz24_1, hfz24_2, hfz24_3⟩ := cz4 BK636.out
      obtain ⟨hcz25_0, hcz25_1, hcz25_2, hcz25_3, hfz25_0, hfz25_1, hfz25_2, hfz25_3⟩ := cz4 BK637.out
      go_wp2_with (first | (go_at_call 48; (with_reducible refine (X9.calls k1 _ _ l0_1 _ _ l1_1 true _ ?side1 ?side2 ?side3 ?side4 A20.out).mono ?_); (case side1 => exact zc (Kd.C_below HR0_1.out HB.out)); (case side2 => exact HC0_1.out); (case side3 => exact zc (Kd.C_below HR1_1.out HB.out)); (case side4 => exact HC1_1.out); rintro e w' ⟨rfl, ⟨nd, rfl⟩⟩; (try first | exact ⟨rfl, _, World.drewN_drewN _ _ _⟩ | exact ⟨rfl, _, Eq.trans (World.drewN_drewN _ _ _) (congrArg (World.drewN _) (Nat.add_assoc _ _ _))⟩)) | (go_at_call 48; (with_reducible refine (X9.calls k1 _ _ l0_2 _ _ l1_2 t641 _ ?side1 ?side2 ?side3 ?side4 A22.out).mono ?_); (case side1 => repeat (first | exact (Kd.C_below HR0_2.out (zs2 GE636.out GE637.out)) | (with_reducible refine Kd.C_alloc ?_ _) | (with_reducible refine Kd.C_drewN ?_ _) | (with_reducible refine Kd.C_drew ?_))); (case side2 => exact HC0_2.out); (case side3 => repeat (first | exact (Kd.C_below HR1_2.out (zs2 GE636.out GE637.out)) | (with_reducible refine Kd.C_alloc ?_ _) | (with_reducible refine Kd.C_drewN ?_ _) | (with_reducible refine Kd.C_drew ?_))); (case side4 => exact HC1_2.out); rintro e w' ⟨rfl, ⟨nd, rfl⟩⟩; (try first | exact ⟨rfl, _, World.drewN_drewN _ _ _⟩ | exact ⟨rfl, _, Eq.trans (World.drewN_drewN _ _ _) (congrArg (World.drewN _) (Nat.add_assoc _ _ _))⟩)))
      repeat (go_quiet (first | (go_at_call 48; (with_reducible refine (X9.calls k1 _ _ l0_1 _ _ l1_1 true _ ?side1 ?side2 ?side3 ?side4 A20.out).mono ?_); (case side1 => exact zc (Kd.C_below HR0_1.out HB.out)); (case side2 => exact HC0_1.out); (case side3 => exact zc (Kd.C_below HR1_1.out HB.out)); (case side4 => exact HC1_1.out); rintro e w' ⟨rfl, ⟨nd, rfl⟩⟩; (try first | exact ⟨rfl, _, World.drewN_drewN _ _ _⟩ | exact ⟨rfl, _, Eq.trans (World.drewN_drewN _ _ _) (congrArg (World.drewN _) (Nat.add_assoc _ _ _))⟩)) | (go_at_call 48; (with_reducible refine (X9.calls k1 _ _ l0_2 _ _ l1_2 t641 _ ?side1 ?side2 ?side3 ?side4 A22.out).mono ?_); (case side1 => repeat (first | exact (Kd.C_below HR0_2.out (zs2 GE636.out GE637.out)) | (with_reducible refine Kd.C_alloc ?_ _) | (with_reducible refine Kd.C_drewN ?_ _) | (with_reducible refine Kd.C_drew ?_))); (case side2 => exact HC0_2.out); (case side3 => repeat (first | exact (Kd.C_below HR1_2.out (zs2 GE636.out GE637.out)) | (with_reducible refine Kd.C_alloc ?_ _) | (with_reducible refine Kd.C_drewN ?_ _) | (with_reducible refine Kd.C_drew ?_))); (case side4 => exact HC1_2.out); rintro e w' ⟨rfl, ⟨nd, rfl⟩⟩; (try first | exact ⟨rfl, _, World.drewN_drewN _ _ _⟩ | exact ⟨rfl, _, Eq.trans (World.drewN_drewN _ _ _) (congrArg (World.drewN _) (Nat.add_assoc _ _ _))⟩))); try go_wp2_with (first | (go_at_call 48; (with_reducible refine (X9.calls k1 _ _ l0_1 _ _ l1_1 true _ ?side1 ?side2 ?side3 ?side4 A20.out).mono ?_); (case side1 => exact zc (Kd.C_below HR0_1.out HB.out)); (case side2 => exact HC0_1.out); (case side3 => exact zc (Kd.C_below HR1_1.out HB.out)); (case side4 => exact HC1_1.out); rintro e w' ⟨rfl, ⟨nd, rfl⟩⟩; (try first | exact ⟨rfl, _, World.drewN_drewN _ _ _⟩ | exact ⟨rfl, _, Eq.trans (World.drewN_drewN _ _ _) (congrArg (World.drewN _) (Nat.add_assoc _ _ _))⟩)) | (go_at_call 48; (with_reducible refine (X9.calls k1 _ _ l0_2 _ _ l1_2 t641 _ ?side1 ?side2 ?side3 ?side4 A22.out).mono ?_); (case side1 => repeat (first | exact (Kd.C_below HR0_2.out (zs2 GE636.out GE637.out)) | (with_reducible refine Kd.C_alloc ?_ _) | (with_reducible refine Kd.C_drewN ?_ _) | (with_reducible refine Kd.C_drew ?_))); (case side2 => exact HC0_2.out); (case side3 => repeat (first | exact (Kd.C_below HR1_2.out (zs2 GE636.out GE637.out)) | (with_reducible refine Kd.C_alloc ?_ _) | (with_reducible refine Kd.C_drewN ?_ _) | (with_reducible refine Kd.C_drew ?_))); (case side4 => exact HC1_2.out); rintro e w' ⟨rfl, ⟨nd, rfl⟩⟩; (try first | exact ⟨rfl, _, World.drewN_drewN _ _ _⟩ | exact ⟨rfl, _, Eq.trans (World.drewN_drewN _ _ _) (congrArg (World.drewN _) (Nat.add_assoc _ _ _))⟩))))
      go_ret
      exact ⟨J2, J24⟩
     ·obtain rfl := yo H
      have hnb26 := NB636_637.out
      have hnc26 := NB637_636.out
      obtain ⟨hcz27_0, hcz27_1, hcz27_2, hcz27_3, hfz27_0, hfz27_1, hfz27_2, hfz27_3⟩ := cz4 BK636.out
      obtain ⟨hcz28_0, hcz28_1, hcz28_2, hcz28_3, hfz28_0, hfz28_1, hfz28_2, hfz28_3⟩ := cz4 BK637.out
      go_wp2_with (first | (go_at_call 48; (with_reducible refine (X9.calls k1 _ _ l0_1 _ _ l1_1 false _ ?side1 ?side2 ?side3 ?side4 A20.out).mono ?_); (case side1 => exact zc (Kd.C_below HR0_1.out HB.out)); (case side2 => exact HC0_1.out); (case side3 => exact zc (Kd.C_below HR1_1.out HB.out)); (case side4 => exact HC1_1.out); rintro e w' ⟨rfl, ⟨nd, rfl⟩⟩; (try first | exact ⟨rfl, _, World.drewN_drewN _ _ _⟩ | exact ⟨rfl, _, Eq.trans (World.drewN_drewN _ _ _) (congrArg (World.drewN _) (Nat.add_assoc _ _ _))⟩)))
      repeat (go_quiet (first | (go_at_call 48; (with_reducible refine (X9.calls k1 _ _ l0_1 _ _ l1_1 false _ ?side1 ?side2 ?side3 ?side4 A20.out).mono ?_); (case side1 => exact zc (Kd.C_below HR0_1.out HB.out)); (case side2 => exact HC0_1.out); (case side3 => exact zc (Kd.C_below HR1_1.out HB.out)); (case side4 => exact HC1_1.out); rintro e w' ⟨rfl, ⟨nd, rfl⟩⟩; (try first | exact ⟨rfl, _, World.drewN_drewN _ _ _⟩ | exact ⟨rfl, _, Eq.trans (World.drewN_drewN _ _ _) (congrArg (World.drewN _) (Nat.add_assoc _ _ _))⟩))); try go_wp2_with (first | (go_at_call 48; (with_reducible refine (X9.calls k1 _ _ l0_1 _ _ l1_1 false _ ?side1 ?side2 ?side3 ?side4 A20.out).mono ?_); (case side1 => exact zc (Kd.C_below HR0_1.out HB.out)); (case side2 => exact HC0_1.out); (case side3 => exact zc (Kd.C_below HR1_1.out HB.out)); (case side4 => exact HC1_1.out); rintro e w' ⟨rfl, ⟨nd, rfl⟩⟩; (try first | exact ⟨rfl, _, World.drewN_drewN _ _ _⟩ | exact ⟨rfl, _, Eq.trans (World.drewN_drewN _ _ _) (congrArg (World.drewN _) (Nat.add_assoc _ _ _))⟩))))
      go_ret
      exact ⟨J2, J24⟩
    ·obtain rfl := yo H
     have hnb29 := NB636_637.out
     have hnc29 := NB637_636.out
     obtain ⟨hcz30_0, hcz30_1, hcz30_2, hcz30_3, hfz30_0, hfz30_1, hfz30_2, hfz30_3⟩ := cz4 BK636.out
     obtain ⟨hcz31_0, hcz31_1, hcz31_2, hcz31_3, hfz31_0, hfz31_1, hfz31_2, hfz31_3⟩ := cz4 BK637.out
     go_wp2
     repeat (go_quiet (fail); try go_wp2)
     go_ret
     exact ⟨J2, J24⟩
   refine yj H ?_; clear H; intro c10b0 H
   refine yj H ?_; clear H; intro c11b0 H
   refine yu H ?_ ?_ <;> clear H <;> rintro c12 H
   ·have c12b0 : (!(((Xv l0_3 x5_1).f0) == ((Xv l1_3 x5_1).f0)) || (!(((Xv l0_3 x5_1).f1) == ((Xv l1_3 x5_1).f1)))) = true := c12
    clear c12
    obtain rfl := yo H
    have hnb13 := NB636_637.out
    have hnc13 := NB637_636.out
    obtain ⟨hcz14_0, hcz14_1, hcz14_2, hcz14_3, hfz14_0, hfz14_1, hfz14_2, hfz14_3⟩ := cz4 BK636.out
    have p638 : 0 ≤ (x5_1 : Int) := of_decide_eq_true J3
    have q638 : x5_1 < (l0_3.length : Int) := of_decide_eq_true J3
    obtain ⟨ad638, e638, hx638_0, hx638_1⟩ := Xcf HR0_3.out x5_1 p638 q638
    cases e638
    replace hx638_0 := yh HB hx638_0
    replace hx638_1 := yh HB hx638_1
    replace p638 := eq_true p638
    replace q638 := eq_true q638
    obtain ⟨hcz15_0, hcz15_1, hcz15_2, hcz15_3, hfz15_0, hfz15_1, hfz15_2, hfz15_3⟩ := cz4 BK637.out
    have p639 : 0 ≤ (x5_1 : Int) := of_decide_eq_true J3
    have q639 : x5_1 < (l1_3.length : Int) := of_decide_eq_true J3
    obtain ⟨ad639, e639, hx639_0, hx639_1⟩ := Xcf HR1_3.out x5_1 p639 q639
    cases e639
    replace hx639_0 := yh HB hx639_0
    replace hx639_1 := yh HB hx639_1
    replace p639 := eq_true p639
    replace q639 := eq_true q639
    go_wp2
    repeat (go_quiet (fail); try go_wp2)
    go_ret
    exact ⟨J2, J24⟩
   have c12b0 : (!(((Xv l0_3 x5_1).f0) == ((Xv l1_3 x5_1).f0)) || (!(((Xv l0_3 x5_1).f1) == ((Xv l1_3 x5_1).f1)))) = false := by simpa using c12
   clear c12
   have H' := zq H
   clear H
   have hnb16 := NB636_637.out
   have hnc16 := NB637_636.out
   obtain ⟨hcz17_0, hcz17_1, hcz17_2, hcz17_3, hfz17_0, hfz17_1, hfz17_2, hfz17_3⟩ := cz4 BK636.out
   have p638 : 0 ≤ (x5_1 : Int) := of_decide_eq_true J3
   have q638 : x5_1 < (l0_3.length : Int) := of_decide_eq_true J3
   obtain ⟨ad638, e638, hx638_0, hx638_1⟩ := Xcf HR0_3.out x5_1 p638 q638
   cases e638
   replace hx638_0 := yh HB hx638_0
   replace hx638_1 := yh HB hx638_1
   replace p638 := eq_true p638
   replace q638 := eq_true q638
   obtain ⟨hcz18_0, hcz18_1, hcz18_2, hcz18_3, hfz18_0, hfz18_1, hfz18_2, hfz18_3⟩ := cz4 BK637.out
   have p639 : 0 ≤ (x5_1 : Int) := of_decide_eq_true J3
   have q639 : x5_1 < (l1_3.length : Int) := of_decide_eq_true J3
   obtain ⟨ad639, e639, hx639_0, hx639_1⟩ := Xcf HR1_3.out x5_1 p639 q639
   cases e639
   replace hx639_0 := yh HB hx639_0
   replace hx639_1 := yh HB hx639_1
   replace p639 := eq_true p639
   replace q639 := eq_true q639
   go_wp2
   repeat (go_quiet (fail); try go_wp2)
   go_roundg k1
   case measure => have := HK1.out; omega
   case rel => exact ⟨(wrap64 (x5_1 + 1)), J4, H', ⟨J86⟩, ⟨J155⟩, ⟨J156⟩, ⟨J24⟩⟩
end Go.Proofs.YtfjhiiaahbjaiaaDoor.HSystemFirst
