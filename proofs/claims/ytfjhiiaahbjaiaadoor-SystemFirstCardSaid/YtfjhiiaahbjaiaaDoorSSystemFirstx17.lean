/- What the Go functions of this claim answer, told as functions of numbers and lists, and that other memory stays as it was: words and walks, shortened by a program. -/
import Derived.Test.YtfjhiiaahbjaiaaDoorSSystemFirstx0
import Derived.Test.YtfjhiiaahbjaiaaDoorSSystemFirstx1
import Derived.Test.YtfjhiiaahbjaiaaDoorSSystemFirstx8
import Derived.Test.YtfjhiiaahbjaiaaDoorSSystemFirstx12
import Derived.Test.YtfjhiiaahbjaiaaDoorSSystemFirstx16
namespace Go.Proofs.YtfjhiiaahbjaiaaDoor.HSystemFirst
open Go.RowKit Go.Proofs.YtfjhiiaahbjaiaaDoorW.PrintWords Go.Proofs.YtfjhiiaahbjaiaaDoorW.PrintLast Go.Proofs.YtfjhiiaahbjaiaaDoorW.PrintMore
attribute [local go_sem] Xby Xbw Xcb Xca Xbp Xbo Xbx Xbv
set_option linter.unusedVariables false
set_option linter.unusedSimpArgs false
attribute [local go_sem high] eqA40
def Xcc.f (k : Nat) (l0 : List (S32)) : Option ((List (S32)) × Bool) := (Xbj.f k l0).bind fun t451 => (if t451 = true then ((tight_form.f k l0).bind fun t452 => (some (t452, true))) else (some (([] : List (S32)), false)))
theorem Xcc.mono : ∀ a0 k, LeO (Xcc.f k a0) (Xcc.f (k + 1) a0) := by
 intro a0 k
 unfold Xcc.f
 have im0 := @Xbj.mono
 have im1 := @tight_form.mono
 exact mz3
set_option maxHeartbeats 8000000 in
set_option maxRecDepth 100000 in
theorem Xcc.calls (k : Nat) (P0_ : Nat → Prop) (A0 : Option Addr) (c0 : Nat) (l0 : List (S32)) (r1 : List (S32)) (r2 : Bool) (w : World) (hs0 : Kd.V k32 32 w w.heap.size (fun k_ => P0_ k_) (.slice A0 l0.length c0) l0) (h : Xcc.f k l0 = some (r1, r2)) :
  Calls Tryd.prog 20 #[.slice A0 l0.length c0] w fun e w' => ∃ v0_ : Value, e = .returned (.tuple #[v0_, .bool r2]) ∧ Kd.N k32 32 w' w.heap.size (fun k_ => (P0_ k_ ∨ w.heap.size ≤ k_)) v0_ r1 ∧ Below w.heap.size w w' := by
 have HO0 := zq (show Kd.V k32 32 w w.heap.size (fun k_ => (P0_ k_ ∨ w.heap.size ≤ k_)) (.slice A0 l0.length c0) l0 from Kd.V_mono hs0 (fun k_ hk => .inl hk))
 have HB := zq (Below.refl w.heap.size w)
 unfold Xcc.f at h
 have H := h
 clear h
 refine yv H ?_; clear H; rintro t451 A2 H
 refine yB H ?_ ?_ <;> clear H <;> rintro rfl H
 ·obtain ⟨rfl, rfl⟩ := yp2 H
  go_enter Tryd.func20, Tryd.ntmps20
  go_wp2_with (first | ((first | ((with_reducible refine Xg (f := 32) rfl ?_); refine Xt (some 5) rfl rfl Tryd.func32 J8 rfl #[.slice A0 l0.length c0] rfl J1 ?_) | go_at_call 32); (with_reducible refine (Xbj.calls k _ _ l0 false _ ?side1 ?side2 A2.out).mono ?_); (case side1 => exact zc ((Kd.V_reads' HO0.out).2.2)); (case side2 => exact (Kd.V_reads' HO0.out).2.1); rintro e w7 ⟨rfl, hb⟩; (try refine ⟨_, rfl, ?_⟩); replace HB := zq (Xd J0 hb); (try clear hb); (try clear hk)))
  go_ret2
  exact ⟨_, J2, J100, J0⟩
 refine yv H ?_; clear H; rintro t452 A4 H
 obtain ⟨rfl, rfl⟩ := yp2 H
 go_enter Tryd.func20, Tryd.ntmps20
 go_wp2_with (first | ((first | ((with_reducible refine Xg (f := 32) rfl ?_); refine Xt (some 5) rfl rfl Tryd.func32 J8 rfl #[.slice A0 l0.length c0] rfl J1 ?_) | go_at_call 32); (with_reducible refine (Xbj.calls k _ _ l0 true _ ?side1 ?side2 A2.out).mono ?_); (case side1 => exact zc ((Kd.V_reads' HO0.out).2.2)); (case side2 => exact (Kd.V_reads' HO0.out).2.1); rintro e w5 ⟨rfl, hb⟩; (try refine ⟨_, rfl, ?_⟩); replace HO0 := zq (Kd.V_below (zv HO0.out) hb); replace HB := zq (Xd J0 hb); (try clear hb); (try clear hk)) | ((first | ((with_reducible refine Xg (f := 33) rfl ?_); refine Xt (some 8) rfl rfl Tryd.func33 J8 rfl #[.slice A0 l0.length c0] rfl J1 ?_) | go_at_call 33); (with_reducible refine (tight_form.calls k (fun k_ => (P0_ k_ ∨ w.heap.size ≤ k_)) _ _ l0 t452 _ ?side1 A4.out).mono ?_); (case side1 => exact HO0.out); rintro e w6 ⟨v453, rfl, ho0, hb⟩; (try refine ⟨_, rfl, ?_⟩); replace HO0 := zq (Kd.V_elder' (zv HO0.out) (Kd.N_base ho0) hb); have HO454 := zq (Kd.N_lower (Kd.N_mono (ok' := fun k_ => (P0_ k_ ∨ w.heap.size ≤ k_)) ho0 (fun k_ hk_ => Or.elim hk_ (fun hs_ => hs_) (fun hn_ => (.inr (Nat.le_trans (Xf J0) hn_))))) (Xf J0)); replace HB := zq (Xd J0 hb); (try clear hb); (try clear hk); (try clear ho0)))
 go_ret2
 exact ⟨_, J2, by (with_reducible repeat (first | apply Kd.N_alloc | apply Kd.N_drewN | apply Kd.N_drew)); exact HO454.out, J0⟩
def Xx.l0 : Nat → List Int → List Int → Int → Int → Option (Bool)
 | 0, _, _, _, _ => none
 | k + 1, x0, x1, x12, x13 => if x13 < x12 then (if 0 ≤ x13 then (if x13 < (x0.length : Int) then (if x13 < (x1.length : Int) then (if (rd x0 x13) = (rd x1 x13) then (Xx.l0 k x0 x1 x12 (wrap64 (x13 + 1))) else (some false)) else (none)) else (none)) else (none)) else (some true)
def Xx.f (k : Nat) (l0 : List Int) (l1 : List Int) : Option (Bool) := if (l0.length : Int) = (l1.length : Int) then (Xx.l0 k l0 l1 (l0.length : Int) 0) else (some false)
theorem Xx.mono_l : ∀ k, (∀ y0 y1 y2 y3, LeO (Xx.l0 k y0 y1 y2 y3) (Xx.l0 (k + 1) y0 y1 y2 y3))
 | 0 => fun _ _ _ _ r h => by simp [Xx.l0] at h
 | k + 1 => by
  have ih0 := Xx.mono_l k
  ·intro y0 y1 y2 y3
   unfold Xx.l0
   exact mz0
theorem Xx.mono : ∀ a0 a1 k, LeO (Xx.f k a0 a1) (Xx.f (k + 1) a0 a1) := by
 intro a0 a1 k
 have ih0 := Xx.mono_l k
 unfold Xx.f
 exact mz0
set_option maxHeartbeats 8000000 in
set_option maxRecDepth 100000 in
theorem Xx.calls (k : Nat) (A0 : Option Addr) (c0 : Nat) (l0 : List Int) (A1 : Option Addr) (c1 : Nat) (l1 : List Int) (r : Bool) (w : World) (hr0 : Kd.C (Kd.int .i64) w A0 l0.length l0) (hc0 : l0.length ≤ c0) (hr1 : Kd.C (Kd.int .i64) w A1 l1.length l1) (hc1 : l1.length ≤ c1) (h : Xx.f k l0 l1 = some r) :
  Calls Tryd.prog 36 #[.slice A0 l0.length c0, .slice A1 l1.length c1] w fun e w' => e = .returned (.bool r) ∧ Drawn0 w w' := by
 have HR0 := zq hr0
 have HC0 := zq hc0
 clear hr0 hc0
 have HR1 := zq hr1
 have HC1 := zq hc1
 clear hr1 hc1
 unfold Xx.f at h
 have H := h
 clear h
 refine yE H ?_ ?_ <;> clear H <;> rintro ⟨c3b0, c3b1, c3⟩ H
 ·have c3b2 : (l0.length == l1.length) = false := by first | simpa using c3 | (simp at c3 ⊢; omega)
  obtain rfl := yo H
  go_enter Tryd.func36, Tryd.ntmps36
  go_wp2
  repeat (go_quiet (fail); try go_wp2)
  go_ret
  exact ⟨J4, J5⟩
 have c3b2 : (l0.length == l1.length) = true := J99
 clear c3
 have H' := zq H
 clear H
 go_enter Tryd.func36, Tryd.ntmps36
 go_wp2
 repeat (go_quiet (fail); try go_wp2)
 go_loopg [13] k (fun kq v13 w' => ∃ (x13_1 : Int), v13 = .int .i64 x13_1 ∧ Aside0 (Xx.l0 kq l0 l1 (l0.length : Int) x13_1 = some r) ∧ Aside0 (kq ≤ k) ∧ Drawn0 w w')
 case atStart => exact ⟨(0), J4, H', ⟨Nat.le_refl _⟩, J5⟩
 case round =>
  clear H'
  try clear c1
  try clear c3
  try clear c3b0
  try clear c3b1
  try clear c3b2
  obtain ⟨x13_1, rfl, HA, HK1, ⟨m1, rfl⟩⟩ := hrel
  cases gk with
  | zero => exact absurd HA.out (by simp [Xx.l0])
  | succ k1 =>
   have H := HA.out
   clear HA
   simp only [Xx.l0] at H
   refine yd H ?_ ?_ <;> clear H <;> rintro c4b0 H
   ·obtain rfl := yo H
    go_wp2
    repeat (go_quiet (fail); try go_wp2)
    go_ret
    exact ⟨J4, J5⟩
   refine yj H ?_; clear H; intro c5b0 H
   refine yj H ?_; clear H; intro c6b0 H
   refine yj H ?_; clear H; intro c7b0 H
   refine yE H ?_ ?_ <;> clear H <;> rintro ⟨c8b0, c8b1, c8⟩ H
   ·obtain rfl := yo H
    have p455 : 0 ≤ (x13_1 : Int) := of_decide_eq_true J3
    have q455 : x13_1 < (l0.length : Int) := of_decide_eq_true J3
    obtain ⟨ad455, e455, hx455_0⟩ := Kd.at_int HR0.out x13_1 p455 q455
    cases e455
    replace p455 := eq_true p455
    replace q455 := eq_true q455
    have p456 : 0 ≤ (x13_1 : Int) := of_decide_eq_true J3
    have q456 : x13_1 < (l1.length : Int) := of_decide_eq_true J3
    obtain ⟨ad456, e456, hx456_0⟩ := Kd.at_int HR1.out x13_1 p456 q456
    cases e456
    replace p456 := eq_true p456
    replace q456 := eq_true q456
    go_wp2
    repeat (go_quiet (fail); try go_wp2)
    go_ret
    exact ⟨J4, J5⟩
   clear c8
   have H' := zq H
   clear H
   have p455 : 0 ≤ (x13_1 : Int) := of_decide_eq_true J3
   have q455 : x13_1 < (l0.length : Int) := of_decide_eq_true J3
   obtain ⟨ad455, e455, hx455_0⟩ := Kd.at_int HR0.out x13_1 p455 q455
   cases e455
   replace p455 := eq_true p455
   replace q455 := eq_true q455
   have p456 : 0 ≤ (x13_1 : Int) := of_decide_eq_true J3
   have q456 : x13_1 < (l1.length : Int) := of_decide_eq_true J3
   obtain ⟨ad456, e456, hx456_0⟩ := Kd.at_int HR1.out x13_1 p456 q456
   cases e456
   replace p456 := eq_true p456
   replace q456 := eq_true q456
   go_wp2
   repeat (go_quiet (fail); try go_wp2)
   go_roundg k1
   case measure => have := HK1.out; omega
   case rel => exact ⟨(wrap64 (x13_1 + 1)), J4, H', ⟨J86⟩, J5⟩
def Xa9.l0 : Nat → List (S40) → List (S40) → Int → Int → Option (Bool)
 | 0, _, _, _, _ => none
 | k + 1, x0, x1, x12, x13 => if x13 < x12 then (if 0 ≤ x13 then (if x13 < (x0.length : Int) then (if x13 < (x1.length : Int) then (if (!(((Xv x0 x13).f0) == ((Xv x1 x13).f0)) || (!(((Xv x0 x13).f1) == ((Xv x1 x13).f1)))) = true then (some false) else (Xa9.l0 k x0 x1 x12 (wrap64 (x13 + 1)))) else (none)) else (none)) else (none)) else (some true)
def Xa9.f (k : Nat) (l0 : List (S40)) (l1 : List (S40)) : Option (Bool) := if (l0.length : Int) = (l1.length : Int) then (Xa9.l0 k l0 l1 (l0.length : Int) 0) else (some false)
theorem Xa9.mono_l : ∀ k, (∀ y0 y1 y2 y3, LeO (Xa9.l0 k y0 y1 y2 y3) (Xa9.l0 (k + 1) y0 y1 y2 y3))
 | 0 => fun _ _ _ _ r h => by simp [Xa9.l0] at h
 | k + 1 => by
  have ih0 := Xa9.mono_l k
  ·intro y0 y1 y2 y3
   unfold Xa9.l0
   exact mz0
theorem Xa9.mono : ∀ a0 a1 k, LeO (Xa9.f k a0 a1) (Xa9.f (k + 1) a0 a1) := by
 intro a0 a1 k
 have ih0 := Xa9.mono_l k
 unfold Xa9.f
 exact mz0
set_option maxHeartbeats 8000000 in
set_option maxRecDepth 100000 in
theorem Xa9.calls (k : Nat) (A0 : Option Addr) (c0 : Nat) (l0 : List (S40)) (A1 : Option Addr) (c1 : Nat) (l1 : List (S40)) (r : Bool) (w : World) (hr0 : Kd.C k40 w A0 l0.length l0) (hc0 : l0.length ≤ c0) (hr1 : Kd.C k40 w A1 l1.length l1) (hc1 : l1.length ≤ c1) (h : Xa9.f k l0 l1 = some r) :
  Calls Tryd.prog 37 #[.slice A0 l0.length c0, .slice A1 l1.length c1] w fun e w' => e = .returned (.bool r) ∧ Drawn0 w w' := by
 have hu40 := Tryd.underlying40
 have HR0 := zq hr0
 have HC0 := zq hc0
 clear hr0 hc0
 have HR1 := zq hr1
 have HC1 := zq hc1
 clear hr1 hc1
 unfold Xa9.f at h
 have H := h
 clear h
 refine yE H ?_ ?_ <;> clear H <;> rintro ⟨c3b0, c3b1, c3⟩ H
 ·have c3b2 : (l0.length == l1.length) = false := by first | simpa using c3 | (simp at c3 ⊢; omega)
  obtain rfl := yo H
  go_enter Tryd.func37, Tryd.ntmps37
  go_wp2
  repeat (go_quiet (fail); try go_wp2)
  go_ret
  exact ⟨J4, J5⟩
 have c3b2 : (l0.length == l1.length) = true := J99
 clear c3
 have H' := zq H
 clear H
 go_enter Tryd.func37, Tryd.ntmps37
 go_wp2
 repeat (go_quiet (fail); try go_wp2)
 go_loopg [13] k (fun kq v13 w' => ∃ (x13_1 : Int), v13 = .int .i64 x13_1 ∧ Aside0 (Xa9.l0 kq l0 l1 (l0.length : Int) x13_1 = some r) ∧ Aside0 (kq ≤ k) ∧ Drawn0 w w')
 case atStart => exact ⟨(0), J4, H', ⟨Nat.le_refl _⟩, J5⟩
 case round =>
  clear H'
  try clear c1
  try clear c3
  try clear c3b0
  try clear c3b1
  try clear c3b2
  obtain ⟨x13_1, rfl, HA, HK1, ⟨m1, rfl⟩⟩ := hrel
  cases gk with
  | zero => exact absurd HA.out (by simp [Xa9.l0])
  | succ k1 =>
   have H := HA.out
   clear HA
   simp only [Xa9.l0] at H
   refine yd H ?_ ?_ <;> clear H <;> rintro c4b0 H
   ·obtain rfl := yo H
    go_wp2
    repeat (go_quiet (fail); try go_wp2)
    go_ret
    exact ⟨J4, J5⟩
   refine yj H ?_; clear H; intro c5b0 H
   refine yj H ?_; clear H; intro c6b0 H
   refine yj H ?_; clear H; intro c7b0 H
   refine yu H ?_ ?_ <;> clear H <;> rintro c8 H
   ·have c8b0 : (!(((Xv l0 x13_1).f0) == ((Xv l1 x13_1).f0)) || (!(((Xv l0 x13_1).f1) == ((Xv l1 x13_1).f1)))) = true := c8
    clear c8
    obtain rfl := yo H
    have p457 : 0 ≤ (x13_1 : Int) := of_decide_eq_true J3
    have q457 : x13_1 < (l0.length : Int) := of_decide_eq_true J3
    obtain ⟨ad457, e457, hx457_0, hx457_1⟩ := Xcf HR0.out x13_1 p457 q457
    cases e457
    replace p457 := eq_true p457
    replace q457 := eq_true q457
    have p458 : 0 ≤ (x13_1 : Int) := of_decide_eq_true J3
    have q458 : x13_1 < (l1.length : Int) := of_decide_eq_true J3
    obtain ⟨ad458, e458, hx458_0, hx458_1⟩ := Xcf HR1.out x13_1 p458 q458
    cases e458
    replace p458 := eq_true p458
    replace q458 := eq_true q458
    go_wp2
    repeat (go_quiet (fail); try go_wp2)
    go_ret
    exact ⟨J4, J5⟩
   have c8b0 : (!(((Xv l0 x13_1).f0) == ((Xv l1 x13_1).f0)) || (!(((Xv l0 x13_1).f1) == ((Xv l1 x13_1).f1)))) = false := by simpa using c8
   clear c8
   have H' := zq H
   clear H
   have p457 : 0 ≤ (x13_1 : Int) := of_decide_eq_true J3
   have q457 : x13_1 < (l0.length : Int) := of_decide_eq_true J3
   obtain ⟨ad457, e457, hx457_0, hx457_1⟩ := Xcf HR0.out x13_1 p457 q457
   cases e457
   replace p457 := eq_true p457
   replace q457 := eq_true q457
   have p458 : 0 ≤ (x13_1 : Int) := of_decide_eq_true J3
   have q458 : x13_1 < (l1.length : Int) := of_decide_eq_true J3
   obtain ⟨ad458, e458, hx458_0, hx458_1⟩ := Xcf HR1.out x13_1 p458 q458
   cases e458
   replace p458 := eq_true p458
   replace q458 := eq_true q458
   go_wp2
   repeat (go_quiet (fail); try go_wp2)
   go_roundg k1
   case measure => have := HK1.out; omega
   case rel => exact ⟨(wrap64 (x13_1 + 1)), J4, H', ⟨J86⟩, J5⟩
def Xbu.f (k : Nat) (a0_0 : Int) (l0_1 : List Int) (l0_2 : List Int) (l0_3 : List (S40)) (a1_0 : Int) (l1_1 : List Int) (l1_2 : List Int) (l1_3 : List (S40)) : Option (Bool) := if a0_0 = a1_0 then ((Xx.f k l0_1 l1_1).bind fun t461 => (if t461 = true then ((Xx.f k l0_2 l1_2).bind fun t462 => (if t462 = true then ((Xa9.f k l0_3 l1_3).bind fun t463 => (some t463)) else (some false))) else (some false))) else (some false)
theorem Xbu.mono : ∀ a0 a1 a2 a3 a4 a5 a6 a7 k, LeO (Xbu.f k a0 a1 a2 a3 a4 a5 a6 a7) (Xbu.f (k + 1) a0 a1 a2 a3 a4 a5 a6 a7) := by
 intro a0 a1 a2 a3 a4 a5 a6 a7 k
 unfold Xbu.f
 have im0 := @Xa9.mono
 have im1 := @Xx.mono
 exact mz3
set_option maxHeartbeats 8000000 in
set_option maxRecDepth 100000 in
theorem Xbu.calls (k : Nat) (a0_0 : Int) (A0_1 : Option Addr) (c0_1 : Nat) (l0_1 : List Int) (A0_2 : Option Addr) (c0_2 : Nat) (l0_2 : List Int) (A0_3 : Option Addr) (c0_3 : Nat) (l0_3 : List (S40)) (a1_0 : Int) (A1_1 : Option Addr) (c1_1 : Nat) (l1_1 : List Int) (A1_2 : Option Addr) (c1_2 : Nat) (l1_2 : List Int) (A1_3 : Option Addr) (c1_3 : Nat) (l1_3 : List (S40)) (r : Bool) (w : World) (hr0_1 : Kd.C (Kd.int .i64) w A0_1 l0_1.length l0_1) (hc0_1 : l0_1.length ≤ c0_1) (hr0_2 : Kd.C (Kd.int .i64) w A0_2 l0_2.length l0_2) (hc0_2 : l0_2.length ≤ c0_2) (hr0_3 : Kd.C k40 w A0_3 l0_3.length l0_3) (hc0_3 : l0_3.length ≤ c0_3) (hr1_1 : Kd.C (Kd.int .i64) w A1_1 l1_1.length l1_1) (hc1_1 : l1_1.length ≤ c1_1) (hr1_2 : Kd.C (Kd.int .i64) w A1_2 l1_2.length l1_2) (hc1_2 : l1_2.length ≤ c1_2) (hr1_3 : Kd.C k40 w A1_3 l1_3.length l1_3) (hc1_3 : l1_3.length ≤ c1_3) (h : Xbu.f k a0_0 l0_1 l0_2 l0_3 a1_0 l1_1 l1_2 l1_3 = some r) :
  Calls Tryd.prog 35 #[.agg #[.int .i64 a0_0, .slice A0_1 l0_1.length c0_1, .slice A0_2 l0_2.length c0_2, .slice A0_3 l0_3.length c0_3], .agg #[.int .i64 a1_0, .slice A1_1 l1_1.length c1_1, .slice A1_2 l1_2.length c1_2, .slice A1_3 l1_3.length c1_3]] w fun e w' => e = .returned (.bool r) ∧ Below w.heap.size w w' := by
 have hu32 := Tryd.underlying32
 have HR0_1 := zq hr0_1
 have HC0_1 := zq hc0_1
 clear hr0_1 hc0_1
 have HR0_2 := zq hr0_2
 have HC0_2 := zq hc0_2
 clear hr0_2 hc0_2
 have HR0_3 := zq hr0_3
 have HC0_3 := zq hc0_3
 clear hr0_3 hc0_3
 have HR1_1 := zq hr1_1
 have HC1_1 := zq hc1_1
 clear hr1_1 hc1_1
 have HR1_2 := zq hr1_2
 have HC1_2 := zq hc1_2
 clear hr1_2 hc1_2
 have HR1_3 := zq hr1_3
 have HC1_3 := zq hc1_3
 clear hr1_3 hc1_3
 have HB := zq (Below.refl w.heap.size w)
 unfold Xbu.f at h
 have H := h
 clear h
 refine yE H ?_ ?_ <;> clear H <;> rintro ⟨c3b0, c3b1, c3⟩ H
 ·obtain rfl := yo H
  go_enter Tryd.func35, Tryd.ntmps35
  go_wp2_with (first | ((with_reducible refine Xk (N := 2) rfl ?_); refine bxw 2 32 #[.int .i64 a0_0, .slice A0_1 l0_1.length c0_1, .slice A0_2 l0_2.length c0_2, .slice A0_3 l0_3.length c0_3] ?_; intro gb459 hg w24 hbox hb; have BK459 := zq (hbox); have GE459 := zq ((J12 : w.heap.size ≤ gb459)); replace HB := zq (Xd J0 hb); clear hb hbox hg) | ((with_reducible refine Xk (N := 3) rfl ?_); refine bxw 3 32 #[.int .i64 a1_0, .slice A1_1 l1_1.length c1_1, .slice A1_2 l1_2.length c1_2, .slice A1_3 l1_3.length c1_3] ?_; intro gb460 hg w25 hbox hb; have BK460 := zq (hbox); have GE460 := zq ((J140 : w.heap.size ≤ gb460)); replace HB := zq (Xd (zs1 GE459.out) hb); have NB459_460 := zq ((J57 : gb459 ≠ gb460)); have NB460_459 := zq ((J58 : gb460 ≠ gb459)); replace BK459 := zq (Xh (g := gb459) (o := .cells #[.int .i64 a0_0, .slice A0_1 l0_1.length c0_1, .slice A0_2 l0_2.length c0_2, .slice A0_3 l0_3.length c0_3] 32 (0, 0)) (zk BK459.out) hb); clear hb hbox hg; have hnb26 := NB459_460.out; have hnc26 := NB460_459.out; obtain ⟨hcz27_0, hcz27_1, hcz27_2, hcz27_3, hfz27_0, hfz27_1, hfz27_2, hfz27_3⟩ := cz4 BK459.out; obtain ⟨hcz28_0, hcz28_1, hcz28_2, hcz28_3, hfz28_0, hfz28_1, hfz28_2, hfz28_3⟩ := cz4 BK460.out))
  go_ret
  exact ⟨J2, J59⟩
 clear c3
 refine yv H ?_; clear H; rintro t461 A4 H
 refine yB H ?_ ?_ <;> clear H <;> rintro rfl H
 ·obtain rfl := yo H
  go_enter Tryd.func35, Tryd.ntmps35
  go_wp2_with (first | ((with_reducible refine Xk (N := 2) rfl ?_); refine bxw 2 32 #[.int .i64 a0_0, .slice A0_1 l0_1.length c0_1, .slice A0_2 l0_2.length c0_2, .slice A0_3 l0_3.length c0_3] ?_; intro gb459 hg w19 hbox hb; have BK459 := zq (hbox); have GE459 := zq ((J12 : w.heap.size ≤ gb459)); replace HB := zq (Xd J0 hb); clear hb hbox hg) | ((with_reducible refine Xk (N := 3) rfl ?_); refine bxw 3 32 #[.int .i64 a1_0, .slice A1_1 l1_1.length c1_1, .slice A1_2 l1_2.length c1_2, .slice A1_3 l1_3.length c1_3] ?_; intro gb460 hg w20 hbox hb; have BK460 := zq (hbox); have GE460 := zq ((J140 : w.heap.size ≤ gb460)); replace HB := zq (Xd (zs1 GE459.out) hb); have NB459_460 := zq ((J57 : gb459 ≠ gb460)); have NB460_459 := zq ((J58 : gb460 ≠ gb459)); replace BK459 := zq (Xh (g := gb459) (o := .cells #[.int .i64 a0_0, .slice A0_1 l0_1.length c0_1, .slice A0_2 l0_2.length c0_2, .slice A0_3 l0_3.length c0_3] 32 (0, 0)) (zk BK459.out) hb); clear hb hbox hg; have hnb21 := NB459_460.out; have hnc21 := NB460_459.out; obtain ⟨hcz22_0, hcz22_1, hcz22_2, hcz22_3, hfz22_0, hfz22_1, hfz22_2, hfz22_3⟩ := cz4 BK459.out; obtain ⟨hcz23_0, hcz23_1, hcz23_2, hcz23_3, hfz23_0, hfz23_1, hfz23_2, hfz23_3⟩ := cz4 BK460.out) | (go_at_call 36; (with_reducible refine (Xx.calls k _ _ l0_1 _ _ l1_1 false _ ?side1 ?side2 ?side3 ?side4 A4.out).mono ?_); (case side1 => exact zc (Kd.C_below HR0_1.out HB.out)); (case side2 => exact HC0_1.out); (case side3 => exact zc (Kd.C_below HR1_1.out HB.out)); (case side4 => exact HC1_1.out); rintro e w' ⟨rfl, ⟨nd, rfl⟩⟩))
  go_ret
  exact ⟨J2, J59⟩
 refine yv H ?_; clear H; rintro t462 A6 H
 refine yB H ?_ ?_ <;> clear H <;> rintro rfl H
 ·obtain rfl := yo H
  go_enter Tryd.func35, Tryd.ntmps35
  go_wp2_with (first | ((with_reducible refine Xk (N := 2) rfl ?_); refine bxw 2 32 #[.int .i64 a0_0, .slice A0_1 l0_1.length c0_1, .slice A0_2 l0_2.length c0_2, .slice A0_3 l0_3.length c0_3] ?_; intro gb459 hg w14 hbox hb; have BK459 := zq (hbox); have GE459 := zq ((J12 : w.heap.size ≤ gb459)); replace HB := zq (Xd J0 hb); clear hb hbox hg) | ((with_reducible refine Xk (N := 3) rfl ?_); refine bxw 3 32 #[.int .i64 a1_0, .slice A1_1 l1_1.length c1_1, .slice A1_2 l1_2.length c1_2, .slice A1_3 l1_3.length c1_3] ?_; intro gb460 hg w15 hbox hb; have BK460 := zq (hbox); have GE460 := zq ((J140 : w.heap.size ≤ gb460)); replace HB := zq (Xd (zs1 GE459.out) hb); have NB459_460 := zq ((J57 : gb459 ≠ gb460)); have NB460_459 := zq ((J58 : gb460 ≠ gb459)); replace BK459 := zq (Xh (g := gb459) (o := .cells #[.int .i64 a0_0, .slice A0_1 l0_1.length c0_1, .slice A0_2 l0_2.length c0_2, .slice A0_3 l0_3.length c0_3] 32 (0, 0)) (zk BK459.out) hb); clear hb hbox hg; have hnb16 := NB459_460.out; have hnc16 := NB460_459.out; obtain ⟨hcz17_0, hcz17_1, hcz17_2, hcz17_3, hfz17_0, hfz17_1, hfz17_2, hfz17_3⟩ := cz4 BK459.out; obtain ⟨hcz18_0, hcz18_1, hcz18_2, hcz18_3, hfz18_0, hfz18_1, hfz18_2, hfz18_3⟩ := cz4 BK460.out) | (go_at_call 36; (with_reducible refine (Xx.calls k _ _ l0_1 _ _ l1_1 true _ ?side1 ?side2 ?side3 ?side4 A4.out).mono ?_); (case side1 => exact zc (Kd.C_below HR0_1.out HB.out)); (case side2 => exact HC0_1.out); (case side3 => exact zc (Kd.C_below HR1_1.out HB.out)); (case side4 => exact HC1_1.out); rintro e w' ⟨rfl, ⟨nd, rfl⟩⟩) | (go_at_call 36; (with_reducible refine (Xx.calls k _ _ l0_2 _ _ l1_2 false _ ?side1 ?side2 ?side3 ?side4 A6.out).mono ?_); (case side1 => repeat (first | exact (Kd.C_below HR0_2.out (zs2 GE459.out GE460.out)) | (with_reducible refine Kd.C_alloc ?_ _) | (with_reducible refine Kd.C_drewN ?_ _) | (with_reducible refine Kd.C_drew ?_))); (case side2 => exact HC0_2.out); (case side3 => repeat (first | exact (Kd.C_below HR1_2.out (zs2 GE459.out GE460.out)) | (with_reducible refine Kd.C_alloc ?_ _) | (with_reducible refine Kd.C_drewN ?_ _) | (with_reducible refine Kd.C_drew ?_))); (case side4 => exact HC1_2.out); rintro e w' ⟨rfl, ⟨nd, rfl⟩⟩))
  go_ret
  exact ⟨J2, J59⟩
 refine yv H ?_; clear H; rintro t463 A8 H
 obtain rfl := yo H
 go_enter Tryd.func35, Tryd.ntmps35
 go_wp2_with (first | ((with_reducible refine Xk (N := 2) rfl ?_); refine bxw 2 32 #[.int .i64 a0_0, .slice A0_1 l0_1.length c0_1, .slice A0_2 l0_2.length c0_2, .slice A0_3 l0_3.length c0_3] ?_; intro gb459 hg w9 hbox hb; have BK459 := zq (hbox); have GE459 := zq ((J12 : w.heap.size ≤ gb459)); replace HB := zq (Xd J0 hb); clear hb hbox hg) | ((with_reducible refine Xk (N := 3) rfl ?_); refine bxw 3 32 #[.int .i64 a1_0, .slice A1_1 l1_1.length c1_1, .slice A1_2 l1_2.length c1_2, .slice A1_3 l1_3.length c1_3] ?_; intro gb460 hg w10 hbox hb; have BK460 := zq (hbox); have GE460 := zq ((J140 : w.heap.size ≤ gb460)); replace HB := zq (Xd (zs1 GE459.out) hb); have NB459_460 := zq ((J57 : gb459 ≠ gb460)); have NB460_459 := zq ((J58 : gb460 ≠ gb459)); replace BK459 := zq (Xh (g := gb459) (o := .cells #[.int .i64 a0_0, .slice A0_1 l0_1.length c0_1, .slice A0_2 l0_2.length c0_2, .slice A0_3 l0_3.length c0_3] 32 (0, 0)) (zk BK459.out) hb); clear hb hbox hg; have hnb11 := NB459_460.out; have hnc11 := NB460_459.out; obtain ⟨hcz12_0, hcz12_1, hcz12_2, hcz12_3, hfz12_0, hfz12_1, hfz12_2, hfz12_3⟩ := cz4 BK459.out; obtain ⟨hcz13_0, hcz13_1, hcz13_2, hcz13_3, hfz13_0, hfz13_1, hfz13_2, hfz13_3⟩ := cz4 BK460.out) | (go_at_call 36; (with_reducible refine (Xx.calls k _ _ l0_1 _ _ l1_1 true _ ?side1 ?side2 ?side3 ?side4 A4.out).mono ?_); (case side1 => exact zc (Kd.C_below HR0_1.out HB.out)); (case side2 => exact HC0_1.out); (case side3 => exact zc (Kd.C_below HR1_1.out HB.out)); (case side4 => exact HC1_1.out); rintro e w' ⟨rfl, ⟨nd, rfl⟩⟩) | (go_at_call 36; (with_reducible refine (Xx.calls k _ _ l0_2 _ _ l1_2 true _ ?side1 ?side2 ?side3 ?side4 A6.out).mono ?_); (case side1 => repeat (first | exact (Kd.C_below HR0_2.out (zs2 GE459.out GE460.out)) | (with_reducible refine Kd.C_alloc ?_ _) | (with_reducible refine Kd.C_drewN ?_ _) | (with_reducible refine Kd.C_drew ?_))); (case side2 => exact HC0_2.out); (case side3 => repeat (first | exact (Kd.C_below HR1_2.out (zs2 GE459.out GE460.out)) | (with_reducible refine Kd.C_alloc ?_ _) | (with_reducible refine Kd.C_drewN ?_ _) | (with_reducible refine Kd.C_drew ?_))); (case side4 => exact HC1_2.out); rintro e w' ⟨rfl, ⟨nd, rfl⟩⟩) | (go_at_call 37; (with_reducible refine (Xa9.calls k _ _ l0_3 _ _ l1_3 t463 _ ?side1 ?side2 ?side3 ?side4 A8.out).mono ?_); (case side1 => repeat (first | exact (Kd.C_below HR0_3.out (zs2 GE459.out GE460.out)) | (with_reducible refine Kd.C_alloc ?_ _) | (with_reducible refine Kd.C_drewN ?_ _) | (with_reducible refine Kd.C_drew ?_))); (case side2 => exact HC0_3.out); (case side3 => repeat (first | exact (Kd.C_below HR1_3.out (zs2 GE459.out GE460.out)) | (with_reducible refine Kd.C_alloc ?_ _) | (with_reducible refine Kd.C_drewN ?_ _) | (with_reducible refine Kd.C_drew ?_))); (case side4 => exact HC1_3.out); rintro e w' ⟨rfl, ⟨nd, rfl⟩⟩))
 go_ret
 exact ⟨J2, J59⟩
def Xa0.l0 : Nat → List (S32) → List (S32) → Int → Int → Option (Bool)
 | 0, _, _, _, _ => none
 | k + 1, x1, x15, x16, x17 => if x17 < x16 then (if 0 ≤ x17 then (if x17 < (x15.length : Int) then (if x17 < (x1.length : Int) then ((Xbu.f k ((Xa x15 x17).f0) ((Xa x15 x17).f1) ((Xa x15 x17).f2) ((Xa x15 x17).f3) ((Xa x1 x17).f0) ((Xa x1 x17).f1) ((Xa x1 x17).f2) ((Xa x1 x17).f3)).bind fun t468 => (if t468 = true then (Xa0.l0 k x1 x15 x16 (wrap64 (x17 + 1))) else (some false))) else (none)) else (none)) else (none)) else (some true)
def Xa0.f (k : Nat) (l0 : List (S32)) (l1 : List (S32)) : Option (Bool) := if (l0.length : Int) = (l1.length : Int) then (Xa0.l0 k l1 l0 (l0.length : Int) 0) else (some false)
theorem Xa0.mono_l : ∀ k, (∀ y0 y1 y2 y3, LeO (Xa0.l0 k y0 y1 y2 y3) (Xa0.l0 (k + 1) y0 y1 y2 y3))
 | 0 => fun _ _ _ _ r h => by simp [Xa0.l0] at h
 | k + 1 => by
  have ih0 := Xa0.mono_l k
  ·intro y0 y1 y2 y3
   unfold Xa0.l0
   have im0 := @Xbu.mono
   exact mz3
theorem Xa0.mono : ∀ a0 a1 k, LeO (Xa0.f k a0 a1) (Xa0.f (k + 1) a0 a1) := by
 intro a0 a1 k
 have ih0 := Xa0.mono_l k
 unfold Xa0.f
 have im0 := @Xbu.mono
 exact mz3
set_option maxHeartbeats 8000000 in
set_option maxRecDepth 100000 in
theorem Xa0.calls (k : Nat) (A0 : Option Addr) (c0 : Nat) (l0 : List (S32)) (A1 : Option Addr) (c1 : Nat) (l1 : List (S32)) (r : Bool) (w : World) (hr0 : Kd.C k32 w A0 l0.length l0) (hc0 : l0.length ≤ c0) (hr1 : Kd.C k32 w A1 l1.length l1) (hc1 : l1.length ≤ c1) (h : Xa0.f k l0 l1 = some r) :
  Calls Tryd.prog 34 #[.slice A0 l0.length c0, .slice A1 l1.length c1, .func (.func 35) #[] #[]] w fun e w' => e = .returned (.bool r) ∧ Below w.heap.size w w' := by
 have hu32 := Tryd.underlying32
 have HR0 := zq hr0
 have HC0 := zq hc0
 clear hr0 hc0
 have HR1 := zq hr1
 have HC1 := zq hc1
 clear hr1 hc1
 have HB := zq (Below.refl w.heap.size w)
 unfold Xa0.f at h
 have H := h
 clear h
 refine yE H ?_ ?_ <;> clear H <;> rintro ⟨c3b0, c3b1, c3⟩ H
 ·have c3b2 : (l0.length == l1.length) = false := by first | simpa using c3 | (simp at c3 ⊢; omega)
  obtain rfl := yo H
  go_enter Tryd.func34, Tryd.ntmps34
  go_wp2
  go_ret
  exact ⟨J2, J0⟩
 have c3b2 : (l0.length == l1.length) = true := J99
 clear c3
 have H' := zq H
 clear H
 go_enter Tryd.func34, Tryd.ntmps34
 go_wp2
 go_loopg [17] k (fun kq v17 w' => ∃ (x17_1 : Int), v17 = .int .i64 x17_1 ∧ Aside0 (Xa0.l0 kq l1 l0 (l0.length : Int) x17_1 = some r) ∧ Aside0 (kq ≤ k) ∧ Aside0 (Below w.heap.size w w'))
 case atStart => exact ⟨(0), J4, H', ⟨Nat.le_refl _⟩, ⟨J0⟩⟩
 case round =>
  clear H'
  try clear c1
  try clear c3
  try clear c3b0
  try clear c3b1
  try clear c3b2
  obtain ⟨x17_1, rfl, HA, HK1, HB⟩ := hrel
  cases gk with
  | zero => exact absurd HA.out (by simp [Xa0.l0])
  | succ k1 =>
   have H := HA.out
   clear HA
   simp only [Xa0.l0] at H
   refine yd H ?_ ?_ <;> clear H <;> rintro c4b0 H
   ·obtain rfl := yo H
    go_wp2
    go_ret
    exact ⟨J2, J0⟩
   refine yj H ?_; clear H; intro c5b0 H
   refine yj H ?_; clear H; intro c6b0 H
   refine yj H ?_; clear H; intro c7b0 H
   refine yv H ?_; clear H; rintro t468 A8 H
   refine yB H ?_ ?_ <;> clear H <;> rintro rfl H
   ·obtain rfl := yo H
    have p464 : 0 ≤ (x17_1 : Int) := of_decide_eq_true J3
    have q464 : x17_1 < (l0.length : Int) := of_decide_eq_true J3
    obtain ⟨ad464, A464_1, c464_1, A464_2, c464_2, A464_3, c464_3, e464, hx464_0, hx464_1, hx464_2, hx464_3, hl464_1, hi464_1, hl464_2, hi464_2, hl464_3, hi464_3⟩ := Xbz HR0.out x17_1 p464 q464
    cases e464
    replace hx464_0 := yh HB hx464_0
    replace hx464_1 := yh HB hx464_1
    replace hx464_2 := yh HB hx464_2
    replace hx464_3 := yh HB hx464_3
    have HR464_1 := zq hi464_1
    have HC464_1 := zq hl464_1
    clear hi464_1 hl464_1
    have HR464_2 := zq hi464_2
    have HC464_2 := zq hl464_2
    clear hi464_2 hl464_2
    have HR464_3 := zq hi464_3
    have HC464_3 := zq hl464_3
    clear hi464_3 hl464_3
    replace p464 := eq_true p464
    replace q464 := eq_true q464
    go_wp2_with (first | ((with_reducible refine Xk (N := 8) rfl ?_); refine bxw 8 32 #[.int .i64 0, .slice none 0 0, .slice none 0 0, .slice none 0 0] ?_; intro gb465 hg w17 hbox hb; have BK465 := zq (hbox); have GW465 := zq ((J12 : w.heap.size ≤ gb465)); have GE465 := zq ((J12 : w.heap.size ≤ gb465)); replace HB := zq (Xd J0 hb); clear hb hbox hg; obtain ⟨hcz18_0, hcz18_1, hcz18_2, hcz18_3, hfz18_0, hfz18_1, hfz18_2, hfz18_3⟩ := cz4 BK465.out; have p466 : 0 ≤ (x17_1 : Int) := of_decide_eq_true J3; have q466 : x17_1 < (l1.length : Int) := of_decide_eq_true J3; obtain ⟨ad466, A466_1, c466_1, A466_2, c466_2, A466_3, c466_3, e466, hx466_0, hx466_1, hx466_2, hx466_3, hl466_1, hi466_1, hl466_2, hi466_2, hl466_3, hi466_3⟩ := Xbz HR1.out x17_1 p466 q466; cases e466; have hn466_0 : ad466.block ≠ gb465 := Nat.ne_of_lt (Nat.lt_of_lt_of_le J47 GW465.out); have hn466_1 : ad466.block ≠ gb465 := Nat.ne_of_lt (Nat.lt_of_lt_of_le J47 GW465.out); have hn466_2 : ad466.block ≠ gb465 := Nat.ne_of_lt (Nat.lt_of_lt_of_le J47 GW465.out); have hn466_3 : ad466.block ≠ gb465 := Nat.ne_of_lt (Nat.lt_of_lt_of_le J47 GW465.out); replace hx466_0 := yh HB hx466_0; replace hx466_1 := yh HB hx466_1; replace hx466_2 := yh HB hx466_2; replace hx466_3 := yh HB hx466_3; have HR466_1 := zq hi466_1; have HC466_1 := zq hl466_1; clear hi466_1 hl466_1; have HR466_2 := zq hi466_2; have HC466_2 := zq hl466_2; clear hi466_2 hl466_2; have HR466_3 := zq hi466_3; have HC466_3 := zq hl466_3; clear hi466_3 hl466_3; replace hx466_0 := (X7 (p := ⟨gb465, 0, none⟩) (zb hn466_0) (.int .i64 ((Xa l0 x17_1).f0))).trans hx466_0; replace hx466_1 := (X7 (p := ⟨gb465, 0, none⟩) (zb hn466_0) (.int .i64 ((Xa l0 x17_1).f0))).trans hx466_1; replace hx466_2 := (X7 (p := ⟨gb465, 0, none⟩) (zb hn466_0) (.int .i64 ((Xa l0 x17_1).f0))).trans hx466_2; replace hx466_3 := (X7 (p := ⟨gb465, 0, none⟩) (zb hn466_0) (.int .i64 ((Xa l0 x17_1).f0))).trans hx466_3; replace hx466_0 := (X7 (p := ⟨gb465, 1, none⟩) (zb hn466_1) (.slice A464_1 ((Xa l0 x17_1).f1).length c464_1)).trans hx466_0; replace hx466_1 := (X7 (p := ⟨gb465, 1, none⟩) (zb hn466_1) (.slice A464_1 ((Xa l0 x17_1).f1).length c464_1)).trans hx466_1; replace hx466_2 := (X7 (p := ⟨gb465, 1, none⟩) (zb hn466_1) (.slice A464_1 ((Xa l0 x17_1).f1).length c464_1)).trans hx466_2; replace hx466_3 := (X7 (p := ⟨gb465, 1, none⟩) (zb hn466_1) (.slice A464_1 ((Xa l0 x17_1).f1).length c464_1)).trans hx466_3; replace hx466_0 := (X7 (p := ⟨gb465, 2, none⟩) (zb hn466_2) (.slice A464_2 ((Xa l0 x17_1).f2).length c464_2)).trans hx466_0; replace hx466_1 := (X7 (p := ⟨gb465, 2, none⟩) (zb hn466_2) (.slice A464_2 ((Xa l0 x17_1).f2).length c464_2)).trans hx466_1; replace hx466_2 := (X7 (p := ⟨gb465, 2, none⟩) (zb hn466_2) (.slice A464_2 ((Xa l0 x17_1).f2).length c464_2)).trans hx466_2; replace hx466_3 := (X7 (p := ⟨gb465, 2, none⟩) (zb hn466_2) (.slice A464_2 ((Xa l0 x17_1).f2).length c464_2)).trans hx466_3; replace hx466_0 := (X7 (p := ⟨gb465, 3, none⟩) (zb hn466_3) (.slice A464_3 ((Xa l0 x17_1).f3).length c464_3)).trans hx466_0; replace hx466_1 := (X7 (p := ⟨gb465, 3, none⟩) (zb hn466_3) (.slice A464_3 ((Xa l0 x17_1).f3).length c464_3)).trans hx466_1; replace hx466_2 := (X7 (p := ⟨gb465, 3, none⟩) (zb hn466_3) (.slice A464_3 ((Xa l0 x17_1).f3).length c464_3)).trans hx466_2; replace hx466_3 := (X7 (p := ⟨gb465, 3, none⟩) (zb hn466_3) (.slice A464_3 ((Xa l0 x17_1).f3).length c464_3)).trans hx466_3; clear hn466_0; clear hn466_1; clear hn466_2; clear hn466_3; replace p466 := eq_true p466; replace q466 := eq_true q466) | ((with_reducible refine Xk (N := 9) rfl ?_); refine bxw 9 32 #[.int .i64 0, .slice none 0 0, .slice none 0 0, .slice none 0 0] ?_; intro gb467 hg w19 hbox hb; have BK467 := zq (hbox); have GE467 := zq ((by rw [hg]; exact (Xf (zs1 GE465.out)) : w.heap.size ≤ gb467)); replace HB := zq (Xd (zs1 GE465.out) hb); have NB465_467 := zq ((J105 : gb465 ≠ gb467)); have NB467_465 := zq ((J106 : gb467 ≠ gb465)); replace BK465 := zq (Xh (g := gb465) (o := .cells #[.int .i64 ((Xa l0 x17_1).f0), .slice A464_1 ((Xa l0 x17_1).f1).length c464_1, .slice A464_2 ((Xa l0 x17_1).f2).length c464_2, .slice A464_3 ((Xa l0 x17_1).f3).length c464_3] 32 (0, 0)) J7 hb); clear hb hbox hg; have hnb20 := NB467_465.out; have hnc20 := NB465_467.out; obtain ⟨hcz21_0, hcz21_1, hcz21_2, hcz21_3, hfz21_0, hfz21_1, hfz21_2, hfz21_3⟩ := cz4 BK467.out; obtain ⟨hcz22_0, hcz22_1, hcz22_2, hcz22_3, hfz22_0, hfz22_1, hfz22_2, hfz22_3⟩ := cz4 BK465.out) | ((with_reducible refine Xk (N := 29) rfl ?_); refine Xc2 (some 29) rfl rfl Tryd.func35 J8 rfl #[.agg #[.int .i64 ((Xa l0 x17_1).f0), .slice A464_1 ((Xa l0 x17_1).f1).length c464_1, .slice A464_2 ((Xa l0 x17_1).f2).length c464_2, .slice A464_3 ((Xa l0 x17_1).f3).length c464_3], .agg #[.int .i64 ((Xa l1 x17_1).f0), .slice A466_1 ((Xa l1 x17_1).f1).length c466_1, .slice A466_2 ((Xa l1 x17_1).f2).length c466_2, .slice A466_3 ((Xa l1 x17_1).f3).length c466_3]] (.tmp 26) rfl rfl J1 ?_; (with_reducible refine (Xbu.calls k1 ((Xa l0 x17_1).f0) _ _ ((Xa l0 x17_1).f1) _ _ ((Xa l0 x17_1).f2) _ _ ((Xa l0 x17_1).f3) ((Xa l1 x17_1).f0) _ _ ((Xa l1 x17_1).f1) _ _ ((Xa l1 x17_1).f2) _ _ ((Xa l1 x17_1).f3) false _ ?side1 ?side2 ?side3 ?side4 ?side5 ?side6 ?side7 ?side8 ?side9 ?side10 ?side11 ?side12 A8.out).mono ?_); (case side1 => exact Kd.C_below HR464_1.out (zs2 GE465.out GE467.out)); (case side2 => exact HC464_1.out); (case side3 => exact Kd.C_below HR464_2.out (zs2 GE465.out GE467.out)); (case side4 => exact HC464_2.out); (case side5 => exact Kd.C_below HR464_3.out (zs2 GE465.out GE467.out)); (case side6 => exact HC464_3.out); (case side7 => exact Kd.C_below HR466_1.out (zs2 GE465.out GE467.out)); (case side8 => exact HC466_1.out); (case side9 => exact Kd.C_below HR466_2.out (zs2 GE465.out GE467.out)); (case side10 => exact HC466_2.out); (case side11 => exact Kd.C_below HR466_3.out (zs2 GE465.out GE467.out)); (case side12 => exact HC466_3.out); rintro e w23 ⟨rfl, hb⟩; refine ⟨_, rfl, ?_⟩; replace HB := zq (Xd (zs2 GE465.out GE467.out) hb); (try clear hb)))
    go_ret
    exact ⟨J2, J125⟩
   have H' := zq H
   clear H
   have p464 : 0 ≤ (x17_1 : Int) := of_decide_eq_true J3
   have q464 : x17_1 < (l0.length : Int) := of_decide_eq_true J3
   obtain ⟨ad464, A464_1, c464_1, A464_2, c464_2, A464_3, c464_3, e464, hx464_0, hx464_1, hx464_2, hx464_3, hl464_1, hi464_1, hl464_2, hi464_2, hl464_3, hi464_3⟩ := Xbz HR0.out x17_1 p464 q464
   cases e464
   replace hx464_0 := yh HB hx464_0
   replace hx464_1 := yh HB hx464_1
   replace hx464_2 := yh HB hx464_2
   replace hx464_3 := yh HB hx464_3
   have HR464_1 := zq hi464_1
   have HC464_1 := zq hl464_1
   clear hi464_1 hl464_1
   have HR464_2 := zq hi464_2
   have HC464_2 := zq hl464_2
   clear hi464_2 hl464_2
   have HR464_3 := zq hi464_3
   have HC464_3 := zq hl464_3
   clear hi464_3 hl464_3
   replace p464 := eq_true p464
   replace q464 := eq_true q464
   go_wp2_with (first | ((with_reducible refine Xk (N := 8) rfl ?_); refine bxw 8 32 #[.int .i64 0, .slice none 0 0, .slice none 0 0, .slice none 0 0] ?_; intro gb465 hg w10 hbox hb; have BK465 := zq (hbox); have GW465 := zq ((J12 : w.heap.size ≤ gb465)); have GE465 := zq ((J12 : w.heap.size ≤ gb465)); replace HB := zq (Xd J0 hb); clear hb hbox hg; obtain ⟨hcz11_0, hcz11_1, hcz11_2, hcz11_3, hfz11_0, hfz11_1, hfz11_2, hfz11_3⟩ := cz4 BK465.out; have p466 : 0 ≤ (x17_1 : Int) := of_decide_eq_true J3; have q466 : x17_1 < (l1.length : Int) := of_decide_eq_true J3; obtain ⟨ad466, A466_1, c466_1, A466_2, c466_2, A466_3, c466_3, e466, hx466_0, hx466_1, hx466_2, hx466_3, hl466_1, hi466_1, hl466_2, hi466_2, hl466_3, hi466_3⟩ := Xbz HR1.out x17_1 p466 q466; cases e466; have hn466_0 : ad466.block ≠ gb465 := Nat.ne_of_lt (Nat.lt_of_lt_of_le J47 GW465.out); have hn466_1 : ad466.block ≠ gb465 := Nat.ne_of_lt (Nat.lt_of_lt_of_le J47 GW465.out); have hn466_2 : ad466.block ≠ gb465 := Nat.ne_of_lt (Nat.lt_of_lt_of_le J47 GW465.out); have hn466_3 : ad466.block ≠ gb465 := Nat.ne_of_lt (Nat.lt_of_lt_of_le J47 GW465.out); replace hx466_0 := yh HB hx466_0; replace hx466_1 := yh HB hx466_1; replace hx466_2 := yh HB hx466_2; replace hx466_3 := yh HB hx466_3; have HR466_1 := zq hi466_1; have HC466_1 := zq hl466_1; clear hi466_1 hl466_1; have HR466_2 := zq hi466_2; have HC466_2 := zq hl466_2; clear hi466_2 hl466_2; have HR466_3 := zq hi466_3; have HC466_3 := zq hl466_3; clear hi466_3 hl466_3; replace hx466_0 := (X7 (p := ⟨gb465, 0, none⟩) (zb hn466_0) (.int .i64 ((Xa l0 x17_1).f0))).trans hx466_0; replace hx466_1 := (X7 (p := ⟨gb465, 0, none⟩) (zb hn466_0) (.int .i64 ((Xa l0 x17_1).f0))).trans hx466_1; replace hx466_2 := (X7 (p := ⟨gb465, 0, none⟩) (zb hn466_0) (.int .i64 ((Xa l0 x17_1).f0))).trans hx466_2; replace hx466_3 := (X7 (p := ⟨gb465, 0, none⟩) (zb hn466_0) (.int .i64 ((Xa l0 x17_1).f0))).trans hx466_3; replace hx466_0 := (X7 (p := ⟨gb465, 1, none⟩) (zb hn466_1) (.slice A464_1 ((Xa l0 x17_1).f1).length c464_1)).trans hx466_0; replace hx466_1 := (X7 (p := ⟨gb465, 1, none⟩) (zb hn466_1) (.slice A464_1 ((Xa l0 x17_1).f1).length c464_1)).trans hx466_1; replace hx466_2 := (X7 (p := ⟨gb465, 1, none⟩) (zb hn466_1) (.slice A464_1 ((Xa l0 x17_1).f1).length c464_1)).trans hx466_2; replace hx466_3 := (X7 (p := ⟨gb465, 1, none⟩) (zb hn466_1) (.slice A464_1 ((Xa l0 x17_1).f1).length c464_1)).trans hx466_3; replace hx466_0 := (X7 (p := ⟨gb465, 2, none⟩) (zb hn466_2) (.slice A464_2 ((Xa l0 x17_1).f2).length c464_2)).trans hx466_0; replace hx466_1 := (X7 (p := ⟨gb465, 2, none⟩) (zb hn466_2) (.slice A464_2 ((Xa l0 x17_1).f2).length c464_2)).trans hx466_1; replace hx466_2 := (X7 (p := ⟨gb465, 2, none⟩) (zb hn466_2) (.slice A464_2 ((Xa l0 x17_1).f2).length c464_2)).trans hx466_2; replace hx466_3 := (X7 (p := ⟨gb465, 2, none⟩) (zb hn466_2) (.slice A464_2 ((Xa l0 x17_1).f2).length c464_2)).trans hx466_3; replace hx466_0 := (X7 (p := ⟨gb465, 3, none⟩) (zb hn466_3) (.slice A464_3 ((Xa l0 x17_1).f3).length c464_3)).trans hx466_0; replace hx466_1 := (X7 (p := ⟨gb465, 3, none⟩) (zb hn466_3) (.slice A464_3 ((Xa l0 x17_1).f3).length c464_3)).trans hx466_1; replace hx466_2 := (X7 (p := ⟨gb465, 3, none⟩) (zb hn466_3) (.slice A464_3 ((Xa l0 x17_1).f3).length c464_3)).trans hx466_2; replace hx466_3 := (X7 (p := ⟨gb465, 3, none⟩) (zb hn466_3) (.slice A464_3 ((Xa l0 x17_1).f3).length c464_3)).trans hx466_3; clear hn466_0; clear hn466_1; clear hn466_2; clear hn466_3; replace p466 := eq_true p466; replace q466 := eq_true q466) | ((with_reducible refine Xk (N := 9) rfl ?_); refine bxw 9 32 #[.int .i64 0, .slice none 0 0, .slice none 0 0, .slice none 0 0] ?_; intro gb467 hg w12 hbox hb; have BK467 := zq (hbox); have GE467 := zq ((by rw [hg]; exact (Xf (zs1 GE465.out)) : w.heap.size ≤ gb467)); replace HB := zq (Xd (zs1 GE465.out) hb); have NB465_467 := zq ((J105 : gb465 ≠ gb467)); have NB467_465 := zq ((J106 : gb467 ≠ gb465)); replace BK465 := zq (Xh (g := gb465) (o := .cells #[.int .i64 ((Xa l0 x17_1).f0), .slice A464_1 ((Xa l0 x17_1).f1).length c464_1, .slice A464_2 ((Xa l0 x17_1).f2).length c464_2, .slice A464_3 ((Xa l0 x17_1).f3).length c464_3] 32 (0, 0)) J7 hb); clear hb hbox hg; have hnb13 := NB467_465.out; have hnc13 := NB465_467.out; obtain ⟨hcz14_0, hcz14_1, hcz14_2, hcz14_3, hfz14_0, hfz14_1, hfz14_2, hfz14_3⟩ := cz4 BK467.out; obtain ⟨hcz15_0, hcz15_1, hcz15_2, hcz15_3, hfz15_0, hfz15_1, hfz15_2, hfz15_3⟩ := cz4 BK465.out) | ((with_reducible refine Xk (N := 29) rfl ?_); refine Xc2 (some 29) rfl rfl Tryd.func35 J8 rfl #[.agg #[.int .i64 ((Xa l0 x17_1).f0), .slice A464_1 ((Xa l0 x17_1).f1).length c464_1, .slice A464_2 ((Xa l0 x17_1).f2).length c464_2, .slice A464_3 ((Xa l0 x17_1).f3).length c464_3], .agg #[.int .i64 ((Xa l1 x17_1).f0), .slice A466_1 ((Xa l1 x17_1).f1).length c466_1, .slice A466_2 ((Xa l1 x17_1).f2).length c466_2, .slice A466_3 ((Xa l1 x17_1).f3).length c466_3]] (.tmp 26) rfl rfl J1 ?_; (with_reducible refine (Xbu.calls k1 ((Xa l0 x17_1).f0) _ _ ((Xa l0 x17_1).f1) _ _ ((Xa l0 x17_1).f2) _ _ ((Xa l0 x17_1).f3) ((Xa l1 x17_1).f0) _ _ ((Xa l1 x17_1).f1) _ _ ((Xa l1 x17_1).f2) _ _ ((Xa l1 x17_1).f3) true _ ?side1 ?side2 ?side3 ?side4 ?side5 ?side6 ?side7 ?side8 ?side9 ?side10 ?side11 ?side12 A8.out).mono ?_); (case side1 => exact Kd.C_below HR464_1.out (zs2 GE465.out GE467.out)); (case side2 => exact HC464_1.out); (case side3 => exact Kd.C_below HR464_2.out (zs2 GE465.out GE467.out)); (case side4 => exact HC464_2.out); (case side5 => exact Kd.C_below HR464_3.out (zs2 GE465.out GE467.out)); (case side6 => exact HC464_3.out); (case side7 => exact Kd.C_below HR466_1.out (zs2 GE465.out GE467.out)); (case side8 => exact HC466_1.out); (case side9 => exact Kd.C_below HR466_2.out (zs2 GE465.out GE467.out)); (case side10 => exact HC466_2.out); (case side11 => exact Kd.C_below HR466_3.out (zs2 GE465.out GE467.out)); (case side12 => exact HC466_3.out); rintro e w16 ⟨rfl, hb⟩; refine ⟨_, rfl, ?_⟩; replace BK465 := zq (Xh (g := gb465) (o := .cells #[.int .i64 ((Xa l0 x17_1).f0), .slice A464_1 ((Xa l0 x17_1).f1).length c464_1, .slice A464_2 ((Xa l0 x17_1).f2).length c464_2, .slice A464_3 ((Xa l0 x17_1).f3).length c464_3] 32 (0, 0)) (by (with_reducible repeat (first | refine Xc ?_ _ | refine Xe ?_ | refine Xb ?_ _)); refine Xab ?_ NB465_467.out _; (with_reducible repeat (first | refine Xc ?_ _ | refine Xe ?_ | refine Xb ?_ _)); refine Xab ?_ NB465_467.out _; (with_reducible repeat (first | refine Xc ?_ _ | refine Xe ?_ | refine Xb ?_ _)); refine Xab ?_ NB465_467.out _; (with_reducible repeat (first | refine Xc ?_ _ | refine Xe ?_ | refine Xb ?_ _)); refine Xab ?_ NB465_467.out _; (with_reducible repeat (first | refine Xc ?_ _ | refine Xe ?_ | refine Xb ?_ _)); exact BK465.out) hb); replace BK467 := zq (Xh (g := gb467) (o := .cells #[.int .i64 ((Xa l1 x17_1).f0), .slice A466_1 ((Xa l1 x17_1).f1).length c466_1, .slice A466_2 ((Xa l1 x17_1).f2).length c466_2, .slice A466_3 ((Xa l1 x17_1).f3).length c466_3] 32 (0, 0)) (by (with_reducible repeat (first | refine Xc ?_ _ | refine Xe ?_ | refine Xb ?_ _)); refine Xj (cs := #[.int .i64 ((Xa l1 x17_1).f0), .slice A466_1 ((Xa l1 x17_1).f1).length c466_1, .slice A466_2 ((Xa l1 x17_1).f2).length c466_2, .slice none 0 0]) ?_ 3 _ rfl; (with_reducible repeat (first | refine Xc ?_ _ | refine Xe ?_ | refine Xb ?_ _)); refine Xj (cs := #[.int .i64 ((Xa l1 x17_1).f0), .slice A466_1 ((Xa l1 x17_1).f1).length c466_1, .slice none 0 0, .slice none 0 0]) ?_ 2 _ rfl; (with_reducible repeat (first | refine Xc ?_ _ | refine Xe ?_ | refine Xb ?_ _)); refine Xj (cs := #[.int .i64 ((Xa l1 x17_1).f0), .slice none 0 0, .slice none 0 0, .slice none 0 0]) ?_ 1 _ rfl; (with_reducible repeat (first | refine Xc ?_ _ | refine Xe ?_ | refine Xb ?_ _)); refine Xj (cs := #[.int .i64 0, .slice none 0 0, .slice none 0 0, .slice none 0 0]) ?_ 0 _ rfl; (with_reducible repeat (first | refine Xc ?_ _ | refine Xe ?_ | refine Xb ?_ _)); exact BK467.out) hb); replace HB := zq (Xd (zs2 GE465.out GE467.out) hb); (try clear hb)))
   go_roundg k1
   case measure => have := HK1.out; omega
   case rel => exact ⟨(wrap64 (x17_1 + 1)), J4, H', ⟨J86⟩, ⟨J125⟩⟩
def Xck.f (k : Nat) (l0 : List (S32)) (l1 : List (S32)) : Option (Bool) := (Xa0.f k l0 l1).bind fun t469 => (some t469)
theorem Xck.mono : ∀ a0 a1 k, LeO (Xck.f k a0 a1) (Xck.f (k + 1) a0 a1) := by
 intro a0 a1 k
 unfold Xck.f
 have im0 := @Xa0.mono
 exact mz3
set_option maxHeartbeats 8000000 in
set_option maxRecDepth 100000 in
theorem Xck.calls (k : Nat) (A0 : Option Addr) (c0 : Nat) (l0 : List (S32)) (A1 : Option Addr) (c1 : Nat) (l1 : List (S32)) (r : Bool) (w : World) (hr0 : Kd.C k32 w A0 l0.length l0) (hc0 : l0.length ≤ c0) (hr1 : Kd.C k32 w A1 l1.length l1) (hc1 : l1.length ≤ c1) (h : Xck.f k l0 l1 = some r) :
  Calls Tryd.prog 21 #[.slice A0 l0.length c0, .slice A1 l1.length c1] w fun e w' => e = .returned (.bool r) ∧ Below w.heap.size w w' := by
 have HR0 := zq hr0
 have HC0 := zq hc0
 clear hr0 hc0
 have HR1 := zq hr1
 have HC1 := zq hc1
 clear hr1 hc1
 have HB := zq (Below.refl w.heap.size w)
 unfold Xck.f at h
 have H := h
 clear h
 refine yv H ?_; clear H; rintro t469 A3 H
 obtain rfl := yo H
 go_enter Tryd.func21, Tryd.ntmps21
 go_wp2_with (first | ((with_reducible refine Xg (f := 34) rfl ?_); refine Xt (some 7) rfl rfl Tryd.func34 J8 rfl #[.slice A0 l0.length c0, .slice A1 l1.length c1, .func (.func 35) #[] #[]] rfl J1 ?_; (with_reducible refine (Xa0.calls k _ _ l0 _ _ l1 t469 _ ?side1 ?side2 ?side3 ?side4 A3.out).mono ?_); (case side1 => exact zc HR0.out); (case side2 => exact HC0.out); (case side3 => exact zc HR1.out); (case side4 => exact HC1.out); rintro e w4 ⟨rfl, hb⟩; refine ⟨_, rfl, ?_⟩; replace HB := zq (Xd J0 hb); (try clear hb)))
 go_ret
 exact ⟨J2, J0⟩
def Xa6.f (k : Nat) (l0 : List (S32)) : Option (Bool) := (Xcc.f k l0).bind fun bt470 => (if bt470.2 = true then ((Xck.f k l0 bt470.1).bind fun t474 => (some t474)) else (some false))
theorem Xa6.mono : ∀ a0 k, LeO (Xa6.f k a0) (Xa6.f (k + 1) a0) := by
 intro a0 k
 unfold Xa6.f
 have im0 := @Xck.mono
 have im1 := @Xcc.mono
 exact mz3
set_option maxHeartbeats 8000000 in
set_option maxRecDepth 100000 in
theorem Xa6.calls (k : Nat) (A0 : Option Addr) (c0 : Nat) (l0 : List (S32)) (r : Bool) (w : World) (hr0 : Kd.C k32 w A0 l0.length l0) (hc0 : l0.length ≤ c0) (h : Xa6.f k l0 = some r) :
  Calls Tryd.prog 10 #[.slice A0 l0.length c0] w fun e w' => e = .returned (.bool r) ∧ Below w.heap.size w w' := by
 have HR0 := zq hr0
 have HC0 := zq hc0
 clear hr0 hc0
 have HB := zq (Below.refl w.heap.size w)
 unfold Xa6.f at h
 have H := h
 clear h
 refine yv H ?_; clear H; rintro ⟨t470, t473⟩ A2 H
 dsimp only at H
 refine yB H ?_ ?_ <;> clear H <;> rintro rfl H
 ·obtain rfl := yo H
  go_enter Tryd.func10, Tryd.ntmps10
  go_wp2_with (first | ((first | ((with_reducible refine Xg (f := 20) rfl ?_); refine Xt (some 7) rfl rfl Tryd.func20 J8 rfl #[.slice A0 l0.length c0] rfl J1 ?_) | go_at_call 20); (with_reducible refine (Xcc.calls k (fun k_ => k_ < w.heap.size) _ _ l0 t470 false _ ?side1 A2.out).mono ?_); (case side1 => exact Kd.V_mk HC0.out (Kd.F_below (Kd.C_F k32_heap HR0.out) J0)); rintro e w8 ⟨v471, rfl, ho0, hb⟩; (try refine ⟨_, rfl, ?_⟩); replace HB := zq (Xd J0 hb); (try clear hb); (try clear ho0)))
  go_ret
  exact ⟨J2, J0⟩
 refine yv H ?_; clear H; rintro t474 A4 H
 obtain rfl := yo H
 go_enter Tryd.func10, Tryd.ntmps10
 go_wp2_with (first | ((first | ((with_reducible refine Xg (f := 20) rfl ?_); refine Xt (some 7) rfl rfl Tryd.func20 J8 rfl #[.slice A0 l0.length c0] rfl J1 ?_) | go_at_call 20); (with_reducible refine (Xcc.calls k (fun k_ => k_ < w.heap.size) _ _ l0 t470 true _ ?side1 A2.out).mono ?_); (case side1 => exact Kd.V_mk HC0.out (Kd.F_below (Kd.C_F k32_heap HR0.out) J0)); rintro e w5 ⟨v471, rfl, ho0, hb⟩; (try refine ⟨_, rfl, ?_⟩); have HO472 := zq (Kd.N_lower (Kd.N_mono (ok' := fun k_ => True) ho0 (fun k_ hk_ => trivial)) (Xf J0)); replace HB := zq (Xd J0 hb); (try clear hb); (try clear ho0); obtain ⟨Ao6, co6, eo6⟩ := Kd.N_slice HO472.out; subst eo6) | (go_at_call 21; (with_reducible refine (Xck.calls k _ _ l0 _ _ t470 t474 _ ?side1 ?side2 ?side3 ?side4 A4.out).mono ?_); (case side1 => exact zc (Kd.C_below HR0.out HB.out)); (case side2 => exact HC0.out); (case side3 => exact zc ((Kd.N_reads' HO472.out).2.2)); (case side4 => exact (Kd.N_reads' HO472.out).2.1); rintro e w7 ⟨rfl, hb⟩; replace HB := zq (Xd J0 hb); (try clear hb)))
 go_ret
 exact ⟨J2, J0⟩
end Go.Proofs.YtfjhiiaahbjaiaaDoor.HSystemFirst
