/- What the Go functions of this claim answer, told as functions of numbers and lists, and that other memory stays as it was: words and walks, shortened by a program. -/
import Derived.Test.YtfjhiiaahbjaiaaDoorSSystemFirstx0
import Derived.Test.YtfjhiiaahbjaiaaDoorSSystemFirstx8
import Derived.Test.YtfjhiiaahbjaiaaDoorSSystemFirstx11
namespace Go.Proofs.YtfjhiiaahbjaiaaDoor.HSystemFirst
open Go.RowKit Go.Proofs.YtfjhiiaahbjaiaaDoorW.PrintWords Go.Proofs.YtfjhiiaahbjaiaaDoorW.PrintLast Go.Proofs.YtfjhiiaahbjaiaaDoorW.PrintMore
attribute [local go_sem] Xby Xbw Xcb Xca Xbp Xbo Xbx Xbv
set_option linter.unusedVariables false
set_option linter.unusedSimpArgs false
def Xb5.f (k : Nat) (l0 : List (S32)) : Option (Int) := (Xo.f k l0).bind fun bt255 => (some bt255.1)
theorem Xb5.mono : ∀ a0 k, LeO (Xb5.f k a0) (Xb5.f (k + 1) a0) := by
 intro a0 k
 unfold Xb5.f
 have im0 := @Xo.mono
 exact mz3
set_option maxHeartbeats 8000000 in
set_option maxRecDepth 100000 in
theorem Xb5.calls (k : Nat) (A0 : Option Addr) (c0 : Nat) (l0 : List (S32)) (r : Int) (w : World) (hr0 : Kd.C k32 w A0 l0.length l0) (hc0 : l0.length ≤ c0) (h : Xb5.f k l0 = some r) :
  Calls Tryd.prog 58 #[.slice A0 l0.length c0] w fun e w' => e = .returned (.int .i64 r) ∧ Below w.heap.size w w' := by
 have HR0 := zq hr0
 have HC0 := zq hc0
 clear hr0 hc0
 have HB := zq (Below.refl w.heap.size w)
 unfold Xb5.f at h
 have H := h
 clear h
 replace H := Option.bind_eq_some_iff.mp H
 obtain ⟨⟨t255, t256, t257⟩, A20, H⟩ := H
 replace H : (some t255) = some r := H
 have A2 := zq A20
 clear A20
 obtain rfl := yo H
 go_enter Tryd.func58, Tryd.ntmps58
 go_wp2_with (first | ((with_reducible refine Xg (f := 77) rfl ?_); refine Xt (some 8) rfl rfl Tryd.func77 J8 rfl #[.slice A0 l0.length c0] rfl J1 ?_; (with_reducible refine (Xo.calls k _ _ l0 t255 t256 t257 _ ?side1 ?side2 A2.out).mono ?_); (case side1 => exact zc HR0.out); (case side2 => exact HC0.out); rintro e w3 ⟨rfl, hb⟩; refine ⟨_, rfl, ?_⟩; replace HB := zq (Xd J0 hb); (try clear hb)))
 go_ret
 exact ⟨J2, J0⟩
def Xbj.f (k : Nat) (l0 : List (S32)) : Option (Bool) := if (l0.length : Int) > 0 then ((Xb5.f k l0).bind fun t258 => (some (t258 == (l0.length : Int)))) else (some false)
theorem Xbj.mono : ∀ a0 k, LeO (Xbj.f k a0) (Xbj.f (k + 1) a0) := by
 intro a0 k
 unfold Xbj.f
 have im0 := @Xb5.mono
 exact mz3
set_option maxHeartbeats 8000000 in
set_option maxRecDepth 100000 in
theorem Xbj.calls (k : Nat) (A0 : Option Addr) (c0 : Nat) (l0 : List (S32)) (r : Bool) (w : World) (hr0 : Kd.C k32 w A0 l0.length l0) (hc0 : l0.length ≤ c0) (h : Xbj.f k l0 = some r) :
  Calls Tryd.prog 32 #[.slice A0 l0.length c0] w fun e w' => e = .returned (.bool r) ∧ Below w.heap.size w w' := by
 have HR0 := zq hr0
 have HC0 := zq hc0
 clear hr0 hc0
 have HB := zq (Below.refl w.heap.size w)
 unfold Xbj.f at h
 have H := h
 clear h
 refine yt H ?_ ?_ <;> clear H <;> rintro c2 H
 ·have c2b0 : decide (0 < (l0.length : Int)) = false := decide_eq_false c2
  have c2b1 : decide (0 < l0.length) = false := decide_eq_false J35
  clear c2
  obtain rfl := yo H
  go_enter Tryd.func32, Tryd.ntmps32
  go_wp2
  go_ret
  exact ⟨J2, J0⟩
 have c2b0 := decide_eq_true c2
 have c2b1 : decide (0 < l0.length) = true := decide_eq_true J35
 clear c2
 refine yv H ?_; clear H; rintro t258 A3 H
 obtain rfl := yo H
 go_enter Tryd.func32, Tryd.ntmps32
 go_wp2_with (first | (go_at_call 58; (with_reducible refine (Xb5.calls k _ _ l0 t258 _ ?side1 ?side2 A3.out).mono ?_); (case side1 => exact zc HR0.out); (case side2 => exact HC0.out); rintro e w4 ⟨rfl, hb⟩; replace HB := zq (Xd J0 hb); (try clear hb)))
 go_ret
 exact ⟨J2, J0⟩
def Xbk.f (k : Nat) (a0_0 : Int) (a0_1 : Int) : Option (Bool) := (Xae.f k a0_0 a0_1).bind fun t260 => (some (!t260))
theorem Xbk.mono : ∀ a0 a1 k, LeO (Xbk.f k a0 a1) (Xbk.f (k + 1) a0 a1) := by
 intro a0 a1 k
 unfold Xbk.f
 have im0 := @Xae.mono
 exact mz3
set_option maxHeartbeats 8000000 in
set_option maxRecDepth 100000 in
theorem Xbk.calls (k : Nat) (a0_0 : Int) (a0_1 : Int) (r : Bool) (w : World) (h : Xbk.f k a0_0 a0_1 = some r) :
  Calls Tryd.prog 39 #[.agg #[.int .i64 a0_0, .int .i64 a0_1]] w fun e w' => e = .returned (.bool r) ∧ Below w.heap.size w w' := by
 have hu40 := Tryd.underlying40
 have HB := zq (Below.refl w.heap.size w)
 unfold Xbk.f at h
 have H := h
 clear h
 refine yv H ?_; clear H; rintro t260 A2 H
 obtain rfl := yo H
 go_enter Tryd.func39, Tryd.ntmps39
 go_wp2_with (first | ((with_reducible refine Xk (N := 1) rfl ?_); refine bxw 1 40 #[.int .i64 a0_0, .int .i64 a0_1] ?_; intro gb259 hg w3 hbox hb; have BK259 := zq (hbox); have GE259 := zq ((J12 : w.heap.size ≤ gb259)); replace HB := zq (Xd J0 hb); clear hb hbox hg; obtain ⟨hcz4_0, hcz4_1, hfz4_0, hfz4_1⟩ := cz2 BK259.out) | ((with_reducible refine Xg (f := 28) rfl ?_); refine Xt (some 4) rfl rfl Tryd.func28 J8 rfl #[.agg #[.int .i64 a0_0, .int .i64 a0_1]] rfl J1 ?_; (with_reducible refine (Xae.calls k a0_0 a0_1 t260 _ A2.out).mono ?_); rintro e w5 ⟨rfl, hb⟩; refine ⟨_, rfl, ?_⟩; replace HB := zq (Xd (zs1 GE259.out) hb); (try clear hb)))
 go_ret
 exact ⟨J2, by repeat (first | (with_reducible first | exact HB.out | apply Xah | apply Xy | apply X8 | refine X2 ?_ GE259.out) | exact HB.out)⟩
def Xba.l0 : Nat → List (S40) → Int → Int → Option (Int)
 | 0, _, _, _ => none
 | k + 1, x0, x7, x8 => if x8 < x7 then (if 0 ≤ x8 then (if x8 < (x0.length : Int) then ((Xbk.f k ((Xv x0 x8).f0) ((Xv x0 x8).f1)).bind fun t262 => (if t262 = true then (some x8) else (Xba.l0 k x0 x7 (wrap64 (x8 + 1))))) else (none)) else (none)) else (some (-1))
def Xba.f (k : Nat) (l0 : List (S40)) : Option (Int) := Xba.l0 k l0 (l0.length : Int) 0
theorem Xba.mono_l : ∀ k, (∀ y0 y1 y2, LeO (Xba.l0 k y0 y1 y2) (Xba.l0 (k + 1) y0 y1 y2))
 | 0 => fun _ _ _ r h => by simp [Xba.l0] at h
 | k + 1 => by
  have ih0 := Xba.mono_l k
  ·intro y0 y1 y2
   unfold Xba.l0
   have im0 := @Xbk.mono
   exact mz3
theorem Xba.mono : ∀ a0 k, LeO (Xba.f k a0) (Xba.f (k + 1) a0) := by
 intro a0 k
 have ih0 := Xba.mono_l k
 unfold Xba.f
 have im0 := @Xbk.mono
 exact mz3
set_option maxHeartbeats 8000000 in
set_option maxRecDepth 100000 in
theorem Xba.calls (k : Nat) (A0 : Option Addr) (c0 : Nat) (l0 : List (S40)) (r : Int) (w : World) (hr0 : Kd.C k40 w A0 l0.length l0) (hc0 : l0.length ≤ c0) (h : Xba.f k l0 = some r) :
  Calls Tryd.prog 66 #[.slice A0 l0.length c0, .func (.func 39) #[] #[]] w fun e w' => e = .returned (.int .i64 r) ∧ Below w.heap.size w w' := by
 have hu40 := Tryd.underlying40
 have HR0 := zq hr0
 have HC0 := zq hc0
 clear hr0 hc0
 have HB := zq (Below.refl w.heap.size w)
 unfold Xba.f at h
 have H := h
 clear h
 have H' := zq H
 clear H
 go_enter Tryd.func66, Tryd.ntmps66
 go_wp2
 go_loopg [8] k (fun kq v8 w' => ∃ (x8_1 : Int), v8 = .int .i64 x8_1 ∧ Aside0 (Xba.l0 kq l0 (l0.length : Int) x8_1 = some r) ∧ Aside0 (kq ≤ k) ∧ Aside0 (Below w.heap.size w w'))
 case atStart => exact ⟨(0), J4, H', ⟨Nat.le_refl _⟩, ⟨J0⟩⟩
 case round =>
  clear H'
  obtain ⟨x8_1, rfl, HA, HK1, HB⟩ := hrel
  cases gk with
  | zero => exact absurd HA.out (by simp [Xba.l0])
  | succ k1 =>
   have H := HA.out
   clear HA
   simp only [Xba.l0] at H
   refine yd H ?_ ?_ <;> clear H <;> rintro c2b0 H
   ·obtain rfl := yo H
    go_wp2
    go_ret
    exact ⟨J2, J0⟩
   refine yj H ?_; clear H; intro c3b0 H
   refine yj H ?_; clear H; intro c4b0 H
   refine yv H ?_; clear H; rintro t262 A5 H
   refine yC H ?_ ?_ <;> clear H <;> rintro rfl H
   ·obtain rfl := yo H
    have p261 : 0 ≤ (x8_1 : Int) := of_decide_eq_true J3
    have q261 : x8_1 < (l0.length : Int) := of_decide_eq_true J3
    obtain ⟨ad261, e261, hx261_0, hx261_1⟩ := Xcf HR0.out x8_1 p261 q261
    cases e261
    replace hx261_0 := yh HB hx261_0
    replace hx261_1 := yh HB hx261_1
    replace p261 := eq_true p261
    replace q261 := eq_true q261
    go_wp2_with (first | ((with_reducible refine Xk (N := 16) rfl ?_); refine Xc2 (some 16) rfl rfl Tryd.func39 J8 rfl #[.agg #[.int .i64 ((Xv l0 x8_1).f0), .int .i64 ((Xv l0 x8_1).f1)]] (.tmp 11) rfl rfl J1 ?_; (with_reducible refine (Xbk.calls k1 ((Xv l0 x8_1).f0) ((Xv l0 x8_1).f1) true _ A5.out).mono ?_); rintro e w7 ⟨rfl, hb⟩; refine ⟨_, rfl, ?_⟩; replace HB := zq (Xd J0 hb); (try clear hb)))
    go_ret
    exact ⟨J2, J0⟩
   have H' := zq H
   clear H
   have p261 : 0 ≤ (x8_1 : Int) := of_decide_eq_true J3
   have q261 : x8_1 < (l0.length : Int) := of_decide_eq_true J3
   obtain ⟨ad261, e261, hx261_0, hx261_1⟩ := Xcf HR0.out x8_1 p261 q261
   cases e261
   replace hx261_0 := yh HB hx261_0
   replace hx261_1 := yh HB hx261_1
   replace p261 := eq_true p261
   replace q261 := eq_true q261
   go_wp2_with (first | ((with_reducible refine Xk (N := 16) rfl ?_); refine Xc2 (some 16) rfl rfl Tryd.func39 J8 rfl #[.agg #[.int .i64 ((Xv l0 x8_1).f0), .int .i64 ((Xv l0 x8_1).f1)]] (.tmp 11) rfl rfl J1 ?_; (with_reducible refine (Xbk.calls k1 ((Xv l0 x8_1).f0) ((Xv l0 x8_1).f1) false _ A5.out).mono ?_); rintro e w8 ⟨rfl, hb⟩; refine ⟨_, rfl, ?_⟩; replace HB := zq (Xd J0 hb); (try clear hb)))
   go_roundg k1
   case measure => have := HK1.out; omega
   case rel => exact ⟨(wrap64 (x8_1 + 1)), J4, H', ⟨J86⟩, ⟨J0⟩⟩
def Xcj.f (k : Nat) (l0 : List (S40)) : Option (Bool) := (Xba.f k l0).bind fun t263 => (some (decide (t263 ≥ 0)))
theorem Xcj.mono : ∀ a0 k, LeO (Xcj.f k a0) (Xcj.f (k + 1) a0) := by
 intro a0 k
 unfold Xcj.f
 have im0 := @Xba.mono
 exact mz3
set_option maxHeartbeats 8000000 in
set_option maxRecDepth 100000 in
theorem Xcj.calls (k : Nat) (A0 : Option Addr) (c0 : Nat) (l0 : List (S40)) (r : Bool) (w : World) (hr0 : Kd.C k40 w A0 l0.length l0) (hc0 : l0.length ≤ c0) (h : Xcj.f k l0 = some r) :
  Calls Tryd.prog 41 #[.slice A0 l0.length c0, .func (.func 39) #[] #[]] w fun e w' => e = .returned (.bool r) ∧ Below w.heap.size w w' := by
 have HR0 := zq hr0
 have HC0 := zq hc0
 clear hr0 hc0
 have HB := zq (Below.refl w.heap.size w)
 unfold Xcj.f at h
 have H := h
 clear h
 refine yv H ?_; clear H; rintro t263 A2 H
 obtain rfl := yo H
 go_enter Tryd.func41, Tryd.ntmps41
 go_wp2_with (first | ((with_reducible refine Xg (f := 66) rfl ?_); refine Xt (some 7) rfl rfl Tryd.func66 J8 rfl #[.slice A0 l0.length c0, .func (.func 39) #[] #[]] rfl J1 ?_; (with_reducible refine (Xba.calls k _ _ l0 t263 _ ?side1 ?side2 A2.out).mono ?_); (case side1 => exact zc HR0.out); (case side2 => exact HC0.out); rintro e w3 ⟨rfl, hb⟩; refine ⟨_, rfl, ?_⟩; replace HB := zq (Xd J0 hb); (try clear hb)))
 go_ret
 exact ⟨J2, J0⟩
def Xam.f (l0 : List Int) : Option (List Int) := (some (([] : List Int) : List Int)).bind fun y264 => (if y264.length + l0.length < 17592186044416 then (some (y264 ++ l0)) else (none))
set_option maxHeartbeats 8000000 in
set_option maxRecDepth 100000 in
theorem Xam.calls (A0 : Option Addr) (c0 : Nat) (l0 : List Int) (r : List Int) (w : World) (hr0 : Kd.C (Kd.int .i64) w A0 l0.length l0) (hc0 : l0.length ≤ c0) (h : Xam.f l0 = some r) :
  Calls Tryd.prog 42 #[.slice A0 l0.length c0] w fun e w' => ∃ v0_ : Value, e = .returned (v0_) ∧ Kd.R (Kd.int .i64) 3 w' w.heap.size (fun _ => True) v0_ r ∧ Below w.heap.size w w' := by
 cases A0 with
 | none =>
  obtain rfl : l0 = [] := by
   cases l0 with
   | nil => rfl
   | cons x_ y_ =>
    obtain ⟨ad_, c_, e_, _⟩ := Kd.C_get hr0 0 0 J35 (by rw [List.length_cons]; omega)
    exact absurd e_ J88
  have hn_ : ∀ W : World, (binOp .eql 29 (.slice none 0 c0) (.slice none 0 0)).run Tryd.prog W = .ok (.bool true) W := fun W => Lib.run_eql_slice_nil W 29 3 none _ c0 0 0 Tryd.underlying29
  rw [show ([] : List Int).length = 0 from rfl]
  go_enter Tryd.func42, Tryd.ntmps42
  go_wp2
  go_ret
  obtain rfl : r = [] := by simpa [Xam.f] using h.symm
  exact ⟨_, rfl, Kd.R_nil _ _ _ _ _, Below.refl _ _⟩
 | some a0_ =>
  have hn_ : ∀ W : World, (binOp .eql 29 (.slice (some a0_) l0.length c0) (.slice none 0 0)).run Tryd.prog W = .ok (.bool false) W := fun W => Lib.run_eql_slice_nil W 29 3 (some a0_) _ c0 0 0 Tryd.underlying29
  have HR0 := zq hr0
  have HC0 := zq hc0
  clear hr0 hc0
  have HB := zq (Below.refl w.heap.size w)
  unfold Xam.f at h
  have H := h
  clear h
  obtain ⟨y264, hy264⟩ : ∃ y_ : List Int, y_ = (([] : List Int)) := ⟨_, rfl⟩
  replace H : (if y264.length + l0.length < 17592186044416 then (some (y264 ++ l0)) else (none)) = some r := by first | (rw [hy264]; with_reducible exact H) | (have H2_ := (Option.bind_some _ _).symm.trans H; rw [hy264]; with_reducible exact H2_) | (have H2_ := (Option.bind_some _ _).symm.trans H; with_reducible exact H2_) | with_reducible exact H | (rw [hy264]; exact H) | exact H
  have Ny264 := zq hy264
  clear hy264
  refine yu H ?_ ?_ <;> clear H <;> rintro c2 H
  ·have LMc2 := zq c2
   clear c2
   obtain ⟨y267, hy267⟩ : ∃ y_ : List Int, y_ = (y264 ++ l0) := ⟨_, rfl⟩
   replace H : (some y267) = some r := by first | (rw [hy267]; with_reducible exact H) | (have H2_ := (Option.bind_some _ _).symm.trans H; rw [hy267]; with_reducible exact H2_) | (have H2_ := (Option.bind_some _ _).symm.trans H; with_reducible exact H2_) | with_reducible exact H | (rw [hy267]; exact H) | exact H
   have Ny267 := zq hy267
   clear hy267
   obtain rfl := yo H
   go_enter Tryd.func42, Tryd.ntmps42
   go_wp2_with (first | ((with_reducible refine Xk (N := 5) rfl ?_); refine lwR (Kd.int .i64) 3 5 (xs := ([] : List Int)) [] Ny264 (Reps.none _ _) ?_; intro v265 w3 ho4 hb; have HO266 := zq (Kd.R_lower ho4 (Xf J0)); replace HB := zq (Xd J0 hb); clear hb ho4) | ((with_reducible refine Xbt (b := .append) (xs := #[.tmp 5, .tmp 6]) rfl ?_); at_builtin; refine Kd.R_append_rows (Kd.int .i64) (w0 := w) w.heap.size rfl (.tmp 5) (.tmp 6) 29 3 (.int .i64 0) 8 rfl Tryd.underlying29 info3 rfl J11 J35 v265 y264 l0 _ _ _ (fun _ => True) (fun _ => False) rfl rfl ?aO ?aR (fun _ _ h => h) (fun _ h => h.elim) ?aF ?aB ?aS ?aL ?_; (case aR => repeat (first | exact (Kd.C_below HR0.out HB.out) | (with_reducible refine Kd.C_alloc ?_ _) | (with_reducible refine Kd.C_drewN ?_ _) | (with_reducible refine Kd.C_drew ?_))); (case aB => exact J0); (case aF => exact (fun _ _ => trivial)); (case aO => exact (zr HO266.out)); (case aS => exact (Xf J0)); (case aL => have := LMc2.out; omega); intro v268 w5 ho hb hg hat; rw [← Ny267.out] at ho; replace HB := zq (hb); have HO269 := zq (ho); clear HO266; clear ho hb hg hat))
   go_ret
   exact ⟨_, J2, by (with_reducible repeat (first | apply Kd.R_alloc | apply Kd.R_drewN | apply Kd.R_drew)); exact HO269.out, J0⟩
  ·exact absurd H J88
mutual
def Xr.j0 : Nat → Bool → Int → Int → Option (Int × Bool)
 | 0, _, _, _ => none
 | k + 1, x17, x271000, x271001 => if x17 = true then (some (0, false)) else (Xr.l0 k x271000 x271001 0)
def Xr.l0 : Nat → Int → Int → Int → Option (Int × Bool)
 | 0, _, _, _ => none
 | k + 1, x4, x21, x22 => if x22 < x21 then (if (wrap64 (Int.tdiv (wrap64 (x4 * 10)) 10)) = x4 then (Xr.l0 k (wrap64 (x4 * 10)) x21 (wrap64 (x22 + 1))) else (some (0, false))) else (some (x4, true))
end
def Xr.f (k : Nat) (a0_0 : Int) (a0_1 : Int) : Option (Int × Bool) := (Xae.f k a0_0 a0_1).bind fun t271 => (if t271 = true then (if a0_1 < 0 then (Xr.j0 k true a0_0 a0_1) else (Xr.j0 k (decide (a0_1 > 18)) a0_0 a0_1)) else (Xr.j0 k true a0_0 a0_1))
theorem Xr.mono_l : ∀ k, (∀ y0 y1 y2, LeO (Xr.j0 k y0 y1 y2) (Xr.j0 (k + 1) y0 y1 y2)) ∧ (∀ y0 y1 y2, LeO (Xr.l0 k y0 y1 y2) (Xr.l0 (k + 1) y0 y1 y2))
 | 0 => ⟨fun _ _ _ r h => by simp [Xr.j0] at h, fun _ _ _ r h => by simp [Xr.l0] at h⟩
 | k + 1 => by
  obtain ⟨ih0, ih1⟩ := Xr.mono_l k
  refine ⟨?_, ?_⟩
  ·intro y0 y1 y2
   unfold Xr.j0
   have im0 := @Xae.mono
   exact mz3
  ·intro y0 y1 y2
   unfold Xr.l0
   have im0 := @Xae.mono
   exact mz3
theorem Xr.mono : ∀ a0 a1 k, LeO (Xr.f k a0 a1) (Xr.f (k + 1) a0 a1) := by
 intro a0 a1 k
 obtain ⟨ih0, ih1⟩ := Xr.mono_l k
 unfold Xr.f
 have im0 := @Xae.mono
 exact mz3
set_option maxHeartbeats 8000000 in
set_option maxRecDepth 100000 in
theorem Xr.calls (k : Nat) (a0_0 : Int) (a0_1 : Int) (r1 : Int) (r2 : Bool) (w : World) (h : Xr.f k a0_0 a0_1 = some (r1, r2)) :
  Calls Tryd.prog 31 #[.agg #[.int .i64 a0_0, .int .i64 a0_1]] w fun e w' => e = .returned (.tuple #[.int .i64 r1, .bool r2]) ∧ Below w.heap.size w w' := by
 have hu40 := Tryd.underlying40
 have HB := zq (Below.refl w.heap.size w)
 unfold Xr.f at h
 have H := h
 clear h
 have HC2 := zq H
 clear H
 go_enter Tryd.func31, Tryd.ntmps31
 go_upto_region 1 with (first | ((with_reducible refine Xk (N := 1) rfl ?_); refine bxw 1 40 #[.int .i64 a0_0, .int .i64 a0_1] ?_; intro gb270 hg w3 hbox hb; have BK270 := zq (hbox); have GE270 := zq ((J12 : w.heap.size ≤ gb270)); replace HB := zq (Xd J0 hb); clear hb hbox hg))
 (try simp only [Act.put, List.setIfInBounds_toArray, List.set_cons_zero, List.set_cons_succ])
 go_cut [17] (fun v17 wc => ∃ (kq : Nat) (x17_1 : Bool), v17 = .bool x17_1 ∧ Aside0 (Xr.j0 kq x17_1 a0_0 a0_1 = some (r1, r2)) ∧ Aside0 (kq ≤ k) ∧ Aside0 (wc.heap[gb270]? = some (.cells #[.int .i64 a0_0, .int .i64 a0_1] 40 (0, 0))) ∧ Aside0 (Below w.heap.size w wc))
 case first =>
  have H := HC2.out
  clear HC2
  refine yv H ?_; clear H; rintro t271 A4 H
  refine yB H ?_ ?_ <;> clear H <;> rintro rfl H
  ·have H' := zq H
   clear H
   obtain ⟨hcz13_0, hcz13_1, hfz13_0, hfz13_1⟩ := cz2 BK270.out
   go_wp2_with (first | ((with_reducible refine Xg (f := 28) rfl ?_); refine Xt (some 6) rfl rfl Tryd.func28 J8 rfl #[.agg #[.int .i64 a0_0, .int .i64 a0_1]] rfl J1 ?_; (with_reducible refine (Xae.calls k a0_0 a0_1 false _ A4.out).mono ?_); rintro e w14 ⟨rfl, hb⟩; refine ⟨_, rfl, ?_⟩; replace BK270 := zq (Xh (g := gb270) (o := .cells #[.int .i64 a0_0, .int .i64 a0_1] 40 (0, 0)) (zk BK270.out) hb); replace HB := zq (Xd (zs1 GE270.out) hb); (try clear hb)))
   go_meet
   case rel => exact ⟨_, (true), J4, H', ⟨J31⟩, ⟨J79⟩, ⟨J27⟩⟩
  refine yd H ?_ ?_ <;> clear H <;> rintro c6b0 H
  ·(first | rw [c6b0] | (simp only [Xbd, Xbh]; rw [c6b0]) | skip)
   have H' := zq H
   clear H
   obtain ⟨hcz10_0, hcz10_1, hfz10_0, hfz10_1⟩ := cz2 BK270.out
   go_wp2_with (first | ((with_reducible refine Xg (f := 28) rfl ?_); refine Xt (some 6) rfl rfl Tryd.func28 J8 rfl #[.agg #[.int .i64 a0_0, .int .i64 a0_1]] rfl J1 ?_; (with_reducible refine (Xae.calls k a0_0 a0_1 true _ A4.out).mono ?_); rintro e w11 ⟨rfl, hb⟩; refine ⟨_, rfl, ?_⟩; replace BK270 := zq (Xh (g := gb270) (o := .cells #[.int .i64 a0_0, .int .i64 a0_1] 40 (0, 0)) (zk BK270.out) hb); replace HB := zq (Xd (zs1 GE270.out) hb); (try clear hb); obtain ⟨hcz12_0, hcz12_1, hfz12_0, hfz12_1⟩ := cz2 BK270.out))
   go_meet
   case rel => exact ⟨_, (decide (a0_1 > 18)), J4, H', ⟨J31⟩, ⟨J79⟩, ⟨J27⟩⟩
  (first | rw [c6b0] | (simp only [Xbd, Xbh]; rw [c6b0]) | skip)
  have H' := zq H
  clear H
  obtain ⟨hcz7_0, hcz7_1, hfz7_0, hfz7_1⟩ := cz2 BK270.out
  go_wp2_with (first | ((with_reducible refine Xg (f := 28) rfl ?_); refine Xt (some 6) rfl rfl Tryd.func28 J8 rfl #[.agg #[.int .i64 a0_0, .int .i64 a0_1]] rfl J1 ?_; (with_reducible refine (Xae.calls k a0_0 a0_1 true _ A4.out).mono ?_); rintro e w8 ⟨rfl, hb⟩; refine ⟨_, rfl, ?_⟩; replace BK270 := zq (Xh (g := gb270) (o := .cells #[.int .i64 a0_0, .int .i64 a0_1] 40 (0, 0)) (zk BK270.out) hb); replace HB := zq (Xd (zs1 GE270.out) hb); (try clear hb); obtain ⟨hcz9_0, hcz9_1, hfz9_0, hfz9_1⟩ := cz2 BK270.out))
  go_meet
  case rel => exact ⟨_, (true), J4, H', ⟨J31⟩, ⟨J79⟩, ⟨J27⟩⟩
 case rest =>
  clear HC2
  obtain ⟨kq, x17_1, rfl, HA, HJ1, BK270, HB⟩ := hcut
  cases kq with
  | zero => exact absurd HA.out (by simp [Xr.j0])
  | succ kj1 =>
   have H := HA.out
   clear HA
   simp only [Xr.j0] at H
   refine yC H ?_ ?_ <;> clear H <;> rintro rfl H
   ·obtain ⟨rfl, rfl⟩ := yp2 H
    go_wp2
    go_ret2
    exact ⟨J2, J27⟩
   have H' := zq H
   clear H
   obtain ⟨hcz16_0, hcz16_1, hfz16_0, hfz16_1⟩ := cz2 BK270.out
   go_wp2
   go_loopg [4, 22] kj1 (fun kq v4 v22 w' => ∃ (x4_2 : Int) (x22_2 : Int), v4 = .int .i64 x4_2 ∧ v22 = .int .i64 x22_2 ∧ Aside0 (Xr.l0 kq x4_2 a0_1 x22_2 = some (r1, r2)) ∧ Aside0 (kq ≤ kj1) ∧ Aside0 (w'.heap[gb270]? = some (.cells #[.int .i64 a0_0, .int .i64 a0_1] 40 (0, 0))) ∧ Aside0 (Below w.heap.size w w'))
   case atStart => exact ⟨(a0_0), (0), J4, J4, H', ⟨Nat.le_refl _⟩, ⟨J79⟩, ⟨J27⟩⟩
   case round =>
    clear H'
    try clear hcz16_0
    try clear hcz16_1
    try clear hfz16_0
    try clear hfz16_1
    obtain ⟨x4_2, x22_2, rfl, rfl, HA, HK2, BK270, HB⟩ := hrel
    cases gk with
    | zero => exact absurd HA.out (by simp [Xr.l0])
    | succ k2 =>
     have H := HA.out
     clear HA
     simp only [Xr.l0] at H
     refine yd H ?_ ?_ <;> clear H <;> rintro c17b0 H
     ·obtain ⟨rfl, rfl⟩ := yp2 H
      go_wp2
      go_ret2
      exact ⟨J2, J27⟩
     refine yE H ?_ ?_ <;> clear H <;> rintro ⟨c18b0, c18b1, c18⟩ H
     ·obtain ⟨rfl, rfl⟩ := yp2 H
      go_wp2
      go_ret2
      exact ⟨J2, J27⟩
     clear c18
     have H' := zq H
     clear H
     go_wp2
     go_roundg k2
     case measure => have := HJ1.out; have := HK2.out; omega
     case rel => exact ⟨(wrap64 (x4_2 * 10)), (wrap64 (x22_2 + 1)), J4, J4, H', ⟨J157⟩, ⟨J79⟩, ⟨J27⟩⟩
def Xat.l0 : Nat → List Int → List (S40) → Int → Int → Option (List Int × Bool)
 | 0, _, _, _, _ => none
 | k + 1, x4, x9, x10, x11 => if x11 < x10 then (if 0 ≤ x11 then (if x11 < (x9.length : Int) then ((Xr.f k ((Xv x9 x11).f0) ((Xv x9 x11).f1)).bind fun bt274 => (if bt274.2 = true then (if x4.length < 17592186044416 then (Xat.l0 k (x4 ++ [bt274.1]) x9 x10 (wrap64 (x11 + 1))) else (none)) else (some (([] : List Int), false)))) else (none)) else (none)) else (some (x4, true))
def Xat.f (k : Nat) (l0 : List (S40)) : Option (List Int × Bool) := Xat.l0 k ([] : List Int) l0 (l0.length : Int) 0
theorem Xat.mono_l : ∀ k, (∀ y0 y1 y2 y3, LeO (Xat.l0 k y0 y1 y2 y3) (Xat.l0 (k + 1) y0 y1 y2 y3))
 | 0 => fun _ _ _ _ r h => by simp [Xat.l0] at h
 | k + 1 => by
  have ih0 := Xat.mono_l k
  ·intro y0 y1 y2 y3
   unfold Xat.l0
   have im0 := @Xr.mono
   exact mz3
theorem Xat.mono : ∀ a0 k, LeO (Xat.f k a0) (Xat.f (k + 1) a0) := by
 intro a0 k
 have ih0 := Xat.mono_l k
 unfold Xat.f
 have im0 := @Xr.mono
 exact mz3
set_option maxHeartbeats 8000000 in
set_option maxRecDepth 100000 in
theorem Xat.calls (k : Nat) (A0 : Option Addr) (c0 : Nat) (l0 : List (S40)) (r1 : List Int) (r2 : Bool) (w : World) (hr0 : Kd.C k40 w A0 l0.length l0) (hc0 : l0.length ≤ c0) (h : Xat.f k l0 = some (r1, r2)) :
  Calls Tryd.prog 43 #[.slice A0 l0.length c0] w fun e w' => ∃ v0_ : Value, e = .returned (.tuple #[v0_, .bool r2]) ∧ Kd.R (Kd.int .i64) 3 w' w.heap.size (fun _ => True) v0_ r1 ∧ Below w.heap.size w w' := by
 have hu40 := Tryd.underlying40
 have HR0 := zq hr0
 have HC0 := zq hc0
 clear hr0 hc0
 have HB := zq (Below.refl w.heap.size w)
 unfold Xat.f at h
 have H := h
 clear h
 have H' := zq H
 clear H
 go_enter Tryd.func43, Tryd.ntmps43
 go_wp2
 go_loopg [4, 11] k (fun kq v4 v11 w' => ∃ (x4_1 : List Int) (x11_1 : Int), v11 = .int .i64 x11_1 ∧ Aside0 (Xat.l0 kq x4_1 l0 (l0.length : Int) x11_1 = some (r1, r2)) ∧ Aside0 (kq ≤ k) ∧ Aside0 (Kd.R (Kd.int .i64) 3 w' w.heap.size (fun _ => True) v4 x4_1) ∧ Aside0 (Below w.heap.size w w'))
 case atStart => exact ⟨(([] : List Int)), (0), J4, H', ⟨Nat.le_refl _⟩, ⟨J9⟩, ⟨J0⟩⟩
 case round =>
  clear H'
  obtain ⟨x4_1, x11_1, rfl, HA, HK1, HO_4, HB⟩ := hrel
  cases gk with
  | zero => exact absurd HA.out (by simp [Xat.l0])
  | succ k1 =>
   have H := HA.out
   clear HA
   simp only [Xat.l0] at H
   refine yd H ?_ ?_ <;> clear H <;> rintro c2b0 H
   ·obtain ⟨rfl, rfl⟩ := yp2 H
    go_wp2
    go_ret2
    exact ⟨_, J2, by (with_reducible repeat (first | apply Kd.R_alloc | apply Kd.R_drewN | apply Kd.R_drew)); exact HO_4.out, J0⟩
   refine yj H ?_; clear H; intro c3b0 H
   refine yj H ?_; clear H; intro c4b0 H
   refine yv H ?_; clear H; rintro ⟨t274, t275⟩ A5 H
   dsimp only at H
   refine yB H ?_ ?_ <;> clear H <;> rintro rfl H
   ·obtain ⟨rfl, rfl⟩ := yp2 H
    have p272 : 0 ≤ (x11_1 : Int) := of_decide_eq_true J3
    have q272 : x11_1 < (l0.length : Int) := of_decide_eq_true J3
    obtain ⟨ad272, e272, hx272_0, hx272_1⟩ := Xcf HR0.out x11_1 p272 q272
    cases e272
    replace hx272_0 := yh HB hx272_0
    replace hx272_1 := yh HB hx272_1
    replace p272 := eq_true p272
    replace q272 := eq_true q272
    go_wp2_with (first | ((with_reducible refine Xk (N := 6) rfl ?_); refine bxw 6 40 #[.int .i64 0, .int .i64 0] ?_; intro gb273 hg w12 hbox hb; replace HO_4 := zq (Kd.R_below (zr HO_4.out) hb); have BK273 := zq (hbox); have GE273 := zq ((J12 : w.heap.size ≤ gb273)); replace HB := zq (Xd J0 hb); clear hb hbox hg; obtain ⟨hcz13_0, hcz13_1, hfz13_0, hfz13_1⟩ := cz2 BK273.out) | ((with_reducible refine Xg (f := 31) rfl ?_); refine Xt (some 17) rfl rfl Tryd.func31 J8 rfl #[.agg #[.int .i64 ((Xv l0 x11_1).f0), .int .i64 ((Xv l0 x11_1).f1)]] rfl J1 ?_; (with_reducible refine (Xr.calls k1 ((Xv l0 x11_1).f0) ((Xv l0 x11_1).f1) t274 false _ A5.out).mono ?_); rintro e w14 ⟨rfl, hb⟩; refine ⟨_, rfl, ?_⟩; replace HO_4 := zq (Kd.R_below J89 hb); replace HB := zq (Xd (zs1 GE273.out) hb); (try clear hb); (try clear hk)))
    go_ret2
    exact ⟨_, J2, J9, J131⟩
   refine yi H ?_; clear H; intro c7 H
   have LMc7 := zq c7
   clear c7
   obtain ⟨y276, hy276⟩ : ∃ y_ : List Int, y_ = (x4_1 ++ [t274]) := ⟨_, rfl⟩
   replace H : (Xat.l0 k1 y276 l0 (l0.length : Int) (wrap64 (x11_1 + 1))) = some (r1, r2) := by first | (rw [hy276]; with_reducible exact H) | (have H2_ := (Option.bind_some _ _).symm.trans H; rw [hy276]; with_reducible exact H2_) | (have H2_ := (Option.bind_some _ _).symm.trans H; with_reducible exact H2_) | with_reducible exact H | (rw [hy276]; exact H) | exact H
   have Ny276 := zq hy276
   clear hy276
   have H' := zq H
   clear H
   have p272 : 0 ≤ (x11_1 : Int) := of_decide_eq_true J3
   have q272 : x11_1 < (l0.length : Int) := of_decide_eq_true J3
   obtain ⟨ad272, e272, hx272_0, hx272_1⟩ := Xcf HR0.out x11_1 p272 q272
   cases e272
   replace hx272_0 := yh HB hx272_0
   replace hx272_1 := yh HB hx272_1
   replace p272 := eq_true p272
   replace q272 := eq_true q272
   go_wp2_with (first | ((with_reducible refine Xk (N := 6) rfl ?_); refine bxw 6 40 #[.int .i64 0, .int .i64 0] ?_; intro gb273 hg w8 hbox hb; replace HO_4 := zq (Kd.R_below (zr HO_4.out) hb); have BK273 := zq (hbox); have GE273 := zq ((J12 : w.heap.size ≤ gb273)); replace HB := zq (Xd J0 hb); clear hb hbox hg; obtain ⟨hcz9_0, hcz9_1, hfz9_0, hfz9_1⟩ := cz2 BK273.out) | ((with_reducible refine Xg (f := 31) rfl ?_); refine Xt (some 17) rfl rfl Tryd.func31 J8 rfl #[.agg #[.int .i64 ((Xv l0 x11_1).f0), .int .i64 ((Xv l0 x11_1).f1)]] rfl J1 ?_; (with_reducible refine (Xr.calls k1 ((Xv l0 x11_1).f0) ((Xv l0 x11_1).f1) t274 true _ A5.out).mono ?_); rintro e w10 ⟨rfl, hb⟩; refine ⟨_, rfl, ?_⟩; replace HO_4 := zq (Kd.R_below J89 hb); replace BK273 := zq (Xh (g := gb273) (o := .cells #[.int .i64 ((Xv l0 x11_1).f0), .int .i64 ((Xv l0 x11_1).f1)] 40 (0, 0)) (by (with_reducible repeat (first | refine Xc ?_ _ | refine Xe ?_ | refine Xb ?_ _)); refine Xj (cs := #[.int .i64 ((Xv l0 x11_1).f0), .int .i64 0]) ?_ 1 _ rfl; (with_reducible repeat (first | refine Xc ?_ _ | refine Xe ?_ | refine Xb ?_ _)); refine Xj (cs := #[.int .i64 0, .int .i64 0]) ?_ 0 _ rfl; (with_reducible repeat (first | refine Xc ?_ _ | refine Xe ?_ | refine Xb ?_ _)); exact BK273.out) hb); replace HB := zq (Xd (zs1 GE273.out) hb); (try clear hb); (try clear hk)) | ((with_reducible refine Xbt (b := .append) (xs := #[.tmp 22, .tmp 24]) rfl ?_); at_builtin; refine Kd.R_append (Kd.int .i64) (w0 := w) w.heap.size rfl (.tmp 22) (.tmp 24) 29 3 (.int .i64 0) 8 rfl Tryd.underlying29 info3 rfl J11 J35 u4 x4_1 t274 [.int .i64 t274] (fun _ => True) (fun _ => False) rfl rfl ?aP (fun _ hk => hk.elim) ?aF ?aO ?aB ?aS ?aL ?_; (case aP => exact rfl); (case aB => exact (zs1 GE273.out)); (case aF => exact (fun _ _ => trivial)); (case aO => exact (zr HO_4.out)); (case aS => exact (Xf (zs1 GE273.out))); (case aL => have := LMc7.out; omega); intro v277 w11 ho hb hg hat; rw [← Ny276.out] at ho; replace BK273 := zq (Xb7 (g := gb273) (o := .cells #[.int .i64 ((Xv l0 x11_1).f0), .int .i64 ((Xv l0 x11_1).f1)] 40 (0, 0)) (zk BK273.out) hg (Kd.R_ne HO_4.out BK273.out J11)); replace HB := zq (hb); have HO278 := zq (ho); clear HO_4; clear ho hb hg hat))
   go_roundg k1
   case measure => have := HK1.out; omega
   case rel => exact ⟨(y276), (wrap64 (x11_1 + 1)), J4, H', ⟨J86⟩, ⟨by (with_reducible repeat (first | apply Kd.R_alloc | apply Kd.R_drewN | apply Kd.R_drew)); exact HO278.out⟩, ⟨J131⟩⟩
def Xci.f (a0 : Int) : Option (Bool) := some ((Go.bits .andNot .i64 a0 1) != 0)
set_option maxHeartbeats 8000000 in
set_option maxRecDepth 100000 in
theorem Xci.calls (a0 : Int) (r : Bool) (w : World) (h : Xci.f a0 = some r) :
  Calls Tryd.prog 44 #[.int .i64 a0] w fun e w' => e = .returned (.bool r) ∧ Drawn0 w w' := by
 unfold Xci.f at h
 have H := h
 clear h
 obtain rfl := yo H
 go_enter Tryd.func44, Tryd.ntmps44
 go_wp2
 go_ret
 exact ⟨J4, J5⟩
def Xcs.f (l0 : List (S40)) : Option ((List (S40))) := (some (([] : List (S40)) : List (S40))).bind fun y279 => (if y279.length + l0.length < 8796093022208 then (some (y279 ++ l0)) else (none))
set_option maxHeartbeats 8000000 in
set_option maxRecDepth 100000 in
theorem Xcs.calls (A0 : Option Addr) (c0 : Nat) (l0 : List (S40)) (r : List (S40)) (w : World) (hr0 : Kd.C k40 w A0 l0.length l0) (hc0 : l0.length ≤ c0) (h : Xcs.f l0 = some r) :
  Calls Tryd.prog 45 #[.slice A0 l0.length c0] w fun e w' => ∃ v0_ : Value, e = .returned (v0_) ∧ Kd.R k40 40 w' w.heap.size (fun _ => True) v0_ r ∧ Below w.heap.size w w' := by
 cases A0 with
 | none =>
  obtain rfl : l0 = [] := by
   cases l0 with
   | nil => rfl
   | cons x_ y_ =>
    obtain ⟨ad_, c_, e_, _⟩ := Kd.C_get hr0 z40 0 J35 (by rw [List.length_cons]; omega)
    exact absurd e_ J88
  have hn_ : ∀ W : World, (binOp .eql 30 (.slice none 0 c0) (.slice none 0 0)).run Tryd.prog W = .ok (.bool true) W := fun W => Lib.run_eql_slice_nil W 30 40 none _ c0 0 0 Tryd.underlying30
  rw [show ([] : List (S40)).length = 0 from rfl]
  go_enter Tryd.func45, Tryd.ntmps45
  go_wp2
  go_ret
  obtain rfl : r = [] := by simpa [Xcs.f] using h.symm
  exact ⟨_, rfl, Kd.R_nil _ _ _ _ _, Below.refl _ _⟩
 | some a0_ =>
  have hn_ : ∀ W : World, (binOp .eql 30 (.slice (some a0_) l0.length c0) (.slice none 0 0)).run Tryd.prog W = .ok (.bool false) W := fun W => Lib.run_eql_slice_nil W 30 40 (some a0_) _ c0 0 0 Tryd.underlying30
  have HR0 := zq hr0
  have HC0 := zq hc0
  clear hr0 hc0
  have HB := zq (Below.refl w.heap.size w)
  unfold Xcs.f at h
  have H := h
  clear h
  obtain ⟨y279, hy279⟩ : ∃ y_ : List (S40), y_ = (([] : List (S40))) := ⟨_, rfl⟩
  replace H : (if y279.length + l0.length < 8796093022208 then (some (y279 ++ l0)) else (none)) = some r := by first | (rw [hy279]; with_reducible exact H) | (have H2_ := (Option.bind_some _ _).symm.trans H; rw [hy279]; with_reducible exact H2_) | (have H2_ := (Option.bind_some _ _).symm.trans H; with_reducible exact H2_) | with_reducible exact H | (rw [hy279]; exact H) | exact H
  have Ny279 := zq hy279
  clear hy279
  refine yu H ?_ ?_ <;> clear H <;> rintro c2 H
  ·have LMc2 := zq c2
   clear c2
   obtain ⟨y282, hy282⟩ : ∃ y_ : List (S40), y_ = (y279 ++ l0) := ⟨_, rfl⟩
   replace H : (some y282) = some r := by first | (rw [hy282]; with_reducible exact H) | (have H2_ := (Option.bind_some _ _).symm.trans H; rw [hy282]; with_reducible exact H2_) | (have H2_ := (Option.bind_some _ _).symm.trans H; with_reducible exact H2_) | with_reducible exact H | (rw [hy282]; exact H) | exact H
   have Ny282 := zq hy282
   clear hy282
   obtain rfl := yo H
   go_enter Tryd.func45, Tryd.ntmps45
   go_wp2_with (first | ((with_reducible refine Xk (N := 5) rfl ?_); refine lwR k40 40 5 (xs := ([] : List (S40))) [] Ny279 (Reps.none _ _) ?_; intro v280 w3 ho4 hb; have HO281 := zq (Kd.R_lower ho4 (Xf J0)); replace HB := zq (Xd J0 hb); clear hb ho4) | ((with_reducible refine Xbt (b := .append) (xs := #[.tmp 5, .tmp 6]) rfl ?_); at_builtin; refine Kd.R_append_rows k40 (w0 := w) w.heap.size rfl (.tmp 5) (.tmp 6) 30 40 (.agg #[(.int .i64 0), (.int .i64 0)]) 16 rfl Tryd.underlying30 info40 rfl J11 J35 v280 y279 l0 _ _ _ (fun _ => True) (fun _ => False) rfl rfl ?aO ?aR (fun _ _ h => h) (fun _ h => h.elim) ?aF ?aB ?aS ?aL ?_; (case aR => repeat (first | exact (Kd.C_below HR0.out HB.out) | (with_reducible refine Kd.C_alloc ?_ _) | (with_reducible refine Kd.C_drewN ?_ _) | (with_reducible refine Kd.C_drew ?_))); (case aB => exact J0); (case aF => exact (fun _ _ => trivial)); (case aO => exact (zr HO281.out)); (case aS => exact (Xf J0)); (case aL => have := LMc2.out; omega); intro v283 w5 ho hb hg hat; rw [← Ny282.out] at ho; replace HB := zq (hb); have HO284 := zq (ho); clear HO281; clear ho hb hg hat))
   go_ret
   exact ⟨_, J2, by (with_reducible repeat (first | apply Kd.R_alloc | apply Kd.R_drewN | apply Kd.R_drew)); exact HO284.out, J0⟩
  ·exact absurd H J88
end Go.Proofs.YtfjhiiaahbjaiaaDoor.HSystemFirst
