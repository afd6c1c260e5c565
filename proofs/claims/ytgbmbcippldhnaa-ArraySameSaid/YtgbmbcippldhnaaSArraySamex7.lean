/- What the Go functions of this claim answer, told as functions of numbers and lists, and that other memory stays as it was: words and walks, shortened by a program. -/
import Derived.Test.YtgbmbcippldhnaaSArraySamex0
import Derived.Test.YtgbmbcippldhnaaSArraySamex1
import Derived.Test.YtgbmbcippldhnaaSArraySamex2
import Derived.Test.YtgbmbcippldhnaaSArraySamex6
namespace Go.Proofs.Ytgbmbcippldhnaa.HArraySame
open Go.RowKit Go.Proofs.YtgbmbcippldhnaaW.PrintWords Go.Proofs.YtgbmbcippldhnaaW.PrintLast Go.Proofs.YtgbmbcippldhnaaW.PrintMore
attribute [local go_sem] max2_int min2_int max_two min_two max_three min_three max_four min_four
set_option linter.unusedVariables false
set_option linter.unusedSimpArgs false
attribute [local go_sem high] eqA41
def slices_Equal_int_int.l0 : Nat → List Int → List Int → Int → Int → Option (Bool)
  | 0, _, _, _, _ => none
  | k + 1, x0, x1, x12, x13 => if x13 < x12 then (if 0 ≤ x13 then (if x13 < (x0.length : Int) then (if x13 < (x1.length : Int) then (if (rd x0 x13) = (rd x1 x13) then (slices_Equal_int_int.l0 k x0 x1 x12 (wrap64 (x13 + 1))) else (some false)) else (none)) else (none)) else (none)) else (some true)
def slices_Equal_int_int.f (k : Nat) (l0 : List Int) (l1 : List Int) : Option (Bool) := if (l0.length : Int) = (l1.length : Int) then (slices_Equal_int_int.l0 k l0 l1 (l0.length : Int) 0) else (some false)
theorem slices_Equal_int_int.mono_l : ∀ k, (∀ y0 y1 y2 y3, LeO (slices_Equal_int_int.l0 k y0 y1 y2 y3) (slices_Equal_int_int.l0 (k + 1) y0 y1 y2 y3))
  | 0 => fun _ _ _ _ r h => by simp [slices_Equal_int_int.l0] at h
  | k + 1 => by
    have ih0 := slices_Equal_int_int.mono_l k
    · intro y0 y1 y2 y3
      unfold slices_Equal_int_int.l0
      repeat' first
      | (with_reducible exact ih0 _ _ _ _)
      | (with_reducible exact LeO.refl _)
      | (with_reducible exact LeO.none _)
      | (with_reducible refine LeO.ite ?_ ?_)
      | (with_reducible refine LeO.bind ?_ (fun _ => ?_))
      | exact ih0 _ _ _ _
      | exact LeO.none _
      | refine LeO.ite ?_ ?_
      | refine LeO.bind ?_ (fun _ => ?_)
theorem slices_Equal_int_int.mono : ∀ a0 a1 k, LeO (slices_Equal_int_int.f k a0 a1) (slices_Equal_int_int.f (k + 1) a0 a1) := by
  intro a0 a1 k
  have ih0 := slices_Equal_int_int.mono_l k
  unfold slices_Equal_int_int.f
  repeat' first
      | (with_reducible exact ih0 _ _ _ _)
      | (with_reducible exact LeO.refl _)
      | (with_reducible exact LeO.none _)
      | (with_reducible refine LeO.ite ?_ ?_)
      | (with_reducible refine LeO.bind ?_ (fun _ => ?_))
      | exact ih0 _ _ _ _
      | exact LeO.none _
      | refine LeO.ite ?_ ?_
      | refine LeO.bind ?_ (fun _ => ?_)
set_option maxHeartbeats 8000000 in
set_option maxRecDepth 100000 in
theorem slices_Equal_int_int.calls (k : Nat) (A0 : Option Addr) (c0 : Nat) (l0 : List Int) (A1 : Option Addr) (c1 : Nat) (l1 : List Int) (r : Bool) (w : World) (hr0 : Kd.C (Kd.int .i64) w A0 l0.length l0) (hc0 : l0.length ≤ c0) (hr1 : Kd.C (Kd.int .i64) w A1 l1.length l1) (hc1 : l1.length ≤ c1) (h : slices_Equal_int_int.f k l0 l1 = some r) :
    Calls Try.prog 37 #[.slice A0 l0.length c0, .slice A1 l1.length c1] w fun e w' => e = .returned (.bool r) ∧ Drawn0 w w' := by
  have HR0 := Aside0.mk hr0
  have HC0 := Aside0.mk hc0
  clear hr0 hc0
  have HR1 := Aside0.mk hr1
  have HC1 := Aside0.mk hc1
  clear hr1 hc1
  have H : (if (l0.length : Int) = (l1.length : Int) then (slices_Equal_int_int.l0 k l0 l1 (l0.length : Int) 0) else (some false)) = some r := h
  clear h
  by_cases c3 : (l0.length : Int) = (l1.length : Int)
  rotate_left
  · rw [if_neg c3] at H
    have c3b0 : ((l0.length : Int) == (l1.length : Int)) = false := beq_eq_false_iff_ne.mpr c3
    have c3b1 : ((l0.length : Int) != (l1.length : Int)) = true := bne_iff_ne.mpr c3
    have c3b2 : (l0.length == l1.length) = false := J40
    obtain rfl := Option.some.inj H
    go_enter Try.func37, Try.ntmps37
    go_wp2
    repeat (go_quiet (fail); try go_wp2)
    go_ret
    exact ⟨J5, J6⟩
  rw [if_pos c3] at H
  have c3b0 : ((l0.length : Int) == (l1.length : Int)) = true := beq_iff_eq.mpr c3
  have c3b1 : ((l0.length : Int) != (l1.length : Int)) = false := bne_eq_false_iff_eq.mpr c3
  have c3b2 : (l0.length == l1.length) = true := J40
  clear c3
  have H' := Aside0.mk H
  clear H
  go_enter Try.func37, Try.ntmps37
  go_wp2
  repeat (go_quiet (fail); try go_wp2)
  go_loopg [13] k (fun kq v13 w' => ∃ (x13_1 : Int), v13 = .int .i64 x13_1 ∧ Aside0 (slices_Equal_int_int.l0 kq l0 l1 (l0.length : Int) x13_1 = some r) ∧ Aside0 (kq ≤ k) ∧ Drawn0 w w')
  case atStart => exact ⟨(0), J5, H', ⟨Nat.le_refl _⟩, J6⟩
  case round =>
    clear H'
    try clear c1
    try clear p2
    try clear c3
    try clear c3b0
    try clear c3b1
    try clear c3b2
    obtain ⟨x13_1, rfl, HA, HK1, ⟨m1, rfl⟩⟩ := hrel
    cases gk with
    | zero => exact absurd HA.out (by simp [slices_Equal_int_int.l0])
    | succ k1 =>
      have H := HA.out
      clear HA
      simp only [slices_Equal_int_int.l0] at H
      by_cases c4 : x13_1 < (l0.length : Int)
      rotate_left
      · rw [if_neg c4] at H
        have c4b0 := decide_eq_false c4
        clear c4
        obtain rfl := Option.some.inj H
        go_wp2
        repeat (go_quiet (fail); try go_wp2)
        go_ret
        exact ⟨J5, J6⟩
      rw [if_pos c4] at H
      have c4b0 := decide_eq_true c4
      clear c4
      by_cases c5 : 0 ≤ x13_1
      rotate_left
      · rw [if_neg c5] at H
        exact absurd H J21
      rw [if_pos c5] at H
      have c5b0 := decide_eq_true c5
      clear c5
      by_cases c6 : x13_1 < (l0.length : Int)
      rotate_left
      · rw [if_neg c6] at H
        exact absurd H J21
      rw [if_pos c6] at H
      have c6b0 := decide_eq_true c6
      clear c6
      by_cases c7 : x13_1 < (l1.length : Int)
      rotate_left
      · rw [if_neg c7] at H
        exact absurd H J21
      rw [if_pos c7] at H
      have c7b0 := decide_eq_true c7
      clear c7
      by_cases c8 : (rd l0 x13_1) = (rd l1 x13_1)
      rotate_left
      · rw [if_neg c8] at H
        have c8b0 : ((rd l0 x13_1) == (rd l1 x13_1)) = false := beq_eq_false_iff_ne.mpr c8
        have c8b1 : ((rd l0 x13_1) != (rd l1 x13_1)) = true := bne_iff_ne.mpr c8
        obtain rfl := Option.some.inj H
        have p198 : 0 ≤ (x13_1 : Int) := of_decide_eq_true J2
        have q198 : x13_1 < (l0.length : Int) := of_decide_eq_true J2
        obtain ⟨ad198, e198, hx198_0⟩ := Kd.at_int HR0.out x13_1 p198 q198
        cases e198
        replace p198 := eq_true p198
        replace q198 := eq_true q198
        have p199 : 0 ≤ (x13_1 : Int) := of_decide_eq_true J2
        have q199 : x13_1 < (l1.length : Int) := of_decide_eq_true J2
        obtain ⟨ad199, e199, hx199_0⟩ := Kd.at_int HR1.out x13_1 p199 q199
        cases e199
        replace p199 := eq_true p199
        replace q199 := eq_true q199
        go_wp2
        repeat (go_quiet (fail); try go_wp2)
        go_ret
        exact ⟨J5, J6⟩
      rw [if_pos c8] at H
      have c8b0 : ((rd l0 x13_1) == (rd l1 x13_1)) = true := beq_iff_eq.mpr c8
      have c8b1 : ((rd l0 x13_1) != (rd l1 x13_1)) = false := bne_eq_false_iff_eq.mpr c8
      clear c8
      have H' := Aside0.mk H
      clear H
      have p198 : 0 ≤ (x13_1 : Int) := of_decide_eq_true J2
      have q198 : x13_1 < (l0.length : Int) := of_decide_eq_true J2
      obtain ⟨ad198, e198, hx198_0⟩ := Kd.at_int HR0.out x13_1 p198 q198
      cases e198
      replace p198 := eq_true p198
      replace q198 := eq_true q198
      have p199 : 0 ≤ (x13_1 : Int) := of_decide_eq_true J2
      have q199 : x13_1 < (l1.length : Int) := of_decide_eq_true J2
      obtain ⟨ad199, e199, hx199_0⟩ := Kd.at_int HR1.out x13_1 p199 q199
      cases e199
      replace p199 := eq_true p199
      replace q199 := eq_true q199
      go_wp2
      repeat (go_quiet (fail); try go_wp2)
      go_roundg k1
      case measure => have := HK1.out; omega
      case rel => exact ⟨(wrap64 (x13_1 + 1)), J5, H', ⟨J41⟩, J6⟩
def api_Dec_38.l0 : Nat → List (S41) → List (S41) → Int → Int → Option (Bool)
  | 0, _, _, _, _ => none
  | k + 1, x0, x1, x12, x13 => if x13 < x12 then (if 0 ≤ x13 then (if x13 < (x0.length : Int) then (if x13 < (x1.length : Int) then (if (!(((rd_T41 x0 x13).f0) == ((rd_T41 x1 x13).f0)) || (!(((rd_T41 x0 x13).f1) == ((rd_T41 x1 x13).f1)))) = true then (some false) else (api_Dec_38.l0 k x0 x1 x12 (wrap64 (x13 + 1)))) else (none)) else (none)) else (none)) else (some true)
def api_Dec_38.f (k : Nat) (l0 : List (S41)) (l1 : List (S41)) : Option (Bool) := if (l0.length : Int) = (l1.length : Int) then (api_Dec_38.l0 k l0 l1 (l0.length : Int) 0) else (some false)
theorem api_Dec_38.mono_l : ∀ k, (∀ y0 y1 y2 y3, LeO (api_Dec_38.l0 k y0 y1 y2 y3) (api_Dec_38.l0 (k + 1) y0 y1 y2 y3))
  | 0 => fun _ _ _ _ r h => by simp [api_Dec_38.l0] at h
  | k + 1 => by
    have ih0 := api_Dec_38.mono_l k
    · intro y0 y1 y2 y3
      unfold api_Dec_38.l0
      repeat' first
      | (with_reducible exact ih0 _ _ _ _)
      | (with_reducible exact LeO.refl _)
      | (with_reducible exact LeO.none _)
      | (with_reducible refine LeO.ite ?_ ?_)
      | (with_reducible refine LeO.bind ?_ (fun _ => ?_))
      | exact ih0 _ _ _ _
      | exact LeO.none _
      | refine LeO.ite ?_ ?_
      | refine LeO.bind ?_ (fun _ => ?_)
theorem api_Dec_38.mono : ∀ a0 a1 k, LeO (api_Dec_38.f k a0 a1) (api_Dec_38.f (k + 1) a0 a1) := by
  intro a0 a1 k
  have ih0 := api_Dec_38.mono_l k
  unfold api_Dec_38.f
  repeat' first
      | (with_reducible exact ih0 _ _ _ _)
      | (with_reducible exact LeO.refl _)
      | (with_reducible exact LeO.none _)
      | (with_reducible refine LeO.ite ?_ ?_)
      | (with_reducible refine LeO.bind ?_ (fun _ => ?_))
      | exact ih0 _ _ _ _
      | exact LeO.none _
      | refine LeO.ite ?_ ?_
      | refine LeO.bind ?_ (fun _ => ?_)
set_option maxHeartbeats 8000000 in
set_option maxRecDepth 100000 in
theorem api_Dec_38.calls (k : Nat) (A0 : Option Addr) (c0 : Nat) (l0 : List (S41)) (A1 : Option Addr) (c1 : Nat) (l1 : List (S41)) (r : Bool) (w : World) (hr0 : Kd.C k41 w A0 l0.length l0) (hc0 : l0.length ≤ c0) (hr1 : Kd.C k41 w A1 l1.length l1) (hc1 : l1.length ≤ c1) (h : api_Dec_38.f k l0 l1 = some r) :
    Calls Try.prog 38 #[.slice A0 l0.length c0, .slice A1 l1.length c1] w fun e w' => e = .returned (.bool r) ∧ Drawn0 w w' := by
  have hu41 := Try.underlying41
  have HR0 := Aside0.mk hr0
  have HC0 := Aside0.mk hc0
  clear hr0 hc0
  have HR1 := Aside0.mk hr1
  have HC1 := Aside0.mk hc1
  clear hr1 hc1
  have H : (if (l0.length : Int) = (l1.length : Int) then (api_Dec_38.l0 k l0 l1 (l0.length : Int) 0) else (some false)) = some r := h
  clear h
  by_cases c3 : (l0.length : Int) = (l1.length : Int)
  rotate_left
  · rw [if_neg c3] at H
    have c3b0 : ((l0.length : Int) == (l1.length : Int)) = false := beq_eq_false_iff_ne.mpr c3
    have c3b1 : ((l0.length : Int) != (l1.length : Int)) = true := bne_iff_ne.mpr c3
    have c3b2 : (l0.length == l1.length) = false := J40
    obtain rfl := Option.some.inj H
    go_enter Try.func38, Try.ntmps38
    go_wp2
    repeat (go_quiet (fail); try go_wp2)
    go_ret
    exact ⟨J5, J6⟩
  rw [if_pos c3] at H
  have c3b0 : ((l0.length : Int) == (l1.length : Int)) = true := beq_iff_eq.mpr c3
  have c3b1 : ((l0.length : Int) != (l1.length : Int)) = false := bne_eq_false_iff_eq.mpr c3
  have c3b2 : (l0.length == l1.length) = true := J40
  clear c3
  have H' := Aside0.mk H
  clear H
  go_enter Try.func38, Try.ntmps38
  go_wp2
  repeat (go_quiet (fail); try go_wp2)
  go_loopg [13] k (fun kq v13 w' => ∃ (x13_1 : Int), v13 = .int .i64 x13_1 ∧ Aside0 (api_Dec_38.l0 kq l0 l1 (l0.length : Int) x13_1 = some r) ∧ Aside0 (kq ≤ k) ∧ Drawn0 w w')
  case atStart => exact ⟨(0), J5, H', ⟨Nat.le_refl _⟩, J6⟩
  case round =>
    clear H'
    try clear c1
    try clear p2
    try clear c3
    try clear c3b0
    try clear c3b1
    try clear c3b2
    obtain ⟨x13_1, rfl, HA, HK1, ⟨m1, rfl⟩⟩ := hrel
    cases gk with
    | zero => exact absurd HA.out (by simp [api_Dec_38.l0])
    | succ k1 =>
      have H := HA.out
      clear HA
      simp only [api_Dec_38.l0] at H
      by_cases c4 : x13_1 < (l0.length : Int)
      rotate_left
      · rw [if_neg c4] at H
        have c4b0 := decide_eq_false c4
        clear c4
        obtain rfl := Option.some.inj H
        go_wp2
        repeat (go_quiet (fail); try go_wp2)
        go_ret
        exact ⟨J5, J6⟩
      rw [if_pos c4] at H
      have c4b0 := decide_eq_true c4
      clear c4
      by_cases c5 : 0 ≤ x13_1
      rotate_left
      · rw [if_neg c5] at H
        exact absurd H J21
      rw [if_pos c5] at H
      have c5b0 := decide_eq_true c5
      clear c5
      by_cases c6 : x13_1 < (l0.length : Int)
      rotate_left
      · rw [if_neg c6] at H
        exact absurd H J21
      rw [if_pos c6] at H
      have c6b0 := decide_eq_true c6
      clear c6
      by_cases c7 : x13_1 < (l1.length : Int)
      rotate_left
      · rw [if_neg c7] at H
        exact absurd H J21
      rw [if_pos c7] at H
      have c7b0 := decide_eq_true c7
      clear c7
      by_cases c8 : (!(((rd_T41 l0 x13_1).f0) == ((rd_T41 l1 x13_1).f0)) || (!(((rd_T41 l0 x13_1).f1) == ((rd_T41 l1 x13_1).f1)))) = true
      · rw [if_pos c8] at H
        have c8b0 : (!(((rd_T41 l0 x13_1).f0) == ((rd_T41 l1 x13_1).f0)) || (!(((rd_T41 l0 x13_1).f1) == ((rd_T41 l1 x13_1).f1)))) = true := c8
        clear c8
        obtain rfl := Option.some.inj H
        have p200 : 0 ≤ (x13_1 : Int) := of_decide_eq_true J2
        have q200 : x13_1 < (l0.length : Int) := of_decide_eq_true J2
        obtain ⟨ad200, e200, hx200_0, hx200_1⟩ := at_T41 HR0.out x13_1 p200 q200
        cases e200
        replace p200 := eq_true p200
        replace q200 := eq_true q200
        have p201 : 0 ≤ (x13_1 : Int) := of_decide_eq_true J2
        have q201 : x13_1 < (l1.length : Int) := of_decide_eq_true J2
        obtain ⟨ad201, e201, hx201_0, hx201_1⟩ := at_T41 HR1.out x13_1 p201 q201
        cases e201
        replace p201 := eq_true p201
        replace q201 := eq_true q201
        go_wp2
        repeat (go_quiet (fail); try go_wp2)
        go_ret
        exact ⟨J5, J6⟩
      rw [if_neg c8] at H
      have c8b0 : (!(((rd_T41 l0 x13_1).f0) == ((rd_T41 l1 x13_1).f0)) || (!(((rd_T41 l0 x13_1).f1) == ((rd_T41 l1 x13_1).f1)))) = false := by simpa using c8
      clear c8
      have H' := Aside0.mk H
      clear H
      have p200 : 0 ≤ (x13_1 : Int) := of_decide_eq_true J2
      have q200 : x13_1 < (l0.length : Int) := of_decide_eq_true J2
      obtain ⟨ad200, e200, hx200_0, hx200_1⟩ := at_T41 HR0.out x13_1 p200 q200
      cases e200
      replace p200 := eq_true p200
      replace q200 := eq_true q200
      have p201 : 0 ≤ (x13_1 : Int) := of_decide_eq_true J2
      have q201 : x13_1 < (l1.length : Int) := of_decide_eq_true J2
      obtain ⟨ad201, e201, hx201_0, hx201_1⟩ := at_T41 HR1.out x13_1 p201 q201
      cases e201
      replace p201 := eq_true p201
      replace q201 := eq_true q201
      go_wp2
      repeat (go_quiet (fail); try go_wp2)
      go_roundg k1
      case measure => have := HK1.out; omega
      case rel => exact ⟨(wrap64 (x13_1 + 1)), J5, H', ⟨J41⟩, J6⟩
def array_Same_1.f (k : Nat) (a0_0 : Int) (l0_1 : List Int) (l0_2 : List Int) (l0_3 : List (S41)) (a1_0 : Int) (l1_1 : List Int) (l1_2 : List Int) (l1_3 : List (S41)) : Option (Bool) := if a0_0 = a1_0 then ((slices_Equal_int_int.f k l0_1 l1_1).bind fun t204 => (if t204 = true then ((slices_Equal_int_int.f k l0_2 l1_2).bind fun t205 => (if t205 = true then ((api_Dec_38.f k l0_3 l1_3).bind fun t206 => (some t206)) else (some false))) else (some false))) else (some false)
theorem array_Same_1.mono : ∀ a0 a1 a2 a3 a4 a5 a6 a7 k, LeO (array_Same_1.f k a0 a1 a2 a3 a4 a5 a6 a7) (array_Same_1.f (k + 1) a0 a1 a2 a3 a4 a5 a6 a7) := by
  intro a0 a1 a2 a3 a4 a5 a6 a7 k
  unfold array_Same_1.f
  repeat' first
      | (with_reducible exact api_Dec_38.mono _ _ _)
      | (with_reducible exact slices_Equal_int_int.mono _ _ _)
      | (with_reducible exact LeO.refl _)
      | (with_reducible exact LeO.none _)
      | (with_reducible refine LeO.ite ?_ ?_)
      | (with_reducible refine LeO.bind ?_ (fun _ => ?_))
      | exact api_Dec_38.mono _ _ _
      | exact slices_Equal_int_int.mono _ _ _
      | exact LeO.none _
      | refine LeO.ite ?_ ?_
      | refine LeO.bind ?_ (fun _ => ?_)
set_option maxHeartbeats 8000000 in
set_option maxRecDepth 100000 in
theorem array_Same_1.calls (k : Nat) (a0_0 : Int) (A0_1 : Option Addr) (c0_1 : Nat) (l0_1 : List Int) (A0_2 : Option Addr) (c0_2 : Nat) (l0_2 : List Int) (A0_3 : Option Addr) (c0_3 : Nat) (l0_3 : List (S41)) (a1_0 : Int) (A1_1 : Option Addr) (c1_1 : Nat) (l1_1 : List Int) (A1_2 : Option Addr) (c1_2 : Nat) (l1_2 : List Int) (A1_3 : Option Addr) (c1_3 : Nat) (l1_3 : List (S41)) (r : Bool) (w : World) (hr0_1 : Kd.C (Kd.int .i64) w A0_1 l0_1.length l0_1) (hc0_1 : l0_1.length ≤ c0_1) (hr0_2 : Kd.C (Kd.int .i64) w A0_2 l0_2.length l0_2) (hc0_2 : l0_2.length ≤ c0_2) (hr0_3 : Kd.C k41 w A0_3 l0_3.length l0_3) (hc0_3 : l0_3.length ≤ c0_3) (hr1_1 : Kd.C (Kd.int .i64) w A1_1 l1_1.length l1_1) (hc1_1 : l1_1.length ≤ c1_1) (hr1_2 : Kd.C (Kd.int .i64) w A1_2 l1_2.length l1_2) (hc1_2 : l1_2.length ≤ c1_2) (hr1_3 : Kd.C k41 w A1_3 l1_3.length l1_3) (hc1_3 : l1_3.length ≤ c1_3) (h : array_Same_1.f k a0_0 l0_1 l0_2 l0_3 a1_0 l1_1 l1_2 l1_3 = some r) :
    Calls Try.prog 36 #[.agg #[.int .i64 a0_0, .slice A0_1 l0_1.length c0_1, .slice A0_2 l0_2.length c0_2, .slice A0_3 l0_3.length c0_3], .agg #[.int .i64 a1_0, .slice A1_1 l1_1.length c1_1, .slice A1_2 l1_2.length c1_2, .slice A1_3 l1_3.length c1_3]] w fun e w' => e = .returned (.bool r) ∧ Below w.heap.size w w' := by
  have hu32 := Try.underlying32
  have HR0_1 := Aside0.mk hr0_1
  have HC0_1 := Aside0.mk hc0_1
  clear hr0_1 hc0_1
  have HR0_2 := Aside0.mk hr0_2
  have HC0_2 := Aside0.mk hc0_2
  clear hr0_2 hc0_2
  have HR0_3 := Aside0.mk hr0_3
  have HC0_3 := Aside0.mk hc0_3
  clear hr0_3 hc0_3
  have HR1_1 := Aside0.mk hr1_1
  have HC1_1 := Aside0.mk hc1_1
  clear hr1_1 hc1_1
  have HR1_2 := Aside0.mk hr1_2
  have HC1_2 := Aside0.mk hc1_2
  clear hr1_2 hc1_2
  have HR1_3 := Aside0.mk hr1_3
  have HC1_3 := Aside0.mk hc1_3
  clear hr1_3 hc1_3
  have HB := Aside0.mk (Below.refl w.heap.size w)
  have H : (if a0_0 = a1_0 then ((slices_Equal_int_int.f k l0_1 l1_1).bind fun t204 => (if t204 = true then ((slices_Equal_int_int.f k l0_2 l1_2).bind fun t205 => (if t205 = true then ((api_Dec_38.f k l0_3 l1_3).bind fun t206 => (some t206)) else (some false))) else (some false))) else (some false)) = some r := h
  clear h
  by_cases c3 : a0_0 = a1_0
  rotate_left
  · rw [if_neg c3] at H
    have c3b0 : (a0_0 == a1_0) = false := beq_eq_false_iff_ne.mpr c3
    have c3b1 : (a0_0 != a1_0) = true := bne_iff_ne.mpr c3
    obtain rfl := Option.some.inj H
    go_enter Try.func36, Try.ntmps36
    go_wp2_with (first | ((with_reducible refine gate_dst (N := 2) rfl ?_); refine box_event ?hg (N := 2) ?hd (cs := #[.int .i64 a0_0, .slice A0_1 l0_1.length c0_1, .slice A0_2 l0_2.length c0_2, .slice A0_3 l0_3.length c0_3]) (t := 32) ?hr ?_; (case hd => rfl); (case hg => rfl); (case hr => first | (go_simp; done) | (go_simp; rfl)); intro gb202 hg w24 hbox hb; have n0_ := Aside0.mk (below_step J0 hb); have n1_ := Aside0.mk (hbox); have n2_ := Aside0.mk ((J18 : w.heap.size ≤ gb202)); have n3_ := Aside0.mk ((J18 : w.heap.size ≤ gb202)); clear HB; have HB := n0_; have BK202 := n1_; have GW202 := n2_; have GE202 := n3_; clear n0_ n1_ n2_ n3_; clear hb hbox hg) | ((with_reducible refine gate_dst (N := 3) rfl ?_); refine box_event ?hg (N := 3) ?hd (cs := #[.int .i64 a1_0, .slice A1_1 l1_1.length c1_1, .slice A1_2 l1_2.length c1_2, .slice A1_3 l1_3.length c1_3]) (t := 32) ?hr ?_; (case hd => rfl); (case hg => rfl); (case hr => first | (go_simp; done) | (go_simp; rfl)); intro gb203 hg w25 hbox hb; have n0_ := Aside0.mk (blk_below (g := gb202) (o := .cells #[.int .i64 a0_0, .slice A0_1 l0_1.length c0_1, .slice A0_2 l0_2.length c0_2, .slice A0_3 l0_3.length c0_3] 32 (0, 0)) (zk BK202.out) hb); have n1_ := Aside0.mk (below_step (zs1 GE202.out) hb); have n2_ := Aside0.mk (hbox); have n3_ := Aside0.mk ((J34 : w.heap.size ≤ gb203)); have n4_ := Aside0.mk ((J34 : w.heap.size ≤ gb203)); have n5_ := Aside0.mk ((J24 : gb202 ≠ gb203)); have n6_ := Aside0.mk ((J25 : gb203 ≠ gb202)); clear BK202; clear HB; have BK202 := n0_; have HB := n1_; have BK203 := n2_; have GW203 := n3_; have GE203 := n4_; have NB202_203 := n5_; have NB203_202 := n6_; clear n0_ n1_ n2_ n3_ n4_ n5_ n6_; clear hb hbox hg; have hnb26 := NB202_203.out; have hnc26 := NB203_202.out; have hcz27_0 : w25.cell? ⟨gb202, 0, none⟩ = some (.int .i64 a0_0) := (blk_cell BK202.out 0).trans rfl; have hcz27_1 : w25.cell? ⟨gb202, 1, none⟩ = some (.slice A0_1 l0_1.length c0_1) := (blk_cell BK202.out 1).trans rfl; have hcz27_2 : w25.cell? ⟨gb202, 2, none⟩ = some (.slice A0_2 l0_2.length c0_2) := (blk_cell BK202.out 2).trans rfl; have hcz27_3 : w25.cell? ⟨gb202, 3, none⟩ = some (.slice A0_3 l0_3.length c0_3) := (blk_cell BK202.out 3).trans rfl; have hfz27_0 := blk_frozen BK202.out 0; have hfz27_1 := blk_frozen BK202.out 1; have hfz27_2 := blk_frozen BK202.out 2; have hfz27_3 := blk_frozen BK202.out 3; have hcz28_0 : w25.cell? ⟨gb203, 0, none⟩ = some (.int .i64 a1_0) := (blk_cell BK203.out 0).trans rfl; have hcz28_1 : w25.cell? ⟨gb203, 1, none⟩ = some (.slice A1_1 l1_1.length c1_1) := (blk_cell BK203.out 1).trans rfl; have hcz28_2 : w25.cell? ⟨gb203, 2, none⟩ = some (.slice A1_2 l1_2.length c1_2) := (blk_cell BK203.out 2).trans rfl; have hcz28_3 : w25.cell? ⟨gb203, 3, none⟩ = some (.slice A1_3 l1_3.length c1_3) := (blk_cell BK203.out 3).trans rfl; have hfz28_0 := blk_frozen BK203.out 0; have hfz28_1 := blk_frozen BK203.out 1; have hfz28_2 := blk_frozen BK203.out 2; have hfz28_3 := blk_frozen BK203.out 3))
    go_ret
    exact ⟨J4, J26⟩
  rw [if_pos c3] at H
  have c3b0 : (a0_0 == a1_0) = true := beq_iff_eq.mpr c3
  have c3b1 : (a0_0 != a1_0) = false := bne_eq_false_iff_eq.mpr c3
  clear c3
  replace H := Option.bind_eq_some_iff.mp H
  obtain ⟨t204, A40, H⟩ := H
  have A4 := Aside0.mk A40
  clear A40
  by_cases c5 : t204 = true
  rotate_left
  · replace c5 := Bool.eq_false_iff.mpr c5
    subst c5
    have H1 : (some false) = some r := J7
    clear H
    have H := H1
    clear H1
    obtain rfl := Option.some.inj H
    go_enter Try.func36, Try.ntmps36
    go_wp2_with (first | ((with_reducible refine gate_dst (N := 2) rfl ?_); refine box_event ?hg (N := 2) ?hd (cs := #[.int .i64 a0_0, .slice A0_1 l0_1.length c0_1, .slice A0_2 l0_2.length c0_2, .slice A0_3 l0_3.length c0_3]) (t := 32) ?hr ?_; (case hd => rfl); (case hg => rfl); (case hr => first | (go_simp; done) | (go_simp; rfl)); intro gb202 hg w19 hbox hb; have n0_ := Aside0.mk (below_step J0 hb); have n1_ := Aside0.mk (hbox); have n2_ := Aside0.mk ((J18 : w.heap.size ≤ gb202)); have n3_ := Aside0.mk ((J18 : w.heap.size ≤ gb202)); clear HB; have HB := n0_; have BK202 := n1_; have GW202 := n2_; have GE202 := n3_; clear n0_ n1_ n2_ n3_; clear hb hbox hg) | ((with_reducible refine gate_dst (N := 3) rfl ?_); refine box_event ?hg (N := 3) ?hd (cs := #[.int .i64 a1_0, .slice A1_1 l1_1.length c1_1, .slice A1_2 l1_2.length c1_2, .slice A1_3 l1_3.length c1_3]) (t := 32) ?hr ?_; (case hd => rfl); (case hg => rfl); (case hr => first | (go_simp; done) | (go_simp; rfl)); intro gb203 hg w20 hbox hb; have n0_ := Aside0.mk (blk_below (g := gb202) (o := .cells #[.int .i64 a0_0, .slice A0_1 l0_1.length c0_1, .slice A0_2 l0_2.length c0_2, .slice A0_3 l0_3.length c0_3] 32 (0, 0)) (zk BK202.out) hb); have n1_ := Aside0.mk (below_step (zs1 GE202.out) hb); have n2_ := Aside0.mk (hbox); have n3_ := Aside0.mk ((J34 : w.heap.size ≤ gb203)); have n4_ := Aside0.mk ((J34 : w.heap.size ≤ gb203)); have n5_ := Aside0.mk ((J24 : gb202 ≠ gb203)); have n6_ := Aside0.mk ((J25 : gb203 ≠ gb202)); clear BK202; clear HB; have BK202 := n0_; have HB := n1_; have BK203 := n2_; have GW203 := n3_; have GE203 := n4_; have NB202_203 := n5_; have NB203_202 := n6_; clear n0_ n1_ n2_ n3_ n4_ n5_ n6_; clear hb hbox hg; have hnb21 := NB202_203.out; have hnc21 := NB203_202.out; have hcz22_0 : w20.cell? ⟨gb202, 0, none⟩ = some (.int .i64 a0_0) := (blk_cell BK202.out 0).trans rfl; have hcz22_1 : w20.cell? ⟨gb202, 1, none⟩ = some (.slice A0_1 l0_1.length c0_1) := (blk_cell BK202.out 1).trans rfl; have hcz22_2 : w20.cell? ⟨gb202, 2, none⟩ = some (.slice A0_2 l0_2.length c0_2) := (blk_cell BK202.out 2).trans rfl; have hcz22_3 : w20.cell? ⟨gb202, 3, none⟩ = some (.slice A0_3 l0_3.length c0_3) := (blk_cell BK202.out 3).trans rfl; have hfz22_0 := blk_frozen BK202.out 0; have hfz22_1 := blk_frozen BK202.out 1; have hfz22_2 := blk_frozen BK202.out 2; have hfz22_3 := blk_frozen BK202.out 3; have hcz23_0 : w20.cell? ⟨gb203, 0, none⟩ = some (.int .i64 a1_0) := (blk_cell BK203.out 0).trans rfl; have hcz23_1 : w20.cell? ⟨gb203, 1, none⟩ = some (.slice A1_1 l1_1.length c1_1) := (blk_cell BK203.out 1).trans rfl; have hcz23_2 : w20.cell? ⟨gb203, 2, none⟩ = some (.slice A1_2 l1_2.length c1_2) := (blk_cell BK203.out 2).trans rfl; have hcz23_3 : w20.cell? ⟨gb203, 3, none⟩ = some (.slice A1_3 l1_3.length c1_3) := (blk_cell BK203.out 3).trans rfl; have hfz23_0 := blk_frozen BK203.out 0; have hfz23_1 := blk_frozen BK203.out 1; have hfz23_2 := blk_frozen BK203.out 2; have hfz23_3 := blk_frozen BK203.out 3) | (go_at_call 37; (with_reducible refine (slices_Equal_int_int.calls k _ _ l0_1 _ _ l1_1 false _ ?side1 ?side2 ?side3 ?side4 A4.out).mono ?_); (case side1 => repeat (first | exact (Kd.C_below HR0_1.out HB.out) | (with_reducible refine Kd.C_alloc ?_ _) | (with_reducible refine Kd.C_drewN ?_ _) | (with_reducible refine Kd.C_drew ?_))); (case side2 => exact HC0_1.out); (case side3 => repeat (first | exact (Kd.C_below HR1_1.out HB.out) | (with_reducible refine Kd.C_alloc ?_ _) | (with_reducible refine Kd.C_drewN ?_ _) | (with_reducible refine Kd.C_drew ?_))); (case side4 => exact HC1_1.out); rintro e w' ⟨rfl, ⟨nd, rfl⟩⟩))
    go_ret
    exact ⟨J4, J26⟩
  subst c5
  have H1 : ((slices_Equal_int_int.f k l0_2 l1_2).bind fun t205 => (if t205 = true then ((api_Dec_38.f k l0_3 l1_3).bind fun t206 => (some t206)) else (some false))) = some r := J14
  clear H
  have H := H1
  clear H1
  replace H := Option.bind_eq_some_iff.mp H
  obtain ⟨t205, A60, H⟩ := H
  have A6 := Aside0.mk A60
  clear A60
  by_cases c7 : t205 = true
  rotate_left
  · replace c7 := Bool.eq_false_iff.mpr c7
    subst c7
    have H1 : (some false) = some r := J7
    clear H
    have H := H1
    clear H1
    obtain rfl := Option.some.inj H
    go_enter Try.func36, Try.ntmps36
    go_wp2_with (first | ((with_reducible refine gate_dst (N := 2) rfl ?_); refine box_event ?hg (N := 2) ?hd (cs := #[.int .i64 a0_0, .slice A0_1 l0_1.length c0_1, .slice A0_2 l0_2.length c0_2, .slice A0_3 l0_3.length c0_3]) (t := 32) ?hr ?_; (case hd => rfl); (case hg => rfl); (case hr => first | (go_simp; done) | (go_simp; rfl)); intro gb202 hg w14 hbox hb; have n0_ := Aside0.mk (below_step J0 hb); have n1_ := Aside0.mk (hbox); have n2_ := Aside0.mk ((J18 : w.heap.size ≤ gb202)); have n3_ := Aside0.mk ((J18 : w.heap.size ≤ gb202)); clear HB; have HB := n0_; have BK202 := n1_; have GW202 := n2_; have GE202 := n3_; clear n0_ n1_ n2_ n3_; clear hb hbox hg) | ((with_reducible refine gate_dst (N := 3) rfl ?_); refine box_event ?hg (N := 3) ?hd (cs := #[.int .i64 a1_0, .slice A1_1 l1_1.length c1_1, .slice A1_2 l1_2.length c1_2, .slice A1_3 l1_3.length c1_3]) (t := 32) ?hr ?_; (case hd => rfl); (case hg => rfl); (case hr => first | (go_simp; done) | (go_simp; rfl)); intro gb203 hg w15 hbox hb; have n0_ := Aside0.mk (blk_below (g := gb202) (o := .cells #[.int .i64 a0_0, .slice A0_1 l0_1.length c0_1, .slice A0_2 l0_2.length c0_2, .slice A0_3 l0_3.length c0_3] 32 (0, 0)) (zk BK202.out) hb); have n1_ := Aside0.mk (below_step (zs1 GE202.out) hb); have n2_ := Aside0.mk (hbox); have n3_ := Aside0.mk ((J34 : w.heap.size ≤ gb203)); have n4_ := Aside0.mk ((J34 : w.heap.size ≤ gb203)); have n5_ := Aside0.mk ((J24 : gb202 ≠ gb203)); have n6_ := Aside0.mk ((J25 : gb203 ≠ gb202)); clear BK202; clear HB; have BK202 := n0_; have HB := n1_; have BK203 := n2_; have GW203 := n3_; have GE203 := n4_; have NB202_203 := n5_; have NB203_202 := n6_; clear n0_ n1_ n2_ n3_ n4_ n5_ n6_; clear hb hbox hg; have hnb16 := NB202_203.out; have hnc16 := NB203_202.out; have hcz17_0 : w15.cell? ⟨gb202, 0, none⟩ = some (.int .i64 a0_0) := (blk_cell BK202.out 0).trans rfl; have hcz17_1 : w15.cell? ⟨gb202, 1, none⟩ = some (.slice A0_1 l0_1.length c0_1) := (blk_cell BK202.out 1).trans rfl; have hcz17_2 : w15.cell? ⟨gb202, 2, none⟩ = some (.slice A0_2 l0_2.length c0_2) := (blk_cell BK202.out 2).trans rfl; have hcz17_3 : w15.cell? ⟨gb202, 3, none⟩ = some (.slice A0_3 l0_3.length c0_3) := (blk_cell BK202.out 3).trans rfl; have hfz17_0 := blk_frozen BK202.out 0; have hfz17_1 := blk_frozen BK202.out 1; have hfz17_2 := blk_frozen BK202.out 2; have hfz17_3 := blk_frozen BK202.out 3; have hcz18_0 : w15.cell? ⟨gb203, 0, none⟩ = some (.int .i64 a1_0) := (blk_cell BK203.out 0).trans rfl; have hcz18_1 : w15.cell? ⟨gb203, 1, none⟩ = some (.slice A1_1 l1_1.length c1_1) := (blk_cell BK203.out 1).trans rfl; have hcz18_2 : w15.cell? ⟨gb203, 2, none⟩ = some (.slice A1_2 l1_2.length c1_2) := (blk_cell BK203.out 2).trans rfl; have hcz18_3 : w15.cell? ⟨gb203, 3, none⟩ = some (.slice A1_3 l1_3.length c1_3) := (blk_cell BK203.out 3).trans rfl; have hfz18_0 := blk_frozen BK203.out 0; have hfz18_1 := blk_frozen BK203.out 1; have hfz18_2 := blk_frozen BK203.out 2; have hfz18_3 := blk_frozen BK203.out 3) | (go_at_call 37; (with_reducible refine (slices_Equal_int_int.calls k _ _ l0_1 _ _ l1_1 true _ ?side1 ?side2 ?side3 ?side4 A4.out).mono ?_); (case side1 => repeat (first | exact (Kd.C_below HR0_1.out HB.out) | (with_reducible refine Kd.C_alloc ?_ _) | (with_reducible refine Kd.C_drewN ?_ _) | (with_reducible refine Kd.C_drew ?_))); (case side2 => exact HC0_1.out); (case side3 => repeat (first | exact (Kd.C_below HR1_1.out HB.out) | (with_reducible refine Kd.C_alloc ?_ _) | (with_reducible refine Kd.C_drewN ?_ _) | (with_reducible refine Kd.C_drew ?_))); (case side4 => exact HC1_1.out); rintro e w' ⟨rfl, ⟨nd, rfl⟩⟩) | (go_at_call 37; (with_reducible refine (slices_Equal_int_int.calls k _ _ l0_2 _ _ l1_2 false _ ?side1 ?side2 ?side3 ?side4 A6.out).mono ?_); (case side1 => repeat (first | exact (Kd.C_below HR0_2.out (zs2 GE202.out GE203.out)) | (with_reducible refine Kd.C_alloc ?_ _) | (with_reducible refine Kd.C_drewN ?_ _) | (with_reducible refine Kd.C_drew ?_))); (case side2 => exact HC0_2.out); (case side3 => repeat (first | exact (Kd.C_below HR1_2.out (zs2 GE202.out GE203.out)) | (with_reducible refine Kd.C_alloc ?_ _) | (with_reducible refine Kd.C_drewN ?_ _) | (with_reducible refine Kd.C_drew ?_))); (case side4 => exact HC1_2.out); rintro e w' ⟨rfl, ⟨nd, rfl⟩⟩))
    go_ret
    exact ⟨J4, J26⟩
  subst c7
  have H1 : ((api_Dec_38.f k l0_3 l1_3).bind fun t206 => (some t206)) = some r := J14
  clear H
  have H := H1
  clear H1
  replace H := Option.bind_eq_some_iff.mp H
  obtain ⟨t206, A80, H⟩ := H
  have A8 := Aside0.mk A80
  clear A80
  obtain rfl := Option.some.inj H
  go_enter Try.func36, Try.ntmps36
  go_wp2_with (first | ((with_reducible refine gate_dst (N := 2) rfl ?_); refine box_event ?hg (N := 2) ?hd (cs := #[.int .i64 a0_0, .slice A0_1 l0_1.length c0_1, .slice A0_2 l0_2.length c0_2, .slice A0_3 l0_3.length c0_3]) (t := 32) ?hr ?_; (case hd => rfl); (case hg => rfl); (case hr => first | (go_simp; done) | (go_simp; rfl)); intro gb202 hg w9 hbox hb; have n0_ := Aside0.mk (below_step J0 hb); have n1_ := Aside0.mk (hbox); have n2_ := Aside0.mk ((J18 : w.heap.size ≤ gb202)); have n3_ := Aside0.mk ((J18 : w.heap.size ≤ gb202)); clear HB; have HB := n0_; have BK202 := n1_; have GW202 := n2_; have GE202 := n3_; clear n0_ n1_ n2_ n3_; clear hb hbox hg) | ((with_reducible refine gate_dst (N := 3) rfl ?_); refine box_event ?hg (N := 3) ?hd (cs := #[.int .i64 a1_0, .slice A1_1 l1_1.length c1_1, .slice A1_2 l1_2.length c1_2, .slice A1_3 l1_3.length c1_3]) (t := 32) ?hr ?_; (case hd => rfl); (case hg => rfl); (case hr => first | (go_simp; done) | (go_simp; rfl)); intro gb203 hg w10 hbox hb; have n0_ := Aside0.mk (blk_below (g := gb202) (o := .cells #[.int .i64 a0_0, .slice A0_1 l0_1.length c0_1, .slice A0_2 l0_2.length c0_2, .slice A0_3 l0_3.length c0_3] 32 (0, 0)) (zk BK202.out) hb); have n1_ := Aside0.mk (below_step (zs1 GE202.out) hb); have n2_ := Aside0.mk (hbox); have n3_ := Aside0.mk ((J34 : w.heap.size ≤ gb203)); have n4_ := Aside0.mk ((J34 : w.heap.size ≤ gb203)); have n5_ := Aside0.mk ((J24 : gb202 ≠ gb203)); have n6_ := Aside0.mk ((J25 : gb203 ≠ gb202)); clear BK202; clear HB; have BK202 := n0_; have HB := n1_; have BK203 := n2_; have GW203 := n3_; have GE203 := n4_; have NB202_203 := n5_; have NB203_202 := n6_; clear n0_ n1_ n2_ n3_ n4_ n5_ n6_; clear hb hbox hg; have hnb11 := NB202_203.out; have hnc11 := NB203_202.out; have hcz12_0 : w10.cell? ⟨gb202, 0, none⟩ = some (.int .i64 a0_0) := (blk_cell BK202.out 0).trans rfl; have hcz12_1 : w10.cell? ⟨gb202, 1, none⟩ = some (.slice A0_1 l0_1.length c0_1) := (blk_cell BK202.out 1).trans rfl; have hcz12_2 : w10.cell? ⟨gb202, 2, none⟩ = some (.slice A0_2 l0_2.length c0_2) := (blk_cell BK202.out 2).trans rfl; have hcz12_3 : w10.cell? ⟨gb202, 3, none⟩ = some (.slice A0_3 l0_3.length c0_3) := (blk_cell BK202.out 3).trans rfl; have hfz12_0 := blk_frozen BK202.out 0; have hfz12_1 := blk_frozen BK202.out 1; have hfz12_2 := blk_frozen BK202.out 2; have hfz12_3 := blk_frozen BK202.out 3; have hcz13_0 : w10.cell? ⟨gb203, 0, none⟩ = some (.int .i64 a1_0) := (blk_cell BK203.out 0).trans rfl; have hcz13_1 : w10.cell? ⟨gb203, 1, none⟩ = some (.slice A1_1 l1_1.length c1_1) := (blk_cell BK203.out 1).trans rfl; have hcz13_2 : w10.cell? ⟨gb203, 2, none⟩ = some (.slice A1_2 l1_2.length c1_2) := (blk_cell BK203.out 2).trans rfl; have hcz13_3 : w10.cell? ⟨gb203, 3, none⟩ = some (.slice A1_3 l1_3.length c1_3) := (blk_cell BK203.out 3).trans rfl; have hfz13_0 := blk_frozen BK203.out 0; have hfz13_1 := blk_frozen BK203.out 1; have hfz13_2 := blk_frozen BK203.out 2; have hfz13_3 := blk_frozen BK203.out 3) | (go_at_call 37; (with_reducible refine (slices_Equal_int_int.calls k _ _ l0_1 _ _ l1_1 true _ ?side1 ?side2 ?side3 ?side4 A4.out).mono ?_); (case side1 => repeat (first | exact (Kd.C_below HR0_1.out HB.out) | (with_reducible refine Kd.C_alloc ?_ _) | (with_reducible refine Kd.C_drewN ?_ _) | (with_reducible refine Kd.C_drew ?_))); (case side2 => exact HC0_1.out); (case side3 => repeat (first | exact (Kd.C_below HR1_1.out HB.out) | (with_reducible refine Kd.C_alloc ?_ _) | (with_reducible refine Kd.C_drewN ?_ _) | (with_reducible refine Kd.C_drew ?_))); (case side4 => exact HC1_1.out); rintro e w' ⟨rfl, ⟨nd, rfl⟩⟩) | (go_at_call 37; (with_reducible refine (slices_Equal_int_int.calls k _ _ l0_2 _ _ l1_2 true _ ?side1 ?side2 ?side3 ?side4 A6.out).mono ?_); (case side1 => repeat (first | exact (Kd.C_below HR0_2.out (zs2 GE202.out GE203.out)) | (with_reducible refine Kd.C_alloc ?_ _) | (with_reducible refine Kd.C_drewN ?_ _) | (with_reducible refine Kd.C_drew ?_))); (case side2 => exact HC0_2.out); (case side3 => repeat (first | exact (Kd.C_below HR1_2.out (zs2 GE202.out GE203.out)) | (with_reducible refine Kd.C_alloc ?_ _) | (with_reducible refine Kd.C_drewN ?_ _) | (with_reducible refine Kd.C_drew ?_))); (case side4 => exact HC1_2.out); rintro e w' ⟨rfl, ⟨nd, rfl⟩⟩) | (go_at_call 38; (with_reducible refine (api_Dec_38.calls k _ _ l0_3 _ _ l1_3 t206 _ ?side1 ?side2 ?side3 ?side4 A8.out).mono ?_); (case side1 => repeat (first | exact (Kd.C_below HR0_3.out (zs2 GE202.out GE203.out)) | (with_reducible refine Kd.C_alloc ?_ _) | (with_reducible refine Kd.C_drewN ?_ _) | (with_reducible refine Kd.C_drew ?_))); (case side2 => exact HC0_3.out); (case side3 => repeat (first | exact (Kd.C_below HR1_3.out (zs2 GE202.out GE203.out)) | (with_reducible refine Kd.C_alloc ?_ _) | (with_reducible refine Kd.C_drewN ?_ _) | (with_reducible refine Kd.C_drew ?_))); (case side4 => exact HC1_3.out); rintro e w' ⟨rfl, ⟨nd, rfl⟩⟩))
  go_ret
  exact ⟨J4, J26⟩
def api_Node_35.l0 : Nat → List (S32) → List (S32) → Int → Int → Option (Bool)
  | 0, _, _, _, _ => none
  | k + 1, x1, x15, x16, x17 => if x17 < x16 then (if 0 ≤ x17 then (if x17 < (x15.length : Int) then (if x17 < (x1.length : Int) then ((array_Same_1.f k ((rd_T32 x15 x17).f0) ((rd_T32 x15 x17).f1) ((rd_T32 x15 x17).f2) ((rd_T32 x15 x17).f3) ((rd_T32 x1 x17).f0) ((rd_T32 x1 x17).f1) ((rd_T32 x1 x17).f2) ((rd_T32 x1 x17).f3)).bind fun t211 => (if t211 = true then (api_Node_35.l0 k x1 x15 x16 (wrap64 (x17 + 1))) else (some false))) else (none)) else (none)) else (none)) else (some true)
def api_Node_35.f (k : Nat) (l0 : List (S32)) (l1 : List (S32)) : Option (Bool) := if (l0.length : Int) = (l1.length : Int) then (api_Node_35.l0 k l1 l0 (l0.length : Int) 0) else (some false)
theorem api_Node_35.mono_l : ∀ k, (∀ y0 y1 y2 y3, LeO (api_Node_35.l0 k y0 y1 y2 y3) (api_Node_35.l0 (k + 1) y0 y1 y2 y3))
  | 0 => fun _ _ _ _ r h => by simp [api_Node_35.l0] at h
  | k + 1 => by
    have ih0 := api_Node_35.mono_l k
    · intro y0 y1 y2 y3
      unfold api_Node_35.l0
      repeat' first
      | (with_reducible exact ih0 _ _ _ _)
      | (with_reducible exact array_Same_1.mono _ _ _ _ _ _ _ _ _)
      | (with_reducible exact LeO.refl _)
      | (with_reducible exact LeO.none _)
      | (with_reducible refine LeO.ite ?_ ?_)
      | (with_reducible refine LeO.bind ?_ (fun _ => ?_))
      | exact ih0 _ _ _ _
      | exact array_Same_1.mono _ _ _ _ _ _ _ _ _
      | exact LeO.none _
      | refine LeO.ite ?_ ?_
      | refine LeO.bind ?_ (fun _ => ?_)
theorem api_Node_35.mono : ∀ a0 a1 k, LeO (api_Node_35.f k a0 a1) (api_Node_35.f (k + 1) a0 a1) := by
  intro a0 a1 k
  have ih0 := api_Node_35.mono_l k
  unfold api_Node_35.f
  repeat' first
      | (with_reducible exact ih0 _ _ _ _)
      | (with_reducible exact array_Same_1.mono _ _ _ _ _ _ _ _ _)
      | (with_reducible exact LeO.refl _)
      | (with_reducible exact LeO.none _)
      | (with_reducible refine LeO.ite ?_ ?_)
      | (with_reducible refine LeO.bind ?_ (fun _ => ?_))
      | exact ih0 _ _ _ _
      | exact array_Same_1.mono _ _ _ _ _ _ _ _ _
      | exact LeO.none _
      | refine LeO.ite ?_ ?_
      | refine LeO.bind ?_ (fun _ => ?_)
set_option maxHeartbeats 8000000 in
set_option maxRecDepth 100000 in
theorem api_Node_35.calls (k : Nat) (A0 : Option Addr) (c0 : Nat) (l0 : List (S32)) (A1 : Option Addr) (c1 : Nat) (l1 : List (S32)) (r : Bool) (w : World) (hr0 : Kd.C k32 w A0 l0.length l0) (hc0 : l0.length ≤ c0) (hr1 : Kd.C k32 w A1 l1.length l1) (hc1 : l1.length ≤ c1) (h : api_Node_35.f k l0 l1 = some r) :
    Calls Try.prog 35 #[.slice A0 l0.length c0, .slice A1 l1.length c1, .func (.func 36) #[] #[]] w fun e w' => e = .returned (.bool r) ∧ Below w.heap.size w w' := by
  have hu32 := Try.underlying32
  have HR0 := Aside0.mk hr0
  have HC0 := Aside0.mk hc0
  clear hr0 hc0
  have HR1 := Aside0.mk hr1
  have HC1 := Aside0.mk hc1
  clear hr1 hc1
  have HB := Aside0.mk (Below.refl w.heap.size w)
  have H : (if (l0.length : Int) = (l1.length : Int) then (api_Node_35.l0 k l1 l0 (l0.length : Int) 0) else (some false)) = some r := h
  clear h
  by_cases c3 : (l0.length : Int) = (l1.length : Int)
  rotate_left
  · rw [if_neg c3] at H
    have c3b0 : ((l0.length : Int) == (l1.length : Int)) = false := beq_eq_false_iff_ne.mpr c3
    have c3b1 : ((l0.length : Int) != (l1.length : Int)) = true := bne_iff_ne.mpr c3
    have c3b2 : (l0.length == l1.length) = false := J40
    obtain rfl := Option.some.inj H
    go_enter Try.func35, Try.ntmps35
    go_wp2
    go_ret
    exact ⟨J4, J0⟩
  rw [if_pos c3] at H
  have c3b0 : ((l0.length : Int) == (l1.length : Int)) = true := beq_iff_eq.mpr c3
  have c3b1 : ((l0.length : Int) != (l1.length : Int)) = false := bne_eq_false_iff_eq.mpr c3
  have c3b2 : (l0.length == l1.length) = true := J40
  clear c3
  have H' := Aside0.mk H
  clear H
  go_enter Try.func35, Try.ntmps35
  go_wp2
  go_loopg [17] k (fun kq v17 w' => ∃ (x17_1 : Int), v17 = .int .i64 x17_1 ∧ Aside0 (api_Node_35.l0 kq l1 l0 (l0.length : Int) x17_1 = some r) ∧ Aside0 (kq ≤ k) ∧ Aside0 (Below w.heap.size w w'))
  case atStart => exact ⟨(0), J5, H', ⟨Nat.le_refl _⟩, ⟨J0⟩⟩
  case round =>
    clear H'
    try clear c1
    try clear p2
    try clear c3
    try clear c3b0
    try clear c3b1
    try clear c3b2
    obtain ⟨x17_1, rfl, HA, HK1, HB⟩ := hrel
    cases gk with
    | zero => exact absurd HA.out (by simp [api_Node_35.l0])
    | succ k1 =>
      have H := HA.out
      clear HA
      simp only [api_Node_35.l0] at H
      by_cases c4 : x17_1 < (l0.length : Int)
      rotate_left
      · rw [if_neg c4] at H
        have c4b0 := decide_eq_false c4
        clear c4
        obtain rfl := Option.some.inj H
        go_wp2
        go_ret
        exact ⟨J4, J0⟩
      rw [if_pos c4] at H
      have c4b0 := decide_eq_true c4
      clear c4
      by_cases c5 : 0 ≤ x17_1
      rotate_left
      · rw [if_neg c5] at H
        exact absurd H J21
      rw [if_pos c5] at H
      have c5b0 := decide_eq_true c5
      clear c5
      by_cases c6 : x17_1 < (l0.length : Int)
      rotate_left
      · rw [if_neg c6] at H
        exact absurd H J21
      rw [if_pos c6] at H
      have c6b0 := decide_eq_true c6
      clear c6
      by_cases c7 : x17_1 < (l1.length : Int)
      rotate_left
      · rw [if_neg c7] at H
        exact absurd H J21
      rw [if_pos c7] at H
      have c7b0 := decide_eq_true c7
      clear c7
      replace H := Option.bind_eq_some_iff.mp H
      obtain ⟨t211, A80, H⟩ := H
      have A8 := Aside0.mk A80
      clear A80
      by_cases c9 : t211 = true
      rotate_left
      · replace c9 := Bool.eq_false_iff.mpr c9
        subst c9
        have H1 : (some false) = some r := J7
        clear H
        have H := H1
        clear H1
        obtain rfl := Option.some.inj H
        have p207 : 0 ≤ (x17_1 : Int) := of_decide_eq_true J2
        have q207 : x17_1 < (l0.length : Int) := of_decide_eq_true J2
        obtain ⟨ad207, A207_1, c207_1, A207_2, c207_2, A207_3, c207_3, e207, hx207_0, hx207_1, hx207_2, hx207_3, hl207_1, hi207_1, hl207_2, hi207_2, hl207_3, hi207_3⟩ := at_T32 HR0.out x17_1 p207 q207
        cases e207
        replace hx207_0 := (HB.out.cell (World.block_lt_of_cell? w _ hx207_0)).trans hx207_0
        replace hx207_1 := (HB.out.cell (World.block_lt_of_cell? w _ hx207_1)).trans hx207_1
        replace hx207_2 := (HB.out.cell (World.block_lt_of_cell? w _ hx207_2)).trans hx207_2
        replace hx207_3 := (HB.out.cell (World.block_lt_of_cell? w _ hx207_3)).trans hx207_3
        have HR207_1 := Aside0.mk hi207_1
        have HC207_1 := Aside0.mk hl207_1
        clear hi207_1 hl207_1
        have HR207_2 := Aside0.mk hi207_2
        have HC207_2 := Aside0.mk hl207_2
        clear hi207_2 hl207_2
        have HR207_3 := Aside0.mk hi207_3
        have HC207_3 := Aside0.mk hl207_3
        clear hi207_3 hl207_3
        replace p207 := eq_true p207
        replace q207 := eq_true q207
        go_wp2_with (first | ((with_reducible refine gate_dst (N := 8) rfl ?_); refine box_event ?hg (N := 8) ?hd (cs := #[.int .i64 0, .slice none 0 0, .slice none 0 0, .slice none 0 0]) (t := 32) ?hr ?_; (case hd => rfl); (case hg => rfl); (case hr => first | (go_simp; done) | (go_simp; rfl)); intro gb208 hg w17 hbox hb; have n0_ := Aside0.mk (below_step J0 hb); have n1_ := Aside0.mk (hbox); have n2_ := Aside0.mk ((J18 : w.heap.size ≤ gb208)); have n3_ := Aside0.mk ((J18 : w.heap.size ≤ gb208)); clear HB; have HB := n0_; have BK208 := n1_; have GW208 := n2_; have GE208 := n3_; clear n0_ n1_ n2_ n3_; clear hb hbox hg; have hcz18_0 : w17.cell? ⟨gb208, 0, none⟩ = some (.int .i64 0) := (blk_cell BK208.out 0).trans rfl; have hcz18_1 : w17.cell? ⟨gb208, 1, none⟩ = some (.slice none 0 0) := (blk_cell BK208.out 1).trans rfl; have hcz18_2 : w17.cell? ⟨gb208, 2, none⟩ = some (.slice none 0 0) := (blk_cell BK208.out 2).trans rfl; have hcz18_3 : w17.cell? ⟨gb208, 3, none⟩ = some (.slice none 0 0) := (blk_cell BK208.out 3).trans rfl; have hfz18_0 := blk_frozen BK208.out 0; have hfz18_1 := blk_frozen BK208.out 1; have hfz18_2 := blk_frozen BK208.out 2; have hfz18_3 := blk_frozen BK208.out 3; have p209 : 0 ≤ (x17_1 : Int) := of_decide_eq_true J2; have q209 : x17_1 < (l1.length : Int) := of_decide_eq_true J2; obtain ⟨ad209, A209_1, c209_1, A209_2, c209_2, A209_3, c209_3, e209, hx209_0, hx209_1, hx209_2, hx209_3, hl209_1, hi209_1, hl209_2, hi209_2, hl209_3, hi209_3⟩ := at_T32 HR1.out x17_1 p209 q209; cases e209; have hn209_0 : ad209.block ≠ gb208 := Nat.ne_of_lt (Nat.lt_of_lt_of_le J22 GW208.out); have hn209_1 : ad209.block ≠ gb208 := Nat.ne_of_lt (Nat.lt_of_lt_of_le J22 GW208.out); have hn209_2 : ad209.block ≠ gb208 := Nat.ne_of_lt (Nat.lt_of_lt_of_le J22 GW208.out); have hn209_3 : ad209.block ≠ gb208 := Nat.ne_of_lt (Nat.lt_of_lt_of_le J22 GW208.out); replace hx209_0 := (HB.out.cell (World.block_lt_of_cell? w _ hx209_0)).trans hx209_0; replace hx209_1 := (HB.out.cell (World.block_lt_of_cell? w _ hx209_1)).trans hx209_1; replace hx209_2 := (HB.out.cell (World.block_lt_of_cell? w _ hx209_2)).trans hx209_2; replace hx209_3 := (HB.out.cell (World.block_lt_of_cell? w _ hx209_3)).trans hx209_3; have HR209_1 := Aside0.mk hi209_1; have HC209_1 := Aside0.mk hl209_1; clear hi209_1 hl209_1; have HR209_2 := Aside0.mk hi209_2; have HC209_2 := Aside0.mk hl209_2; clear hi209_2 hl209_2; have HR209_3 := Aside0.mk hi209_3; have HC209_3 := Aside0.mk hl209_3; clear hi209_3 hl209_3; replace hx209_0 := (cell_far (p := ⟨gb208, 0, none⟩) (zb hn209_0) (.int .i64 ((rd_T32 l0 x17_1).f0))).trans hx209_0; replace hx209_1 := (cell_far (p := ⟨gb208, 0, none⟩) (zb hn209_0) (.int .i64 ((rd_T32 l0 x17_1).f0))).trans hx209_1; replace hx209_2 := (cell_far (p := ⟨gb208, 0, none⟩) (zb hn209_0) (.int .i64 ((rd_T32 l0 x17_1).f0))).trans hx209_2; replace hx209_3 := (cell_far (p := ⟨gb208, 0, none⟩) (zb hn209_0) (.int .i64 ((rd_T32 l0 x17_1).f0))).trans hx209_3; replace hx209_0 := (cell_far (p := ⟨gb208, 1, none⟩) (zb hn209_1) (.slice A207_1 ((rd_T32 l0 x17_1).f1).length c207_1)).trans hx209_0; replace hx209_1 := (cell_far (p := ⟨gb208, 1, none⟩) (zb hn209_1) (.slice A207_1 ((rd_T32 l0 x17_1).f1).length c207_1)).trans hx209_1; replace hx209_2 := (cell_far (p := ⟨gb208, 1, none⟩) (zb hn209_1) (.slice A207_1 ((rd_T32 l0 x17_1).f1).length c207_1)).trans hx209_2; replace hx209_3 := (cell_far (p := ⟨gb208, 1, none⟩) (zb hn209_1) (.slice A207_1 ((rd_T32 l0 x17_1).f1).length c207_1)).trans hx209_3; replace hx209_0 := (cell_far (p := ⟨gb208, 2, none⟩) (zb hn209_2) (.slice A207_2 ((rd_T32 l0 x17_1).f2).length c207_2)).trans hx209_0; replace hx209_1 := (cell_far (p := ⟨gb208, 2, none⟩) (zb hn209_2) (.slice A207_2 ((rd_T32 l0 x17_1).f2).length c207_2)).trans hx209_1; replace hx209_2 := (cell_far (p := ⟨gb208, 2, none⟩) (zb hn209_2) (.slice A207_2 ((rd_T32 l0 x17_1).f2).length c207_2)).trans hx209_2; replace hx209_3 := (cell_far (p := ⟨gb208, 2, none⟩) (zb hn209_2) (.slice A207_2 ((rd_T32 l0 x17_1).f2).length c207_2)).trans hx209_3; replace hx209_0 := (cell_far (p := ⟨gb208, 3, none⟩) (zb hn209_3) (.slice A207_3 ((rd_T32 l0 x17_1).f3).length c207_3)).trans hx209_0; replace hx209_1 := (cell_far (p := ⟨gb208, 3, none⟩) (zb hn209_3) (.slice A207_3 ((rd_T32 l0 x17_1).f3).length c207_3)).trans hx209_1; replace hx209_2 := (cell_far (p := ⟨gb208, 3, none⟩) (zb hn209_3) (.slice A207_3 ((rd_T32 l0 x17_1).f3).length c207_3)).trans hx209_2; replace hx209_3 := (cell_far (p := ⟨gb208, 3, none⟩) (zb hn209_3) (.slice A207_3 ((rd_T32 l0 x17_1).f3).length c207_3)).trans hx209_3; clear hn209_0; clear hn209_1; clear hn209_2; clear hn209_3; replace p209 := eq_true p209; replace q209 := eq_true q209) | ((with_reducible refine gate_dst (N := 9) rfl ?_); refine box_event ?hg (N := 9) ?hd (cs := #[.int .i64 0, .slice none 0 0, .slice none 0 0, .slice none 0 0]) (t := 32) ?hr ?_; (case hd => rfl); (case hg => rfl); (case hr => first | (go_simp; done) | (go_simp; rfl)); intro gb210 hg w19 hbox hb; have n0_ := Aside0.mk (blk_below (g := gb208) (o := .cells #[.int .i64 ((rd_T32 l0 x17_1).f0), .slice A207_1 ((rd_T32 l0 x17_1).f1).length c207_1, .slice A207_2 ((rd_T32 l0 x17_1).f2).length c207_2, .slice A207_3 ((rd_T32 l0 x17_1).f3).length c207_3] 32 (0, 0)) J3 hb); have n1_ := Aside0.mk (below_step (zs1 GE208.out) hb); have n2_ := Aside0.mk (hbox); have n3_ := Aside0.mk ((J64 : w.heap.size ≤ gb210)); have n4_ := Aside0.mk ((J64 : w.heap.size ≤ gb210)); have n5_ := Aside0.mk ((J35 : gb208 ≠ gb210)); have n6_ := Aside0.mk ((J36 : gb210 ≠ gb208)); clear BK208; clear HB; have BK208 := n0_; have HB := n1_; have BK210 := n2_; have GW210 := n3_; have GE210 := n4_; have NB208_210 := n5_; have NB210_208 := n6_; clear n0_ n1_ n2_ n3_ n4_ n5_ n6_; clear hb hbox hg; have hnb20 := NB210_208.out; have hnc20 := NB208_210.out; have hcz21_0 : w19.cell? ⟨gb210, 0, none⟩ = some (.int .i64 0) := (blk_cell BK210.out 0).trans rfl; have hcz21_1 : w19.cell? ⟨gb210, 1, none⟩ = some (.slice none 0 0) := (blk_cell BK210.out 1).trans rfl; have hcz21_2 : w19.cell? ⟨gb210, 2, none⟩ = some (.slice none 0 0) := (blk_cell BK210.out 2).trans rfl; have hcz21_3 : w19.cell? ⟨gb210, 3, none⟩ = some (.slice none 0 0) := (blk_cell BK210.out 3).trans rfl; have hfz21_0 := blk_frozen BK210.out 0; have hfz21_1 := blk_frozen BK210.out 1; have hfz21_2 := blk_frozen BK210.out 2; have hfz21_3 := blk_frozen BK210.out 3; have hcz22_0 : w19.cell? ⟨gb208, 0, none⟩ = some (.int .i64 ((rd_T32 l0 x17_1).f0)) := (blk_cell BK208.out 0).trans rfl; have hcz22_1 : w19.cell? ⟨gb208, 1, none⟩ = some (.slice A207_1 ((rd_T32 l0 x17_1).f1).length c207_1) := (blk_cell BK208.out 1).trans rfl; have hcz22_2 : w19.cell? ⟨gb208, 2, none⟩ = some (.slice A207_2 ((rd_T32 l0 x17_1).f2).length c207_2) := (blk_cell BK208.out 2).trans rfl; have hcz22_3 : w19.cell? ⟨gb208, 3, none⟩ = some (.slice A207_3 ((rd_T32 l0 x17_1).f3).length c207_3) := (blk_cell BK208.out 3).trans rfl; have hfz22_0 := blk_frozen BK208.out 0; have hfz22_1 := blk_frozen BK208.out 1; have hfz22_2 := blk_frozen BK208.out 2; have hfz22_3 := blk_frozen BK208.out 3) | ((with_reducible refine gate_dst (N := 29) rfl ?_); refine goesLv_ (some 29) rfl rfl Try.func36 J8 rfl #[.agg #[.int .i64 ((rd_T32 l0 x17_1).f0), .slice A207_1 ((rd_T32 l0 x17_1).f1).length c207_1, .slice A207_2 ((rd_T32 l0 x17_1).f2).length c207_2, .slice A207_3 ((rd_T32 l0 x17_1).f3).length c207_3], .agg #[.int .i64 ((rd_T32 l1 x17_1).f0), .slice A209_1 ((rd_T32 l1 x17_1).f1).length c209_1, .slice A209_2 ((rd_T32 l1 x17_1).f2).length c209_2, .slice A209_3 ((rd_T32 l1 x17_1).f3).length c209_3]] (.tmp 26) rfl rfl J1 ?_; (with_reducible refine (array_Same_1.calls k1 ((rd_T32 l0 x17_1).f0) _ _ ((rd_T32 l0 x17_1).f1) _ _ ((rd_T32 l0 x17_1).f2) _ _ ((rd_T32 l0 x17_1).f3) ((rd_T32 l1 x17_1).f0) _ _ ((rd_T32 l1 x17_1).f1) _ _ ((rd_T32 l1 x17_1).f2) _ _ ((rd_T32 l1 x17_1).f3) false _ ?side1 ?side2 ?side3 ?side4 ?side5 ?side6 ?side7 ?side8 ?side9 ?side10 ?side11 ?side12 A8.out).mono ?_); (case side1 => exact Kd.C_below HR207_1.out (zs2 GE208.out GE210.out)); (case side2 => exact HC207_1.out); (case side3 => exact Kd.C_below HR207_2.out (zs2 GE208.out GE210.out)); (case side4 => exact HC207_2.out); (case side5 => exact Kd.C_below HR207_3.out (zs2 GE208.out GE210.out)); (case side6 => exact HC207_3.out); (case side7 => exact Kd.C_below HR209_1.out (zs2 GE208.out GE210.out)); (case side8 => exact HC209_1.out); (case side9 => exact Kd.C_below HR209_2.out (zs2 GE208.out GE210.out)); (case side10 => exact HC209_2.out); (case side11 => exact Kd.C_below HR209_3.out (zs2 GE208.out GE210.out)); (case side12 => exact HC209_3.out); rintro e w23 ⟨rfl, hb⟩; refine ⟨_, rfl, ?_⟩; have n0_ := Aside0.mk (blk_below (g := gb208) (o := .cells #[.int .i64 ((rd_T32 l0 x17_1).f0), .slice A207_1 ((rd_T32 l0 x17_1).f1).length c207_1, .slice A207_2 ((rd_T32 l0 x17_1).f2).length c207_2, .slice A207_3 ((rd_T32 l0 x17_1).f3).length c207_3] 32 (0, 0)) J20 hb); have n1_ := Aside0.mk (blk_below (g := gb210) (o := .cells #[.int .i64 ((rd_T32 l1 x17_1).f0), .slice A209_1 ((rd_T32 l1 x17_1).f1).length c209_1, .slice A209_2 ((rd_T32 l1 x17_1).f2).length c209_2, .slice A209_3 ((rd_T32 l1 x17_1).f3).length c209_3] 32 (0, 0)) J16 hb); have n2_ := Aside0.mk (below_step (zs2 GE208.out GE210.out) hb); clear BK208; clear BK210; clear HB; have BK208 := n0_; have BK210 := n1_; have HB := n2_; clear n0_ n1_ n2_; (try clear hb); (try clear hb2); (try clear hk); (try clear hi)))
        go_ret
        exact ⟨J4, J49⟩
      subst c9
      have H1 : (api_Node_35.l0 k1 l1 l0 (l0.length : Int) (wrap64 (x17_1 + 1))) = some r := J14
      clear H
      have H := H1
      clear H1
      have H' := Aside0.mk H
      clear H
      have p207 : 0 ≤ (x17_1 : Int) := of_decide_eq_true J2
      have q207 : x17_1 < (l0.length : Int) := of_decide_eq_true J2
      obtain ⟨ad207, A207_1, c207_1, A207_2, c207_2, A207_3, c207_3, e207, hx207_0, hx207_1, hx207_2, hx207_3, hl207_1, hi207_1, hl207_2, hi207_2, hl207_3, hi207_3⟩ := at_T32 HR0.out x17_1 p207 q207
      cases e207
      replace hx207_0 := (HB.out.cell (World.block_lt_of_cell? w _ hx207_0)).trans hx207_0
      replace hx207_1 := (HB.out.cell (World.block_lt_of_cell? w _ hx207_1)).trans hx207_1
      replace hx207_2 := (HB.out.cell (World.block_lt_of_cell? w _ hx207_2)).trans hx207_2
      replace hx207_3 := (HB.out.cell (World.block_lt_of_cell? w _ hx207_3)).trans hx207_3
      have HR207_1 := Aside0.mk hi207_1
      have HC207_1 := Aside0.mk hl207_1
      clear hi207_1 hl207_1
      have HR207_2 := Aside0.mk hi207_2
      have HC207_2 := Aside0.mk hl207_2
      clear hi207_2 hl207_2
      have HR207_3 := Aside0.mk hi207_3
      have HC207_3 := Aside0.mk hl207_3
      clear hi207_3 hl207_3
      replace p207 := eq_true p207
      replace q207 := eq_true q207
      go_wp2_with (first | ((with_reducible refine gate_dst (N := 8) rfl ?_); refine box_event ?hg (N := 8) ?hd (cs := #[.int .i64 0, .slice none 0 0, .slice none 0 0, .slice none 0 0]) (t := 32) ?hr ?_; (case hd => rfl); (case hg => rfl); (case hr => first | (go_simp; done) | (go_simp; rfl)); intro gb208 hg w10 hbox hb; have n0_ := Aside0.mk (below_step J0 hb); have n1_ := Aside0.mk (hbox); have n2_ := Aside0.mk ((J18 : w.heap.size ≤ gb208)); have n3_ := Aside0.mk ((J18 : w.heap.size ≤ gb208)); clear HB; have HB := n0_; have BK208 := n1_; have GW208 := n2_; have GE208 := n3_; clear n0_ n1_ n2_ n3_; clear hb hbox hg; have hcz11_0 : w10.cell? ⟨gb208, 0, none⟩ = some (.int .i64 0) := (blk_cell BK208.out 0).trans rfl; have hcz11_1 : w10.cell? ⟨gb208, 1, none⟩ = some (.slice none 0 0) := (blk_cell BK208.out 1).trans rfl; have hcz11_2 : w10.cell? ⟨gb208, 2, none⟩ = some (.slice none 0 0) := (blk_cell BK208.out 2).trans rfl; have hcz11_3 : w10.cell? ⟨gb208, 3, none⟩ = some (.slice none 0 0) := (blk_cell BK208.out 3).trans rfl; have hfz11_0 := blk_frozen BK208.out 0; have hfz11_1 := blk_frozen BK208.out 1; have hfz11_2 := blk_frozen BK208.out 2; have hfz11_3 := blk_frozen BK208.out 3; have p209 : 0 ≤ (x17_1 : Int) := of_decide_eq_true J2; have q209 : x17_1 < (l1.length : Int) := of_decide_eq_true J2; obtain ⟨ad209, A209_1, c209_1, A209_2, c209_2, A209_3, c209_3, e209, hx209_0, hx209_1, hx209_2, hx209_3, hl209_1, hi209_1, hl209_2, hi209_2, hl209_3, hi209_3⟩ := at_T32 HR1.out x17_1 p209 q209; cases e209; have hn209_0 : ad209.block ≠ gb208 := Nat.ne_of_lt (Nat.lt_of_lt_of_le J22 GW208.out); have hn209_1 : ad209.block ≠ gb208 := Nat.ne_of_lt (Nat.lt_of_lt_of_le J22 GW208.out); have hn209_2 : ad209.block ≠ gb208 := Nat.ne_of_lt (Nat.lt_of_lt_of_le J22 GW208.out); have hn209_3 : ad209.block ≠ gb208 := Nat.ne_of_lt (Nat.lt_of_lt_of_le J22 GW208.out); replace hx209_0 := (HB.out.cell (World.block_lt_of_cell? w _ hx209_0)).trans hx209_0; replace hx209_1 := (HB.out.cell (World.block_lt_of_cell? w _ hx209_1)).trans hx209_1; replace hx209_2 := (HB.out.cell (World.block_lt_of_cell? w _ hx209_2)).trans hx209_2; replace hx209_3 := (HB.out.cell (World.block_lt_of_cell? w _ hx209_3)).trans hx209_3; have HR209_1 := Aside0.mk hi209_1; have HC209_1 := Aside0.mk hl209_1; clear hi209_1 hl209_1; have HR209_2 := Aside0.mk hi209_2; have HC209_2 := Aside0.mk hl209_2; clear hi209_2 hl209_2; have HR209_3 := Aside0.mk hi209_3; have HC209_3 := Aside0.mk hl209_3; clear hi209_3 hl209_3; replace hx209_0 := (cell_far (p := ⟨gb208, 0, none⟩) (zb hn209_0) (.int .i64 ((rd_T32 l0 x17_1).f0))).trans hx209_0; replace hx209_1 := (cell_far (p := ⟨gb208, 0, none⟩) (zb hn209_0) (.int .i64 ((rd_T32 l0 x17_1).f0))).trans hx209_1; replace hx209_2 := (cell_far (p := ⟨gb208, 0, none⟩) (zb hn209_0) (.int .i64 ((rd_T32 l0 x17_1).f0))).trans hx209_2; replace hx209_3 := (cell_far (p := ⟨gb208, 0, none⟩) (zb hn209_0) (.int .i64 ((rd_T32 l0 x17_1).f0))).trans hx209_3; replace hx209_0 := (cell_far (p := ⟨gb208, 1, none⟩) (zb hn209_1) (.slice A207_1 ((rd_T32 l0 x17_1).f1).length c207_1)).trans hx209_0; replace hx209_1 := (cell_far (p := ⟨gb208, 1, none⟩) (zb hn209_1) (.slice A207_1 ((rd_T32 l0 x17_1).f1).length c207_1)).trans hx209_1; replace hx209_2 := (cell_far (p := ⟨gb208, 1, none⟩) (zb hn209_1) (.slice A207_1 ((rd_T32 l0 x17_1).f1).length c207_1)).trans hx209_2; replace hx209_3 := (cell_far (p := ⟨gb208, 1, none⟩) (zb hn209_1) (.slice A207_1 ((rd_T32 l0 x17_1).f1).length c207_1)).trans hx209_3; replace hx209_0 := (cell_far (p := ⟨gb208, 2, none⟩) (zb hn209_2) (.slice A207_2 ((rd_T32 l0 x17_1).f2).length c207_2)).trans hx209_0; replace hx209_1 := (cell_far (p := ⟨gb208, 2, none⟩) (zb hn209_2) (.slice A207_2 ((rd_T32 l0 x17_1).f2).length c207_2)).trans hx209_1; replace hx209_2 := (cell_far (p := ⟨gb208, 2, none⟩) (zb hn209_2) (.slice A207_2 ((rd_T32 l0 x17_1).f2).length c207_2)).trans hx209_2; replace hx209_3 := (cell_far (p := ⟨gb208, 2, none⟩) (zb hn209_2) (.slice A207_2 ((rd_T32 l0 x17_1).f2).length c207_2)).trans hx209_3; replace hx209_0 := (cell_far (p := ⟨gb208, 3, none⟩) (zb hn209_3) (.slice A207_3 ((rd_T32 l0 x17_1).f3).length c207_3)).trans hx209_0; replace hx209_1 := (cell_far (p := ⟨gb208, 3, none⟩) (zb hn209_3) (.slice A207_3 ((rd_T32 l0 x17_1).f3).length c207_3)).trans hx209_1; replace hx209_2 := (cell_far (p := ⟨gb208, 3, none⟩) (zb hn209_3) (.slice A207_3 ((rd_T32 l0 x17_1).f3).length c207_3)).trans hx209_2; replace hx209_3 := (cell_far (p := ⟨gb208, 3, none⟩) (zb hn209_3) (.slice A207_3 ((rd_T32 l0 x17_1).f3).length c207_3)).trans hx209_3; clear hn209_0; clear hn209_1; clear hn209_2; clear hn209_3; replace p209 := eq_true p209; replace q209 := eq_true q209) | ((with_reducible refine gate_dst (N := 9) rfl ?_); refine box_event ?hg (N := 9) ?hd (cs := #[.int .i64 0, .slice none 0 0, .slice none 0 0, .slice none 0 0]) (t := 32) ?hr ?_; (case hd => rfl); (case hg => rfl); (case hr => first | (go_simp; done) | (go_simp; rfl)); intro gb210 hg w12 hbox hb; have n0_ := Aside0.mk (blk_below (g := gb208) (o := .cells #[.int .i64 ((rd_T32 l0 x17_1).f0), .slice A207_1 ((rd_T32 l0 x17_1).f1).length c207_1, .slice A207_2 ((rd_T32 l0 x17_1).f2).length c207_2, .slice A207_3 ((rd_T32 l0 x17_1).f3).length c207_3] 32 (0, 0)) J3 hb); have n1_ := Aside0.mk (below_step (zs1 GE208.out) hb); have n2_ := Aside0.mk (hbox); have n3_ := Aside0.mk ((J64 : w.heap.size ≤ gb210)); have n4_ := Aside0.mk ((J64 : w.heap.size ≤ gb210)); have n5_ := Aside0.mk ((J35 : gb208 ≠ gb210)); have n6_ := Aside0.mk ((J36 : gb210 ≠ gb208)); clear BK208; clear HB; have BK208 := n0_; have HB := n1_; have BK210 := n2_; have GW210 := n3_; have GE210 := n4_; have NB208_210 := n5_; have NB210_208 := n6_; clear n0_ n1_ n2_ n3_ n4_ n5_ n6_; clear hb hbox hg; have hnb13 := NB210_208.out; have hnc13 := NB208_210.out; have hcz14_0 : w12.cell? ⟨gb210, 0, none⟩ = some (.int .i64 0) := (blk_cell BK210.out 0).trans rfl; have hcz14_1 : w12.cell? ⟨gb210, 1, none⟩ = some (.slice none 0 0) := (blk_cell BK210.out 1).trans rfl; have hcz14_2 : w12.cell? ⟨gb210, 2, none⟩ = some (.slice none 0 0) := (blk_cell BK210.out 2).trans rfl; have hcz14_3 : w12.cell? ⟨gb210, 3, none⟩ = some (.slice none 0 0) := (blk_cell BK210.out 3).trans rfl; have hfz14_0 := blk_frozen BK210.out 0; have hfz14_1 := blk_frozen BK210.out 1; have hfz14_2 := blk_frozen BK210.out 2; have hfz14_3 := blk_frozen BK210.out 3; have hcz15_0 : w12.cell? ⟨gb208, 0, none⟩ = some (.int .i64 ((rd_T32 l0 x17_1).f0)) := (blk_cell BK208.out 0).trans rfl; have hcz15_1 : w12.cell? ⟨gb208, 1, none⟩ = some (.slice A207_1 ((rd_T32 l0 x17_1).f1).length c207_1) := (blk_cell BK208.out 1).trans rfl; have hcz15_2 : w12.cell? ⟨gb208, 2, none⟩ = some (.slice A207_2 ((rd_T32 l0 x17_1).f2).length c207_2) := (blk_cell BK208.out 2).trans rfl; have hcz15_3 : w12.cell? ⟨gb208, 3, none⟩ = some (.slice A207_3 ((rd_T32 l0 x17_1).f3).length c207_3) := (blk_cell BK208.out 3).trans rfl; have hfz15_0 := blk_frozen BK208.out 0; have hfz15_1 := blk_frozen BK208.out 1; have hfz15_2 := blk_frozen BK208.out 2; have hfz15_3 := blk_frozen BK208.out 3) | ((with_reducible refine gate_dst (N := 29) rfl ?_); refine goesLv_ (some 29) rfl rfl Try.func36 J8 rfl #[.agg #[.int .i64 ((rd_T32 l0 x17_1).f0), .slice A207_1 ((rd_T32 l0 x17_1).f1).length c207_1, .slice A207_2 ((rd_T32 l0 x17_1).f2).length c207_2, .slice A207_3 ((rd_T32 l0 x17_1).f3).length c207_3], .agg #[.int .i64 ((rd_T32 l1 x17_1).f0), .slice A209_1 ((rd_T32 l1 x17_1).f1).length c209_1, .slice A209_2 ((rd_T32 l1 x17_1).f2).length c209_2, .slice A209_3 ((rd_T32 l1 x17_1).f3).length c209_3]] (.tmp 26) rfl rfl J1 ?_; (with_reducible refine (array_Same_1.calls k1 ((rd_T32 l0 x17_1).f0) _ _ ((rd_T32 l0 x17_1).f1) _ _ ((rd_T32 l0 x17_1).f2) _ _ ((rd_T32 l0 x17_1).f3) ((rd_T32 l1 x17_1).f0) _ _ ((rd_T32 l1 x17_1).f1) _ _ ((rd_T32 l1 x17_1).f2) _ _ ((rd_T32 l1 x17_1).f3) true _ ?side1 ?side2 ?side3 ?side4 ?side5 ?side6 ?side7 ?side8 ?side9 ?side10 ?side11 ?side12 A8.out).mono ?_); (case side1 => exact Kd.C_below HR207_1.out (zs2 GE208.out GE210.out)); (case side2 => exact HC207_1.out); (case side3 => exact Kd.C_below HR207_2.out (zs2 GE208.out GE210.out)); (case side4 => exact HC207_2.out); (case side5 => exact Kd.C_below HR207_3.out (zs2 GE208.out GE210.out)); (case side6 => exact HC207_3.out); (case side7 => exact Kd.C_below HR209_1.out (zs2 GE208.out GE210.out)); (case side8 => exact HC209_1.out); (case side9 => exact Kd.C_below HR209_2.out (zs2 GE208.out GE210.out)); (case side10 => exact HC209_2.out); (case side11 => exact Kd.C_below HR209_3.out (zs2 GE208.out GE210.out)); (case side12 => exact HC209_3.out); rintro e w16 ⟨rfl, hb⟩; refine ⟨_, rfl, ?_⟩; have n0_ := Aside0.mk (blk_below (g := gb208) (o := .cells #[.int .i64 ((rd_T32 l0 x17_1).f0), .slice A207_1 ((rd_T32 l0 x17_1).f1).length c207_1, .slice A207_2 ((rd_T32 l0 x17_1).f2).length c207_2, .slice A207_3 ((rd_T32 l0 x17_1).f3).length c207_3] 32 (0, 0)) J20 hb); have n1_ := Aside0.mk (blk_below (g := gb210) (o := .cells #[.int .i64 ((rd_T32 l1 x17_1).f0), .slice A209_1 ((rd_T32 l1 x17_1).f1).length c209_1, .slice A209_2 ((rd_T32 l1 x17_1).f2).length c209_2, .slice A209_3 ((rd_T32 l1 x17_1).f3).length c209_3] 32 (0, 0)) J16 hb); have n2_ := Aside0.mk (below_step (zs2 GE208.out GE210.out) hb); clear BK208; clear BK210; clear HB; have BK208 := n0_; have BK210 := n1_; have HB := n2_; clear n0_ n1_ n2_; (try clear hb); (try clear hb2); (try clear hk); (try clear hi)))
      go_roundg k1
      case measure => have := HK1.out; omega
      case rel => exact ⟨(wrap64 (x17_1 + 1)), J5, H', ⟨J41⟩, ⟨J49⟩⟩
def array_Same.f (k : Nat) (l0 : List (S32)) (l1 : List (S32)) : Option (Bool) := (api_Node_35.f k l0 l1).bind fun t212 => (some t212)
theorem array_Same.mono : ∀ a0 a1 k, LeO (array_Same.f k a0 a1) (array_Same.f (k + 1) a0 a1) := by
  intro a0 a1 k
  unfold array_Same.f
  repeat' first
      | (with_reducible exact api_Node_35.mono _ _ _)
      | (with_reducible exact LeO.refl _)
      | (with_reducible exact LeO.none _)
      | (with_reducible refine LeO.ite ?_ ?_)
      | (with_reducible refine LeO.bind ?_ (fun _ => ?_))
      | exact api_Node_35.mono _ _ _
      | exact LeO.none _
      | refine LeO.ite ?_ ?_
      | refine LeO.bind ?_ (fun _ => ?_)
set_option maxHeartbeats 8000000 in
set_option maxRecDepth 100000 in
theorem array_Same.calls (k : Nat) (A0 : Option Addr) (c0 : Nat) (l0 : List (S32)) (A1 : Option Addr) (c1 : Nat) (l1 : List (S32)) (r : Bool) (w : World) (hr0 : Kd.C k32 w A0 l0.length l0) (hc0 : l0.length ≤ c0) (hr1 : Kd.C k32 w A1 l1.length l1) (hc1 : l1.length ≤ c1) (h : array_Same.f k l0 l1 = some r) :
    Calls Try.prog 24 #[.slice A0 l0.length c0, .slice A1 l1.length c1] w fun e w' => e = .returned (.bool r) ∧ Below w.heap.size w w' := by
  have HR0 := Aside0.mk hr0
  have HC0 := Aside0.mk hc0
  clear hr0 hc0
  have HR1 := Aside0.mk hr1
  have HC1 := Aside0.mk hc1
  clear hr1 hc1
  have HB := Aside0.mk (Below.refl w.heap.size w)
  have H : ((api_Node_35.f k l0 l1).bind fun t212 => (some t212)) = some r := h
  clear h
  replace H := Option.bind_eq_some_iff.mp H
  obtain ⟨t212, A30, H⟩ := H
  have A3 := Aside0.mk A30
  clear A30
  obtain rfl := Option.some.inj H
  go_enter Try.func24, Try.ntmps24
  go_wp2_with (first | ((with_reducible refine gate_callee (f := 35) rfl ?_); refine goesL_ (some 7) rfl rfl Try.func35 J8 rfl #[.slice A0 l0.length c0, .slice A1 l1.length c1, .func (.func 36) #[] #[]] rfl J1 ?_; (with_reducible refine (api_Node_35.calls k _ _ l0 _ _ l1 t212 _ ?side1 ?side2 ?side3 ?side4 A3.out).mono ?_); (case side1 => repeat (first | exact HR0.out | (with_reducible refine Kd.C_alloc ?_ _) | (with_reducible refine Kd.C_drewN ?_ _) | (with_reducible refine Kd.C_drew ?_))); (case side2 => exact HC0.out); (case side3 => repeat (first | exact HR1.out | (with_reducible refine Kd.C_alloc ?_ _) | (with_reducible refine Kd.C_drewN ?_ _) | (with_reducible refine Kd.C_drew ?_))); (case side4 => exact HC1.out); rintro e w4 ⟨rfl, hb⟩; refine ⟨_, rfl, ?_⟩; have n0_ := Aside0.mk (below_step J0 hb); clear HB; have HB := n0_; clear n0_; (try clear hb); (try clear hb2); (try clear hk); (try clear hi)))
  go_ret
  exact ⟨J4, J0⟩
def api_Node_42.l0 : Nat → List (List (S32)) → Int → Int → Option (Bool)
  | 0, _, _, _ => none
  | k + 1, x7, x8, x9 => if x9 < x8 then (if 0 ≤ x9 then (if x9 < (x7.length : Int) then ((array_Right.f k (rd_L5 x7 x9)).bind fun t214 => (if t214 = true then (api_Node_42.l0 k x7 x8 (wrap64 (x9 + 1))) else (some true))) else (none)) else (none)) else (some false)
def api_Node_42.f (k : Nat) (l0 : List (List (S32))) : Option (Bool) := api_Node_42.l0 k l0 (l0.length : Int) 0
theorem api_Node_42.mono_l : ∀ k, (∀ y0 y1 y2, LeO (api_Node_42.l0 k y0 y1 y2) (api_Node_42.l0 (k + 1) y0 y1 y2))
  | 0 => fun _ _ _ r h => by simp [api_Node_42.l0] at h
  | k + 1 => by
    have ih0 := api_Node_42.mono_l k
    · intro y0 y1 y2
      unfold api_Node_42.l0
      repeat' first
      | (with_reducible exact ih0 _ _ _)
      | (with_reducible exact array_Right.mono _ _)
      | (with_reducible exact LeO.refl _)
      | (with_reducible exact LeO.none _)
      | (with_reducible refine LeO.ite ?_ ?_)
      | (with_reducible refine LeO.bind ?_ (fun _ => ?_))
      | exact ih0 _ _ _
      | exact array_Right.mono _ _
      | exact LeO.none _
      | refine LeO.ite ?_ ?_
      | refine LeO.bind ?_ (fun _ => ?_)
theorem api_Node_42.mono : ∀ a0 k, LeO (api_Node_42.f k a0) (api_Node_42.f (k + 1) a0) := by
  intro a0 k
  have ih0 := api_Node_42.mono_l k
  unfold api_Node_42.f
  repeat' first
      | (with_reducible exact ih0 _ _ _)
      | (with_reducible exact array_Right.mono _ _)
      | (with_reducible exact LeO.refl _)
      | (with_reducible exact LeO.none _)
      | (with_reducible refine LeO.ite ?_ ?_)
      | (with_reducible refine LeO.bind ?_ (fun _ => ?_))
      | exact ih0 _ _ _
      | exact array_Right.mono _ _
      | exact LeO.none _
      | refine LeO.ite ?_ ?_
      | refine LeO.bind ?_ (fun _ => ?_)
set_option maxHeartbeats 8000000 in
set_option maxRecDepth 100000 in
theorem api_Node_42.calls (k : Nat) (A0 : Option Addr) (c0 : Nat) (l0 : List (List (S32))) (r : Bool) (w : World) (hr0 : Kd.C (Kd.slice 32 k32) w A0 l0.length l0) (hc0 : l0.length ≤ c0) (h : api_Node_42.f k l0 = some r) :
    Calls Try.prog 42 #[.slice A0 l0.length c0, .func (.func 14) #[] #[]] w fun e w' => e = .returned (.bool r) ∧ Below w.heap.size w w' := by
  have HR0 := Aside0.mk hr0
  have HC0 := Aside0.mk hc0
  clear hr0 hc0
  have HB := Aside0.mk (Below.refl w.heap.size w)
  have H : (api_Node_42.l0 k l0 (l0.length : Int) 0) = some r := h
  clear h
  have H' := Aside0.mk H
  clear H
  go_enter Try.func42, Try.ntmps42
  go_wp2
  go_loopg [9] k (fun kq v9 w' => ∃ (x9_1 : Int), v9 = .int .i64 x9_1 ∧ Aside0 (api_Node_42.l0 kq l0 (l0.length : Int) x9_1 = some r) ∧ Aside0 (kq ≤ k) ∧ Aside0 (Below w.heap.size w w'))
  case atStart => exact ⟨(0), J5, H', ⟨Nat.le_refl _⟩, ⟨J0⟩⟩
  case round =>
    clear H'
    obtain ⟨x9_1, rfl, HA, HK1, HB⟩ := hrel
    cases gk with
    | zero => exact absurd HA.out (by simp [api_Node_42.l0])
    | succ k1 =>
      have H := HA.out
      clear HA
      simp only [api_Node_42.l0] at H
      by_cases c2 : x9_1 < (l0.length : Int)
      rotate_left
      · rw [if_neg c2] at H
        have c2b0 := decide_eq_false c2
        clear c2
        obtain rfl := Option.some.inj H
        go_wp2
        go_ret
        exact ⟨J4, J0⟩
      rw [if_pos c2] at H
      have c2b0 := decide_eq_true c2
      clear c2
      by_cases c3 : 0 ≤ x9_1
      rotate_left
      · rw [if_neg c3] at H
        exact absurd H J21
      rw [if_pos c3] at H
      have c3b0 := decide_eq_true c3
      clear c3
      by_cases c4 : x9_1 < (l0.length : Int)
      rotate_left
      · rw [if_neg c4] at H
        exact absurd H J21
      rw [if_pos c4] at H
      have c4b0 := decide_eq_true c4
      clear c4
      replace H := Option.bind_eq_some_iff.mp H
      obtain ⟨t214, A50, H⟩ := H
      have A5 := Aside0.mk A50
      clear A50
      by_cases c6 : t214 = true
      rotate_left
      · replace c6 := Bool.eq_false_iff.mpr c6
        subst c6
        have H1 : (some true) = some r := J7
        clear H
        have H := H1
        clear H1
        obtain rfl := Option.some.inj H
        have p213 : 0 ≤ (x9_1 : Int) := of_decide_eq_true J2
        have q213 : x9_1 < (l0.length : Int) := of_decide_eq_true J2
        obtain ⟨ad213, A213_0, c213_0, e213, hx213_0, hl213_0, hi213_0⟩ := at_L5 HR0.out x9_1 p213 q213
        cases e213
        replace hx213_0 := (HB.out.cell (World.block_lt_of_cell? w _ hx213_0)).trans hx213_0
        have HR213_0 := Aside0.mk hi213_0
        have HC213_0 := Aside0.mk hl213_0
        clear hi213_0 hl213_0
        replace p213 := eq_true p213
        replace q213 := eq_true q213
        go_wp2_with (first | ((with_reducible refine gate_dst (N := 15) rfl ?_); refine goesLv_ (some 15) rfl rfl Try.func14 J8 rfl #[.slice A213_0 (rd_L5 l0 x9_1).length c213_0] (.tmp 13) rfl rfl J1 ?_; (with_reducible refine (array_Right.calls k1 _ _ (rd_L5 l0 x9_1) false _ ?side1 ?side2 A5.out).mono ?_); (case side1 => repeat (first | exact (Kd.C_below HR213_0.out HB.out) | (with_reducible refine Kd.C_alloc ?_ _) | (with_reducible refine Kd.C_drewN ?_ _) | (with_reducible refine Kd.C_drew ?_))); (case side2 => exact HC213_0.out); rintro e w8 ⟨rfl, hb⟩; refine ⟨_, rfl, ?_⟩; have n0_ := Aside0.mk (below_step J0 hb); clear HB; have HB := n0_; clear n0_; (try clear hb); (try clear hb2); (try clear hk); (try clear hi)))
        go_ret
        exact ⟨J4, J0⟩
      subst c6
      have H1 : (api_Node_42.l0 k1 l0 (l0.length : Int) (wrap64 (x9_1 + 1))) = some r := J14
      clear H
      have H := H1
      clear H1
      have H' := Aside0.mk H
      clear H
      have p213 : 0 ≤ (x9_1 : Int) := of_decide_eq_true J2
      have q213 : x9_1 < (l0.length : Int) := of_decide_eq_true J2
      obtain ⟨ad213, A213_0, c213_0, e213, hx213_0, hl213_0, hi213_0⟩ := at_L5 HR0.out x9_1 p213 q213
      cases e213
      replace hx213_0 := (HB.out.cell (World.block_lt_of_cell? w _ hx213_0)).trans hx213_0
      have HR213_0 := Aside0.mk hi213_0
      have HC213_0 := Aside0.mk hl213_0
      clear hi213_0 hl213_0
      replace p213 := eq_true p213
      replace q213 := eq_true q213
      go_wp2_with (first | ((with_reducible refine gate_dst (N := 15) rfl ?_); refine goesLv_ (some 15) rfl rfl Try.func14 J8 rfl #[.slice A213_0 (rd_L5 l0 x9_1).length c213_0] (.tmp 13) rfl rfl J1 ?_; (with_reducible refine (array_Right.calls k1 _ _ (rd_L5 l0 x9_1) true _ ?side1 ?side2 A5.out).mono ?_); (case side1 => repeat (first | exact (Kd.C_below HR213_0.out HB.out) | (with_reducible refine Kd.C_alloc ?_ _) | (with_reducible refine Kd.C_drewN ?_ _) | (with_reducible refine Kd.C_drew ?_))); (case side2 => exact HC213_0.out); rintro e w7 ⟨rfl, hb⟩; refine ⟨_, rfl, ?_⟩; have n0_ := Aside0.mk (below_step J0 hb); clear HB; have HB := n0_; clear n0_; (try clear hb); (try clear hb2); (try clear hk); (try clear hi)))
      go_roundg k1
      case measure => have := HK1.out; omega
      case rel => exact ⟨(wrap64 (x9_1 + 1)), J5, H', ⟨J41⟩, ⟨J0⟩⟩
def api_Node_49.f (a1 : Int) : Option (List (S32)) := if 0 ≤ a1 ∧ a1.toNat * 80 ≤ 140737488355328 then some [] else none
set_option maxHeartbeats 8000000 in
set_option maxRecDepth 100000 in
theorem api_Node_49.calls (a1 : Int) (r : List (S32)) (w : World) (h : api_Node_49.f a1 = some r) :
    Calls Try.prog 49 #[.slice none 0 0, .int .i64 a1] w fun e w' => ∃ v0_ : Value, e = .returned (v0_) ∧ Kd.N k32 32 w' w.heap.size (fun k_ => w.heap.size ≤ k_) v0_ r ∧ Below w.heap.size w w' := by
  unfold api_Node_49.f at h
  by_cases h0 : 0 ≤ a1 ∧ a1.toNat * 80 ≤ 140737488355328
  · rw [if_pos h0] at h
    obtain rfl := Option.some.inj h
    clear h
    have H0 := Aside0.mk h0
    have n1 : decide (a1 < 0) = false := decide_eq_false J28
    obtain ⟨i0_, hi0_, _, hsz_, _⟩ := info_parts info32
    have hcutA := cut_to (P := Try.prog) 22 32 .i64 Try.underlying22 hi0_ none 0 0 0 J17 J17 J17
    simp only [Int.toNat_zero] at hcutA
    have HS := Aside0.mk (show wrap64 a1 = a1 by unfold wrap64; omega)
    by_cases hp : 0 < a1
    · have p1 : decide (0 < wrap64 a1) = true := by rw [HS.out]; exact decide_eq_true hp
      have HP := Aside0.mk hp
      clear hp
      clear h0
      go_enter Try.func49, Try.ntmps49
      go_wp2_with (first | ((with_reducible refine gate_builtin (b := .append) (xs := #[.tmp 20, .tmp 21]) rfl ?_); at_builtin; refine Kd.R_append_zeros k32 (w0 := w) w.heap.size rfl (.tmp 20) (.tmp 21) 22 3 32 (.agg #[(.int .i64 0), (.slice none 0 0), (.slice none 0 0), (.slice none 0 0)]) 80 rfl Try.underlying22 Try.underlying3 info32 rfl J17 J28 (.slice none 0 0) [] z32 (wrap64 a1) (fun k_ => w.heap.size ≤ k_) rfl rfl (k32_mkM _ _ _ z32 (Kd.R_nil _ _ _ _ _) (Kd.R_nil _ _ _ _ _) (Kd.R_nil _ _ _ _ _)) (fun _ hk => hk) (Kd.R_nil _ _ _ _ _) (by rw [HS.out]; exact Int.le_of_lt HP.out) (Below.refl _ _) (Nat.le_refl _) ?aL ?_; (case aL => rw [show (([] : List (S32)).length) = 0 from rfl, Nat.zero_add, HS.out]; exact H0.out.2); intro v1 w1 ho hb hg hat; obtain ⟨A1, c1, e1⟩ := Kd.R_slice ho; subst e1; have HO := Aside0.mk ho; have HB := Aside0.mk hb; have hcap := (Kd.R_reads' ho).2.1; clear ho hb hg hat; have hcutB := cut_to (P := Try.prog) 22 32 .i64 Try.underlying22 hi0_ A1 _ c1 0 J17 J28 hcap; simp only [Int.toNat_zero] at hcutB; clear hcap))
      go_ret
      exact ⟨_, rfl, Kd.R_N (Kd.R_take HO.out (Nat.zero_le _)), HB.out⟩
    · have p1 : decide (0 < wrap64 a1) = false := by rw [HS.out]; exact decide_eq_false hp
      clear hp
      clear h0
      go_enter Try.func49, Try.ntmps49
      go_wp2
      go_ret
      exact ⟨_, rfl, Kd.R_N (Kd.R_nil _ _ _ _ _), Below.refl _ _⟩
  · rw [if_neg h0] at h
    cases h
end Go.Proofs.Ytgbmbcippldhnaa.HArraySame
