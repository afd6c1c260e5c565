/- What the Go functions of this claim answer, told as functions of numbers and lists, and that other memory stays as it was: words and walks, shortened by a program. -/
import Derived.Test.YtgbmbcippldhnaaSArraySamex0
import Derived.Test.YtgbmbcippldhnaaSArraySamex2
namespace Go.Proofs.Ytgbmbcippldhnaa.HArraySame
open Go.RowKit Go.Proofs.YtgbmbcippldhnaaW.PrintWords Go.Proofs.YtgbmbcippldhnaaW.PrintLast Go.Proofs.YtgbmbcippldhnaaW.PrintMore
attribute [local go_sem] max2_int min2_int max_two min_two max_three min_three max_four min_four
set_option linter.unusedVariables false
set_option linter.unusedSimpArgs false
mutual
def shape_Count.j0 : Nat → List Int → Bool → Option (Int × Bool)
  | 0, _, _ => none
  | k + 1, x0, x8 => if x8 = true then (some (0, false)) else ((slices_Contains_int_int.f k x0 0).bind fun t125 => (if t125 = true then (some (0, true)) else (shape_Count.l0 k 1 x0 (x0.length : Int) 0)))
def shape_Count.l0 : Nat → Int → List Int → Int → Int → Option (Int × Bool)
  | 0, _, _, _, _ => none
  | k + 1, x5, x20, x21, x22 => if x22 < x21 then (if 0 ≤ x22 then (if x22 < (x20.length : Int) then ((shape_Count_1.f (wrap64 (x5 * (rd x20 x22)))).bind fun t127 => (if t127 = true then (some (0, false)) else (shape_Count.l0 k (wrap64 (x5 * (rd x20 x22))) x20 x21 (wrap64 (x22 + 1))))) else (none)) else (none)) else (some (x5, true))
end
def shape_Count.f (k : Nat) (l0 : List Int) : Option (Int × Bool) := if (l0.length : Int) > 16 then (shape_Count.j0 k l0 true) else ((slices_ContainsFunc_int_int.f k l0).bind fun t124 => (shape_Count.j0 k l0 t124))
theorem shape_Count.mono_l : ∀ k, (∀ y0 y1, LeO (shape_Count.j0 k y0 y1) (shape_Count.j0 (k + 1) y0 y1)) ∧ (∀ y0 y1 y2 y3, LeO (shape_Count.l0 k y0 y1 y2 y3) (shape_Count.l0 (k + 1) y0 y1 y2 y3))
  | 0 => ⟨fun _ _ r h => by simp [shape_Count.j0] at h, fun _ _ _ _ r h => by simp [shape_Count.l0] at h⟩
  | k + 1 => by
    obtain ⟨ih0, ih1⟩ := shape_Count.mono_l k
    refine ⟨?_, ?_⟩
    · intro y0 y1
      unfold shape_Count.j0
      repeat' first
      | (with_reducible exact ih0 _ _)
      | (with_reducible exact ih1 _ _ _ _)
      | (with_reducible exact slices_ContainsFunc_int_int.mono _ _)
      | (with_reducible exact slices_Contains_int_int.mono _ _ _)
      | (with_reducible exact LeO.refl _)
      | (with_reducible exact LeO.none _)
      | (with_reducible refine LeO.ite ?_ ?_)
      | (with_reducible refine LeO.bind ?_ (fun _ => ?_))
      | exact ih0 _ _
      | exact ih1 _ _ _ _
      | exact slices_ContainsFunc_int_int.mono _ _
      | exact slices_Contains_int_int.mono _ _ _
      | exact LeO.none _
      | refine LeO.ite ?_ ?_
      | refine LeO.bind ?_ (fun _ => ?_)
    · intro y0 y1 y2 y3
      unfold shape_Count.l0
      repeat' first
      | (with_reducible exact ih0 _ _)
      | (with_reducible exact ih1 _ _ _ _)
      | (with_reducible exact slices_ContainsFunc_int_int.mono _ _)
      | (with_reducible exact slices_Contains_int_int.mono _ _ _)
      | (with_reducible exact LeO.refl _)
      | (with_reducible exact LeO.none _)
      | (with_reducible refine LeO.ite ?_ ?_)
      | (with_reducible refine LeO.bind ?_ (fun _ => ?_))
      | exact ih0 _ _
      | exact ih1 _ _ _ _
      | exact slices_ContainsFunc_int_int.mono _ _
      | exact slices_Contains_int_int.mono _ _ _
      | exact LeO.none _
      | refine LeO.ite ?_ ?_
      | refine LeO.bind ?_ (fun _ => ?_)
theorem shape_Count.mono : ∀ a0 k, LeO (shape_Count.f k a0) (shape_Count.f (k + 1) a0) := by
  intro a0 k
  obtain ⟨ih0, ih1⟩ := shape_Count.mono_l k
  unfold shape_Count.f
  repeat' first
      | (with_reducible exact ih0 _ _)
      | (with_reducible exact ih1 _ _ _ _)
      | (with_reducible exact slices_ContainsFunc_int_int.mono _ _)
      | (with_reducible exact slices_Contains_int_int.mono _ _ _)
      | (with_reducible exact LeO.refl _)
      | (with_reducible exact LeO.none _)
      | (with_reducible refine LeO.ite ?_ ?_)
      | (with_reducible refine LeO.bind ?_ (fun _ => ?_))
      | exact ih0 _ _
      | exact ih1 _ _ _ _
      | exact slices_ContainsFunc_int_int.mono _ _
      | exact slices_Contains_int_int.mono _ _ _
      | exact LeO.none _
      | refine LeO.ite ?_ ?_
      | refine LeO.bind ?_ (fun _ => ?_)
set_option maxHeartbeats 8000000 in
set_option maxRecDepth 100000 in
theorem shape_Count.calls (k : Nat) (A0 : Option Addr) (c0 : Nat) (l0 : List Int) (r1 : Int) (r2 : Bool) (w : World) (hr0 : Kd.C (Kd.int .i64) w A0 l0.length l0) (hc0 : l0.length ≤ c0) (h : shape_Count.f k l0 = some (r1, r2)) :
    Calls Try.prog 25 #[.slice A0 l0.length c0] w fun e w' => e = .returned (.tuple #[.int .i64 r1, .bool r2]) ∧ Drawn0 w w' := by
  have HR0 := Aside0.mk hr0
  have HC0 := Aside0.mk hc0
  clear hr0 hc0
  have H : (if (l0.length : Int) > 16 then (shape_Count.j0 k l0 true) else ((slices_ContainsFunc_int_int.f k l0).bind fun t124 => (shape_Count.j0 k l0 t124))) = some (r1, r2) := h
  clear h
  have HC2 := Aside0.mk H
  clear H
  go_enter Try.func25, Try.ntmps25
  go_upto_region 2 with (fail)
  go_cut [8] (fun v8 wc => ∃ (kq : Nat) (x8_1 : Bool), v8 = .bool x8_1 ∧ Aside0 (shape_Count.j0 kq l0 x8_1 = some (r1, r2)) ∧ Aside0 (kq ≤ k) ∧ Drawn0 w wc)
  case first =>
    have H := HC2.out
    clear HC2
    by_cases c3 : (l0.length : Int) > 16
    · rw [if_pos c3] at H
      have c3b0 := decide_eq_true c3
      have c3b1 : decide (16 < l0.length) = true := decide_eq_true J28
      clear c3
      (first | rw [c3b0] | (simp only [i64_w, i32_w]; rw [c3b0]) | skip)
      have H' := Aside0.mk H
      clear H
      go_wp2
      go_meet
      case rel => exact ⟨_, (true), J5, H', ⟨J23⟩, J6⟩
    rw [if_neg c3] at H
    have c3b0 := decide_eq_false c3
    have c3b1 : decide (16 < l0.length) = false := decide_eq_false J28
    clear c3
    (first | rw [c3b0] | (simp only [i64_w, i32_w]; rw [c3b0]) | skip)
    replace H := Option.bind_eq_some_iff.mp H
    obtain ⟨t124, A40, H⟩ := H
    have A4 := Aside0.mk A40
    clear A40
    have H' := Aside0.mk H
    clear H
    go_wp2_with (first | (go_at_call 40; (with_reducible refine (slices_ContainsFunc_int_int.calls k _ _ l0 t124 _ ?side1 ?side2 A4.out).mono ?_); (case side1 => repeat (first | exact HR0.out | (with_reducible refine Kd.C_alloc ?_ _) | (with_reducible refine Kd.C_drewN ?_ _) | (with_reducible refine Kd.C_drew ?_))); (case side2 => exact HC0.out); rintro e w' ⟨rfl, ⟨nd, rfl⟩⟩))
    go_meet
    case rel => exact ⟨_, (t124), J5, H', ⟨J23⟩, J6⟩
  case rest =>
    clear HC2
    try clear c2
    try clear p2
    try clear c3
    try clear c3b0
    try clear c3b1
    obtain ⟨kq, x8_1, rfl, HA, HJ1, ⟨mc1, rfl⟩⟩ := hcut
    cases kq with
    | zero => exact absurd HA.out (by simp [shape_Count.j0])
    | succ kj1 =>
      have H := HA.out
      clear HA
      simp only [shape_Count.j0] at H
      by_cases c5 : x8_1 = true
      · subst c5
        have H1 : (some (0, false)) = some (r1, r2) := J14
        clear H
        have H := H1
        clear H1
        simp only [Option.some.injEq, Prod.mk.injEq] at H
        obtain ⟨rfl, rfl⟩ := H
        go_wp2
        go_ret2
        exact ⟨J5, J6⟩
      replace c5 := Bool.eq_false_iff.mpr c5
      subst c5
      have H1 : ((slices_Contains_int_int.f kj1 l0 0).bind fun t125 => (if t125 = true then (some (0, true)) else (shape_Count.l0 kj1 1 l0 (l0.length : Int) 0))) = some (r1, r2) := J7
      clear H
      have H := H1
      clear H1
      replace H := Option.bind_eq_some_iff.mp H
      obtain ⟨t125, A60, H⟩ := H
      have A6 := Aside0.mk A60
      clear A60
      by_cases c7 : t125 = true
      · subst c7
        have H1 : (some (0, true)) = some (r1, r2) := J14
        clear H
        have H := H1
        clear H1
        simp only [Option.some.injEq, Prod.mk.injEq] at H
        obtain ⟨rfl, rfl⟩ := H
        go_wp2_with (first | ((with_reducible refine gate_callee (f := 41) rfl ?_); refine goesL_ (some 19) rfl rfl Try.func41 J8 rfl #[.slice A0 l0.length c0, .int .i64 0] rfl J1 ?_; (with_reducible refine (slices_Contains_int_int.calls kj1 _ _ l0 0 true _ ?side1 ?side2 A6.out).mono ?_); (case side1 => repeat (first | exact HR0.out | (with_reducible refine Kd.C_alloc ?_ _) | (with_reducible refine Kd.C_drewN ?_ _) | (with_reducible refine Kd.C_drew ?_))); (case side2 => exact HC0.out); rintro e w' ⟨rfl, ⟨nd, rfl⟩⟩; refine ⟨_, rfl, ?_⟩))
        go_ret2
        exact ⟨J5, J6⟩
      replace c7 := Bool.eq_false_iff.mpr c7
      subst c7
      have H1 : (shape_Count.l0 kj1 1 l0 (l0.length : Int) 0) = some (r1, r2) := J7
      clear H
      have H := H1
      clear H1
      have H' := Aside0.mk H
      clear H
      go_wp2_with (first | ((with_reducible refine gate_callee (f := 41) rfl ?_); refine goesL_ (some 19) rfl rfl Try.func41 J8 rfl #[.slice A0 l0.length c0, .int .i64 0] rfl J1 ?_; (with_reducible refine (slices_Contains_int_int.calls kj1 _ _ l0 0 false _ ?side1 ?side2 A6.out).mono ?_); (case side1 => repeat (first | exact HR0.out | (with_reducible refine Kd.C_alloc ?_ _) | (with_reducible refine Kd.C_drewN ?_ _) | (with_reducible refine Kd.C_drew ?_))); (case side2 => exact HC0.out); rintro e w' ⟨rfl, ⟨nd, rfl⟩⟩; refine ⟨_, rfl, ?_⟩))
      go_loopg [5, 22] kj1 (fun kq v5 v22 w' => ∃ (x5_2 : Int) (x22_2 : Int), v5 = .int .i64 x5_2 ∧ v22 = .int .i64 x22_2 ∧ Aside0 (shape_Count.l0 kq x5_2 l0 (l0.length : Int) x22_2 = some (r1, r2)) ∧ Aside0 (kq ≤ kj1) ∧ Drawn0 w w')
      case atStart => exact ⟨(1), (0), J5, J5, H', ⟨Nat.le_refl _⟩, J6⟩
      case round =>
        clear H'
        try clear c1
        try clear c2
        try clear p2
        try clear c3
        try clear c3b0
        try clear c3b1
        try clear c4
        try clear c5
        try clear c7
        try clear p2
        obtain ⟨x5_2, x22_2, rfl, rfl, HA, HK2, ⟨m2, rfl⟩⟩ := hrel
        cases gk with
        | zero => exact absurd HA.out (by simp [shape_Count.l0])
        | succ k2 =>
          have H := HA.out
          clear HA
          simp only [shape_Count.l0] at H
          by_cases c8 : x22_2 < (l0.length : Int)
          rotate_left
          · rw [if_neg c8] at H
            have c8b0 := decide_eq_false c8
            clear c8
            simp only [Option.some.injEq, Prod.mk.injEq] at H
            obtain ⟨rfl, rfl⟩ := H
            go_wp2
            go_ret2
            exact ⟨J5, J6⟩
          rw [if_pos c8] at H
          have c8b0 := decide_eq_true c8
          clear c8
          by_cases c9 : 0 ≤ x22_2
          rotate_left
          · rw [if_neg c9] at H
            exact absurd H J21
          rw [if_pos c9] at H
          have c9b0 := decide_eq_true c9
          clear c9
          by_cases c10 : x22_2 < (l0.length : Int)
          rotate_left
          · rw [if_neg c10] at H
            exact absurd H J21
          rw [if_pos c10] at H
          have c10b0 := decide_eq_true c10
          clear c10
          replace H := Option.bind_eq_some_iff.mp H
          obtain ⟨t127, A110, H⟩ := H
          have A11 := Aside0.mk A110
          clear A110
          by_cases c12 : t127 = true
          · subst c12
            have H1 : (some (0, false)) = some (r1, r2) := J14
            clear H
            have H := H1
            clear H1
            simp only [Option.some.injEq, Prod.mk.injEq] at H
            obtain ⟨rfl, rfl⟩ := H
            have p126 : 0 ≤ (x22_2 : Int) := of_decide_eq_true J2
            have q126 : x22_2 < (l0.length : Int) := of_decide_eq_true J2
            obtain ⟨ad126, e126, hx126_0⟩ := Kd.at_int HR0.out x22_2 p126 q126
            cases e126
            replace p126 := eq_true p126
            replace q126 := eq_true q126
            go_wp2_with (first | ((with_reducible refine gate_dst (N := 31) rfl ?_); refine goesLv_ (some 31) rfl rfl Try.func39 J8 rfl #[.int .i64 (wrap64 (x5_2 * (rd l0 x22_2)))] (.tmp 29) rfl rfl J1 ?_; (with_reducible refine (shape_Count_1.calls (wrap64 (x5_2 * (rd l0 x22_2))) true _ A11.out).mono ?_); rintro e w' ⟨rfl, ⟨nd, rfl⟩⟩; refine ⟨_, rfl, ?_⟩))
            go_ret2
            exact ⟨J5, J6⟩
          replace c12 := Bool.eq_false_iff.mpr c12
          subst c12
          have H1 : (shape_Count.l0 k2 (wrap64 (x5_2 * (rd l0 x22_2))) l0 (l0.length : Int) (wrap64 (x22_2 + 1))) = some (r1, r2) := J7
          clear H
          have H := H1
          clear H1
          have H' := Aside0.mk H
          clear H
          have p126 : 0 ≤ (x22_2 : Int) := of_decide_eq_true J2
          have q126 : x22_2 < (l0.length : Int) := of_decide_eq_true J2
          obtain ⟨ad126, e126, hx126_0⟩ := Kd.at_int HR0.out x22_2 p126 q126
          cases e126
          replace p126 := eq_true p126
          replace q126 := eq_true q126
          go_wp2_with (first | ((with_reducible refine gate_dst (N := 31) rfl ?_); refine goesLv_ (some 31) rfl rfl Try.func39 J8 rfl #[.int .i64 (wrap64 (x5_2 * (rd l0 x22_2)))] (.tmp 29) rfl rfl J1 ?_; (with_reducible refine (shape_Count_1.calls (wrap64 (x5_2 * (rd l0 x22_2))) false _ A11.out).mono ?_); rintro e w' ⟨rfl, ⟨nd, rfl⟩⟩; refine ⟨_, rfl, ?_⟩))
          go_roundg k2
          case measure => have := HJ1.out; have := HK2.out; omega
          case rel => exact ⟨(wrap64 (x5_2 * (rd l0 x22_2))), (wrap64 (x22_2 + 1)), J5, J5, H', ⟨by have := HJ1.out; have := HK2.out; omega⟩, J6⟩
def utf8_ValidRune.j0 : Nat → Int → Bool → Option (Bool)
  | 0, _, _ => none
  | k + 1, x0, x3 => if x3 = true then (some true) else (if 57343 < x0 then (if x0 ≤ 1114111 then (some true) else (some false)) else (some false))
def utf8_ValidRune.f (k : Nat) (a0 : Int) : Option (Bool) := if 0 ≤ a0 then (utf8_ValidRune.j0 k a0 (decide (a0 < 55296))) else (utf8_ValidRune.j0 k a0 false)
theorem utf8_ValidRune.mono_l : ∀ k, (∀ y0 y1, LeO (utf8_ValidRune.j0 k y0 y1) (utf8_ValidRune.j0 (k + 1) y0 y1))
  | 0 => fun _ _ r h => by simp [utf8_ValidRune.j0] at h
  | k + 1 => by
    have ih0 := utf8_ValidRune.mono_l k
    · intro y0 y1
      unfold utf8_ValidRune.j0
      repeat' first
      | (with_reducible exact ih0 _ _)
      | (with_reducible exact LeO.refl _)
      | (with_reducible exact LeO.none _)
      | (with_reducible refine LeO.ite ?_ ?_)
      | (with_reducible refine LeO.bind ?_ (fun _ => ?_))
      | exact ih0 _ _
      | exact LeO.none _
      | refine LeO.ite ?_ ?_
      | refine LeO.bind ?_ (fun _ => ?_)
theorem utf8_ValidRune.mono : ∀ a0 k, LeO (utf8_ValidRune.f k a0) (utf8_ValidRune.f (k + 1) a0) := by
  intro a0 k
  have ih0 := utf8_ValidRune.mono_l k
  unfold utf8_ValidRune.f
  repeat' first
      | (with_reducible exact ih0 _ _)
      | (with_reducible exact LeO.refl _)
      | (with_reducible exact LeO.none _)
      | (with_reducible refine LeO.ite ?_ ?_)
      | (with_reducible refine LeO.bind ?_ (fun _ => ?_))
      | exact ih0 _ _
      | exact LeO.none _
      | refine LeO.ite ?_ ?_
      | refine LeO.bind ?_ (fun _ => ?_)
set_option maxHeartbeats 8000000 in
set_option maxRecDepth 100000 in
theorem utf8_ValidRune.calls (k : Nat) (a0 : Int) (r : Bool) (w : World) (h : utf8_ValidRune.f k a0 = some r) :
    Calls Try.prog 58 #[.int .i32 a0] w fun e w' => e = .returned (.bool r) ∧ Drawn0 w w' := by
  have H : (if 0 ≤ a0 then (utf8_ValidRune.j0 k a0 (decide (a0 < 55296))) else (utf8_ValidRune.j0 k a0 false)) = some r := h
  clear h
  have HC2 := Aside0.mk H
  clear H
  go_enter Try.func58, Try.ntmps58
  go_upto_region 1 with (fail)
  go_cut [3] (fun v3 wc => ∃ (kq : Nat) (x3_1 : Bool), v3 = .bool x3_1 ∧ Aside0 (utf8_ValidRune.j0 kq a0 x3_1 = some r) ∧ Aside0 (kq ≤ k) ∧ Drawn0 w wc)
  case first =>
    have H := HC2.out
    clear HC2
    by_cases c3 : 0 ≤ a0
    rotate_left
    · rw [if_neg c3] at H
      have c3b0 := decide_eq_false c3
      clear c3
      (first | rw [c3b0] | (simp only [i64_w, i32_w]; rw [c3b0]) | skip)
      have H' := Aside0.mk H
      clear H
      go_wp2
      go_meet
      case rel => exact ⟨_, (false), J5, H', ⟨J23⟩, J6⟩
    rw [if_pos c3] at H
    have c3b0 := decide_eq_true c3
    clear c3
    (first | rw [c3b0] | (simp only [i64_w, i32_w]; rw [c3b0]) | skip)
    have H' := Aside0.mk H
    clear H
    go_wp2
    go_meet
    case rel => exact ⟨_, (decide (a0 < 55296)), J5, H', ⟨J23⟩, J6⟩
  case rest =>
    clear HC2
    try clear p2
    try clear c3
    try clear c3b0
    obtain ⟨kq, x3_1, rfl, HA, HJ1, ⟨mc1, rfl⟩⟩ := hcut
    cases kq with
    | zero => exact absurd HA.out (by simp [utf8_ValidRune.j0])
    | succ kj1 =>
      have H := HA.out
      clear HA
      simp only [utf8_ValidRune.j0] at H
      by_cases c4 : x3_1 = true
      · subst c4
        have H1 : (some true) = some r := J14
        clear H
        have H := H1
        clear H1
        obtain rfl := Option.some.inj H
        go_wp2
        go_ret
        exact ⟨J5, J6⟩
      replace c4 := Bool.eq_false_iff.mpr c4
      subst c4
      have H1 : (if 57343 < a0 then (if a0 ≤ 1114111 then (some true) else (some false)) else (some false)) = some r := J7
      clear H
      have H := H1
      clear H1
      by_cases c5 : 57343 < a0
      rotate_left
      · rw [if_neg c5] at H
        have c5b0 := decide_eq_false c5
        clear c5
        obtain rfl := Option.some.inj H
        go_wp2
        go_ret
        exact ⟨J5, J6⟩
      rw [if_pos c5] at H
      have c5b0 := decide_eq_true c5
      clear c5
      by_cases c6 : a0 ≤ 1114111
      rotate_left
      · rw [if_neg c6] at H
        have c6b0 := decide_eq_false c6
        clear c6
        obtain rfl := Option.some.inj H
        go_wp2
        go_ret
        exact ⟨J5, J6⟩
      rw [if_pos c6] at H
      have c6b0 := decide_eq_true c6
      clear c6
      obtain rfl := Option.some.inj H
      go_wp2
      go_ret
      exact ⟨J5, J6⟩
def array_fits.f (k : Nat) (a0 : Int) (a1 : Int) : Option (Bool) := if a0 = 1 then (some ((Go.bits .andNot .i64 a1 1) == 0)) else (if a0 = 2 then (some true) else (if a0 = 3 then (if a1 = (wrap64 (wrap32 (a1))) then ((utf8_ValidRune.f k (wrap32 (a1))).bind fun t128 => (some t128)) else (some false)) else (some false)))
theorem array_fits.mono : ∀ a0 a1 k, LeO (array_fits.f k a0 a1) (array_fits.f (k + 1) a0 a1) := by
  intro a0 a1 k
  unfold array_fits.f
  repeat' first
      | (with_reducible exact utf8_ValidRune.mono _ _)
      | (with_reducible exact LeO.refl _)
      | (with_reducible exact LeO.none _)
      | (with_reducible refine LeO.ite ?_ ?_)
      | (with_reducible refine LeO.bind ?_ (fun _ => ?_))
      | exact utf8_ValidRune.mono _ _
      | exact LeO.none _
      | refine LeO.ite ?_ ?_
      | refine LeO.bind ?_ (fun _ => ?_)
set_option maxHeartbeats 8000000 in
set_option maxRecDepth 100000 in
theorem array_fits.calls (k : Nat) (a0 : Int) (a1 : Int) (r : Bool) (w : World) (h : array_fits.f k a0 a1 = some r) :
    Calls Try.prog 53 #[.int .i64 a0, .int .i64 a1] w fun e w' => e = .returned (.bool r) ∧ Drawn0 w w' := by
  have H : (if a0 = 1 then (some ((Go.bits .andNot .i64 a1 1) == 0)) else (if a0 = 2 then (some true) else (if a0 = 3 then (if a1 = (wrap64 (wrap32 (a1))) then ((utf8_ValidRune.f k (wrap32 (a1))).bind fun t128 => (some t128)) else (some false)) else (some false)))) = some r := h
  clear h
  by_cases c3 : a0 = 1
  · rw [if_pos c3] at H
    have c3b0 : (a0 == 1) = true := beq_iff_eq.mpr c3
    have c3b1 : (a0 != 1) = false := bne_eq_false_iff_eq.mpr c3
    clear c3
    obtain rfl := Option.some.inj H
    go_enter Try.func53, Try.ntmps53
    go_wp2
    go_ret
    exact ⟨J5, J6⟩
  rw [if_neg c3] at H
  have c3b0 : (a0 == 1) = false := beq_eq_false_iff_ne.mpr c3
  have c3b1 : (a0 != 1) = true := bne_iff_ne.mpr c3
  by_cases c4 : a0 = 2
  · rw [if_pos c4] at H
    have c4b0 : (a0 == 2) = true := beq_iff_eq.mpr c4
    have c4b1 : (a0 != 2) = false := bne_eq_false_iff_eq.mpr c4
    clear c4
    obtain rfl := Option.some.inj H
    go_enter Try.func53, Try.ntmps53
    go_wp2
    go_ret
    exact ⟨J5, J6⟩
  rw [if_neg c4] at H
  have c4b0 : (a0 == 2) = false := beq_eq_false_iff_ne.mpr c4
  have c4b1 : (a0 != 2) = true := bne_iff_ne.mpr c4
  by_cases c5 : a0 = 3
  rotate_left
  · rw [if_neg c5] at H
    have c5b0 : (a0 == 3) = false := beq_eq_false_iff_ne.mpr c5
    have c5b1 : (a0 != 3) = true := bne_iff_ne.mpr c5
    obtain rfl := Option.some.inj H
    go_enter Try.func53, Try.ntmps53
    go_wp2
    go_ret
    exact ⟨J5, J6⟩
  rw [if_pos c5] at H
  have c5b0 : (a0 == 3) = true := beq_iff_eq.mpr c5
  have c5b1 : (a0 != 3) = false := bne_eq_false_iff_eq.mpr c5
  clear c5
  by_cases c6 : a1 = (wrap64 (wrap32 (a1)))
  rotate_left
  · rw [if_neg c6] at H
    have c6b0 : (a1 == (wrap64 (wrap32 (a1)))) = false := beq_eq_false_iff_ne.mpr c6
    have c6b1 : (a1 != (wrap64 (wrap32 (a1)))) = true := bne_iff_ne.mpr c6
    obtain rfl := Option.some.inj H
    go_enter Try.func53, Try.ntmps53
    go_wp2
    go_ret
    exact ⟨J5, J6⟩
  rw [if_pos c6] at H
  have c6b0 : (a1 == (wrap64 (wrap32 (a1)))) = true := beq_iff_eq.mpr c6
  have c6b1 : (a1 != (wrap64 (wrap32 (a1)))) = false := bne_eq_false_iff_eq.mpr c6
  clear c6
  replace H := Option.bind_eq_some_iff.mp H
  obtain ⟨t128, A70, H⟩ := H
  have A7 := Aside0.mk A70
  clear A70
  obtain rfl := Option.some.inj H
  go_enter Try.func53, Try.ntmps53
  go_wp2_with (first | (go_at_call 58; (with_reducible refine (utf8_ValidRune.calls k (wrap32 (a1)) t128 _ A7.out).mono ?_); rintro e w' ⟨rfl, ⟨nd, rfl⟩⟩))
  go_ret
  exact ⟨J5, J6⟩
def array_items_1.f (k : Nat) (a0 : Int) (a1 : Int) : Option (Bool) := (array_fits.f k a1 a0).bind fun t129 => (some t129)
theorem array_items_1.mono : ∀ a0 a1 k, LeO (array_items_1.f k a0 a1) (array_items_1.f (k + 1) a0 a1) := by
  intro a0 a1 k
  unfold array_items_1.f
  repeat' first
      | (with_reducible exact array_fits.mono _ _ _)
      | (with_reducible exact LeO.refl _)
      | (with_reducible exact LeO.none _)
      | (with_reducible refine LeO.ite ?_ ?_)
      | (with_reducible refine LeO.bind ?_ (fun _ => ?_))
      | exact array_fits.mono _ _ _
      | exact LeO.none _
      | refine LeO.ite ?_ ?_
      | refine LeO.bind ?_ (fun _ => ?_)
set_option maxHeartbeats 8000000 in
set_option maxRecDepth 100000 in
theorem array_items_1.calls (k : Nat) (a0 : Int) (a1 : Int) (gb_ : Nat) (r : Bool) (w : World) (hgb_ : w.cell? ⟨gb_, 0, none⟩ = some (.int .i64 a1)) (h : array_items_1.f k a0 a1 = some r) :
    Calls Try.prog 52 #[.int .i64 a0, .pointer (some ⟨gb_, 0, none⟩)] w fun e w' => e = .returned (.bool r) ∧ Drawn0 w w' := by
  have H : ((array_fits.f k a1 a0).bind fun t129 => (some t129)) = some r := h
  clear h
  replace H := Option.bind_eq_some_iff.mp H
  obtain ⟨t129, A30, H⟩ := H
  have A3 := Aside0.mk A30
  clear A30
  obtain rfl := Option.some.inj H
  go_enter Try.func52, Try.ntmps52
  go_wp2_with (first | ((with_reducible refine gate_callee (f := 53) rfl ?_); refine goesL_ (some 7) rfl rfl Try.func53 J8 rfl #[.int .i64 a1, .int .i64 a0] rfl J1 ?_; (with_reducible refine (array_fits.calls k a1 a0 t129 _ A3.out).mono ?_); rintro e w' ⟨rfl, ⟨nd, rfl⟩⟩; refine ⟨_, rfl, ?_⟩))
  go_ret
  exact ⟨J5, J6⟩
theorem goesCv_ {P : Program} {ops : Array Oper} {Q : Exit → Act → World → Prop} {rest : List Oper} {oi : Oper} {a : Act} {w : World} (N : Option Tmp) (hd : oi.dst = N) (hg : oi.guard = none) {f : FuncId} {fn : Func} {as_ : Array Operand} {ts : Array TypeId} (hf : P.funcs[f]? = some fn) (hname : (fn.name == "runtime.NumGoroutine") = false) (hb : fn.body.isSome = true) (args cap all : Array Value) (hall : args ++ cap = all) (x : Operand)
    (hop : oi.op = .call { callee := .value x, args := as_, argTypes := ts }) (hx : a.eval x = .func (.func f) #[] cap) (hargs : as_.map a.eval = args)
    (h : Calls P f all w fun e w' => ∃ v, e = .returned v ∧ wpList P ops Q rest (a.put N v) w') : wpList P ops Q (oi :: rest) a w := by
  subst hall
  refine wpList_plain hg fun K hK => ?_
  have he := enters_ hf hname hb (args ++ cap) w
  have hrun : (execOp a.eval oi).run P w = .ok (.enter f (args ++ cap)) w := by
    unfold execOp
    simp [hop, hx, resolve, Deferred.ofValue, invoke, hargs, he]
  unfold Oper.wp
  rw [hrun, Oper.upon_enter]
  refine h.mono fun e w'' hh => ?_
  obtain ⟨v, rfl, hk⟩ := hh
  subst hd
  exact hK _ _ hk
def array_wrongs_int.l0 : Nat → Int → List Int → Int → Int → Option (Bool)
  | 0, _, _, _, _ => none
  | k + 1, x1, x7, x8, x9 => if x9 < x8 then (if 0 ≤ x9 then (if x9 < (x7.length : Int) then ((array_items_1.f k (rd x7 x9) x1).bind fun t131 => (if t131 = true then (array_wrongs_int.l0 k x1 x7 x8 (wrap64 (x9 + 1))) else (some true))) else (none)) else (none)) else (some false)
def array_wrongs_int.f (k : Nat) (l0 : List Int) (a1 : Int) : Option (Bool) := array_wrongs_int.l0 k a1 l0 (l0.length : Int) 0
theorem array_wrongs_int.mono_l : ∀ k, (∀ y0 y1 y2 y3, LeO (array_wrongs_int.l0 k y0 y1 y2 y3) (array_wrongs_int.l0 (k + 1) y0 y1 y2 y3))
  | 0 => fun _ _ _ _ r h => by simp [array_wrongs_int.l0] at h
  | k + 1 => by
    have ih0 := array_wrongs_int.mono_l k
    · intro y0 y1 y2 y3
      unfold array_wrongs_int.l0
      repeat' first
      | (with_reducible exact ih0 _ _ _ _)
      | (with_reducible exact array_items_1.mono _ _ _)
      | (with_reducible exact LeO.refl _)
      | (with_reducible exact LeO.none _)
      | (with_reducible refine LeO.ite ?_ ?_)
      | (with_reducible refine LeO.bind ?_ (fun _ => ?_))
      | exact ih0 _ _ _ _
      | exact array_items_1.mono _ _ _
      | exact LeO.none _
      | refine LeO.ite ?_ ?_
      | refine LeO.bind ?_ (fun _ => ?_)
theorem array_wrongs_int.mono : ∀ a0 a1 k, LeO (array_wrongs_int.f k a0 a1) (array_wrongs_int.f (k + 1) a0 a1) := by
  intro a0 a1 k
  have ih0 := array_wrongs_int.mono_l k
  unfold array_wrongs_int.f
  repeat' first
      | (with_reducible exact ih0 _ _ _ _)
      | (with_reducible exact array_items_1.mono _ _ _)
      | (with_reducible exact LeO.refl _)
      | (with_reducible exact LeO.none _)
      | (with_reducible refine LeO.ite ?_ ?_)
      | (with_reducible refine LeO.bind ?_ (fun _ => ?_))
      | exact ih0 _ _ _ _
      | exact array_items_1.mono _ _ _
      | exact LeO.none _
      | refine LeO.ite ?_ ?_
      | refine LeO.bind ?_ (fun _ => ?_)
set_option maxHeartbeats 8000000 in
set_option maxRecDepth 100000 in
theorem array_wrongs_int.calls (k : Nat) (A0 : Option Addr) (c0 : Nat) (l0 : List Int) (a1 : Int) (gb_ : Nat) (r : Bool) (w : World) (hgb_ : w.cell? ⟨gb_, 0, none⟩ = some (.int .i64 a1)) (hr0 : Kd.C (Kd.int .i64) w A0 l0.length l0) (hc0 : l0.length ≤ c0) (h : array_wrongs_int.f k l0 a1 = some r) :
    Calls Try.prog 54 #[.slice A0 l0.length c0, .func (.func 52) #[] #[.pointer (some ⟨gb_, 0, none⟩)]] w fun e w' => e = .returned (.bool r) ∧ Drawn0 w w' := by
  have HR0 := Aside0.mk hr0
  have HC0 := Aside0.mk hc0
  clear hr0 hc0
  have H : (array_wrongs_int.l0 k a1 l0 (l0.length : Int) 0) = some r := h
  clear h
  have H' := Aside0.mk H
  clear H
  go_enter Try.func54, Try.ntmps54
  go_wp2
  go_loopg [9] k (fun kq v9 w' => ∃ (x9_1 : Int), v9 = .int .i64 x9_1 ∧ Aside0 (array_wrongs_int.l0 kq a1 l0 (l0.length : Int) x9_1 = some r) ∧ Aside0 (kq ≤ k) ∧ Drawn0 w w')
  case atStart => exact ⟨(0), J5, H', ⟨Nat.le_refl _⟩, J6⟩
  case round =>
    clear H'
    try clear p2
    obtain ⟨x9_1, rfl, HA, HK1, ⟨m1, rfl⟩⟩ := hrel
    cases gk with
    | zero => exact absurd HA.out (by simp [array_wrongs_int.l0])
    | succ k1 =>
      have H := HA.out
      clear HA
      simp only [array_wrongs_int.l0] at H
      by_cases c3 : x9_1 < (l0.length : Int)
      rotate_left
      · rw [if_neg c3] at H
        have c3b0 := decide_eq_false c3
        clear c3
        obtain rfl := Option.some.inj H
        go_wp2
        go_ret
        exact ⟨J5, J6⟩
      rw [if_pos c3] at H
      have c3b0 := decide_eq_true c3
      clear c3
      by_cases c4 : 0 ≤ x9_1
      rotate_left
      · rw [if_neg c4] at H
        exact absurd H J21
      rw [if_pos c4] at H
      have c4b0 := decide_eq_true c4
      clear c4
      by_cases c5 : x9_1 < (l0.length : Int)
      rotate_left
      · rw [if_neg c5] at H
        exact absurd H J21
      rw [if_pos c5] at H
      have c5b0 := decide_eq_true c5
      clear c5
      replace H := Option.bind_eq_some_iff.mp H
      obtain ⟨t131, A60, H⟩ := H
      have A6 := Aside0.mk A60
      clear A60
      by_cases c7 : t131 = true
      rotate_left
      · replace c7 := Bool.eq_false_iff.mpr c7
        subst c7
        have H1 : (some true) = some r := J7
        clear H
        have H := H1
        clear H1
        obtain rfl := Option.some.inj H
        have p130 : 0 ≤ (x9_1 : Int) := of_decide_eq_true J2
        have q130 : x9_1 < (l0.length : Int) := of_decide_eq_true J2
        obtain ⟨ad130, e130, hx130_0⟩ := Kd.at_int HR0.out x9_1 p130 q130
        cases e130
        replace p130 := eq_true p130
        replace q130 := eq_true q130
        go_wp2_with (first | ((with_reducible refine gate_dst (N := 15) rfl ?_); refine goesCv_ (some 15) rfl rfl Try.func52 J8 rfl #[.int .i64 (rd l0 x9_1)] #[.pointer (some ⟨gb_, 0, none⟩)] #[.int .i64 (rd l0 x9_1), .pointer (some ⟨gb_, 0, none⟩)] rfl (.tmp 13) rfl rfl J1 ?_; (with_reducible refine (array_items_1.calls k1 (rd l0 x9_1) a1 gb_ false _ (by first | exact hgb_ | simpa using hgb_) A6.out).mono ?_); rintro e w' ⟨rfl, ⟨nd, rfl⟩⟩; refine ⟨_, rfl, ?_⟩))
        go_ret
        exact ⟨J5, J6⟩
      subst c7
      have H1 : (array_wrongs_int.l0 k1 a1 l0 (l0.length : Int) (wrap64 (x9_1 + 1))) = some r := J14
      clear H
      have H := H1
      clear H1
      have H' := Aside0.mk H
      clear H
      have p130 : 0 ≤ (x9_1 : Int) := of_decide_eq_true J2
      have q130 : x9_1 < (l0.length : Int) := of_decide_eq_true J2
      obtain ⟨ad130, e130, hx130_0⟩ := Kd.at_int HR0.out x9_1 p130 q130
      cases e130
      replace p130 := eq_true p130
      replace q130 := eq_true q130
      go_wp2_with (first | ((with_reducible refine gate_dst (N := 15) rfl ?_); refine goesCv_ (some 15) rfl rfl Try.func52 J8 rfl #[.int .i64 (rd l0 x9_1)] #[.pointer (some ⟨gb_, 0, none⟩)] #[.int .i64 (rd l0 x9_1), .pointer (some ⟨gb_, 0, none⟩)] rfl (.tmp 13) rfl rfl J1 ?_; (with_reducible refine (array_items_1.calls k1 (rd l0 x9_1) a1 gb_ true _ (by first | exact hgb_ | simpa using hgb_) A6.out).mono ?_); rintro e w' ⟨rfl, ⟨nd, rfl⟩⟩; refine ⟨_, rfl, ?_⟩))
      go_roundg k1
      case measure => have := HK1.out; omega
      case rel => exact ⟨(wrap64 (x9_1 + 1)), J5, H', ⟨J41⟩, J6⟩
def decimal_Norm.l0 : Nat → Int → Int → Option (Int × Int × Bool)
  | 0, _, _ => none
  | k + 1, x133000, x133001 => if (Int.tmod x133000 10) = 0 then (if x133001 ≤ 32767 then (decimal_Norm.l0 k (wrap64 (Int.tdiv x133000 10)) (wrap64 (x133001 + 1))) else (if x133001 < (-32768) then (some (0, 0, false)) else (if x133001 > 32767 then (some (0, 0, false)) else (some (x133000, x133001, true))))) else (if x133001 < (-32768) then (some (0, 0, false)) else (if x133001 > 32767 then (some (0, 0, false)) else (some (x133000, x133001, true))))
def decimal_Norm.f (k : Nat) (a0_0 : Int) (a0_1 : Int) : Option (Int × Int × Bool) := if a0_0 = 0 then (some (0, 0, true)) else (decimal_Norm.l0 k a0_0 a0_1)
theorem decimal_Norm.mono_l : ∀ k, (∀ y0 y1, LeO (decimal_Norm.l0 k y0 y1) (decimal_Norm.l0 (k + 1) y0 y1))
  | 0 => fun _ _ r h => by simp [decimal_Norm.l0] at h
  | k + 1 => by
    have ih0 := decimal_Norm.mono_l k
    · intro y0 y1
      unfold decimal_Norm.l0
      repeat' first
      | (with_reducible exact ih0 _ _)
      | (with_reducible exact LeO.refl _)
      | (with_reducible exact LeO.none _)
      | (with_reducible refine LeO.ite ?_ ?_)
      | (with_reducible refine LeO.bind ?_ (fun _ => ?_))
      | exact ih0 _ _
      | exact LeO.none _
      | refine LeO.ite ?_ ?_
      | refine LeO.bind ?_ (fun _ => ?_)
theorem decimal_Norm.mono : ∀ a0 a1 k, LeO (decimal_Norm.f k a0 a1) (decimal_Norm.f (k + 1) a0 a1) := by
  intro a0 a1 k
  have ih0 := decimal_Norm.mono_l k
  unfold decimal_Norm.f
  repeat' first
      | (with_reducible exact ih0 _ _)
      | (with_reducible exact LeO.refl _)
      | (with_reducible exact LeO.none _)
      | (with_reducible refine LeO.ite ?_ ?_)
      | (with_reducible refine LeO.bind ?_ (fun _ => ?_))
      | exact ih0 _ _
      | exact LeO.none _
      | refine LeO.ite ?_ ?_
      | refine LeO.bind ?_ (fun _ => ?_)
set_option maxHeartbeats 8000000 in
set_option maxRecDepth 100000 in
theorem decimal_Norm.calls (k : Nat) (a0_0 : Int) (a0_1 : Int) (r1 : Int) (r2 : Int) (r3 : Bool) (w : World) (h : decimal_Norm.f k a0_0 a0_1 = some (r1, r2, r3)) :
    Calls Try.prog 59 #[.agg #[.int .i64 a0_0, .int .i64 a0_1]] w fun e w' => e = .returned (.tuple #[.agg #[.int .i64 r1, .int .i64 r2], .bool r3]) ∧ Below w.heap.size w w' := by
  have hu41 := Try.underlying41
  have HB := Aside0.mk (Below.refl w.heap.size w)
  have H : (if a0_0 = 0 then (some (0, 0, true)) else (decimal_Norm.l0 k a0_0 a0_1)) = some (r1, r2, r3) := h
  clear h
  by_cases c2 : a0_0 = 0
  · rw [if_pos c2] at H
    have c2b0 : (a0_0 == 0) = true := beq_iff_eq.mpr c2
    have c2b1 : (a0_0 != 0) = false := bne_eq_false_iff_eq.mpr c2
    clear c2
    simp only [Option.some.injEq, Prod.mk.injEq] at H
    obtain ⟨rfl, rfl, rfl⟩ := H
    go_enter Try.func59, Try.ntmps59
    go_wp2_with (first | ((with_reducible refine gate_dst (N := 1) rfl ?_); refine box_event ?hg (N := 1) ?hd (cs := #[.int .i64 a0_0, .int .i64 a0_1]) (t := 41) ?hr ?_; (case hd => rfl); (case hg => rfl); (case hr => first | (go_simp; done) | (go_simp; rfl)); intro gb132 hg w3 hbox hb; have n0_ := Aside0.mk (below_step J0 hb); have n1_ := Aside0.mk (hbox); have n2_ := Aside0.mk ((J18 : w.heap.size ≤ gb132)); have n3_ := Aside0.mk ((J18 : w.heap.size ≤ gb132)); clear HB; have HB := n0_; have BK132 := n1_; have GW132 := n2_; have GE132 := n3_; clear n0_ n1_ n2_ n3_; clear hb hbox hg) | ((with_reducible refine gate_dst (N := 2) rfl ?_); refine box_event ?hg (N := 2) ?hd (cs := #[.int .i64 0, .int .i64 0]) (t := 41) ?hr ?_; (case hd => rfl); (case hg => rfl); (case hr => first | (go_simp; done) | (go_simp; rfl)); intro gb133 hg w4 hbox hb; have n0_ := Aside0.mk (blk_below (g := gb132) (o := .cells #[.int .i64 a0_0, .int .i64 a0_1] 41 (0, 0)) (zk BK132.out) hb); have n1_ := Aside0.mk (below_step (zs1 GE132.out) hb); have n2_ := Aside0.mk (hbox); have n3_ := Aside0.mk ((J62 : w.heap.size ≤ gb133)); have n4_ := Aside0.mk ((J62 : w.heap.size ≤ gb133)); have n5_ := Aside0.mk ((J65 : gb132 ≠ gb133)); have n6_ := Aside0.mk ((J66 : gb133 ≠ gb132)); clear BK132; clear HB; have BK132 := n0_; have HB := n1_; have BK133 := n2_; have GW133 := n3_; have GE133 := n4_; have NB132_133 := n5_; have NB133_132 := n6_; clear n0_ n1_ n2_ n3_ n4_ n5_ n6_; clear hb hbox hg; have hnb5 := NB132_133.out; have hnc5 := NB133_132.out; have hcz6_0 : w4.cell? ⟨gb132, 0, none⟩ = some (.int .i64 a0_0) := (blk_cell BK132.out 0).trans rfl; have hcz6_1 : w4.cell? ⟨gb132, 1, none⟩ = some (.int .i64 a0_1) := (blk_cell BK132.out 1).trans rfl; have hfz6_0 := blk_frozen BK132.out 0; have hfz6_1 := blk_frozen BK132.out 1; have hcz7_0 : w4.cell? ⟨gb133, 0, none⟩ = some (.int .i64 0) := (blk_cell BK133.out 0).trans rfl; have hcz7_1 : w4.cell? ⟨gb133, 1, none⟩ = some (.int .i64 0) := (blk_cell BK133.out 1).trans rfl; have hfz7_0 := blk_frozen BK133.out 0; have hfz7_1 := blk_frozen BK133.out 1))
    refine bodyPost_ret (results_ct rfl _ _ gb133 41 #[.int .i64 0, .int .i64 0] (0, 0) _ rfl J12 Try.underlying41 rfl J8) rfl ?_
    exact ⟨J4, J13⟩
  rw [if_neg c2] at H
  have c2b0 : (a0_0 == 0) = false := beq_eq_false_iff_ne.mpr c2
  have c2b1 : (a0_0 != 0) = true := bne_iff_ne.mpr c2
  have H' := Aside0.mk H
  clear H
  go_enter Try.func59, Try.ntmps59
  go_wp2_with (first | ((with_reducible refine gate_dst (N := 1) rfl ?_); refine box_event ?hg (N := 1) ?hd (cs := #[.int .i64 a0_0, .int .i64 a0_1]) (t := 41) ?hr ?_; (case hd => rfl); (case hg => rfl); (case hr => first | (go_simp; done) | (go_simp; rfl)); intro gb132 hg w8 hbox hb; have n0_ := Aside0.mk (below_step J0 hb); have n1_ := Aside0.mk (hbox); have n2_ := Aside0.mk ((J18 : w.heap.size ≤ gb132)); have n3_ := Aside0.mk ((J18 : w.heap.size ≤ gb132)); clear HB; have HB := n0_; have BK132 := n1_; have GW132 := n2_; have GE132 := n3_; clear n0_ n1_ n2_ n3_; clear hb hbox hg) | ((with_reducible refine gate_dst (N := 2) rfl ?_); refine box_event ?hg (N := 2) ?hd (cs := #[.int .i64 0, .int .i64 0]) (t := 41) ?hr ?_; (case hd => rfl); (case hg => rfl); (case hr => first | (go_simp; done) | (go_simp; rfl)); intro gb133 hg w9 hbox hb; have n0_ := Aside0.mk (blk_below (g := gb132) (o := .cells #[.int .i64 a0_0, .int .i64 a0_1] 41 (0, 0)) (zk BK132.out) hb); have n1_ := Aside0.mk (below_step (zs1 GE132.out) hb); have n2_ := Aside0.mk (hbox); have n3_ := Aside0.mk ((J62 : w.heap.size ≤ gb133)); have n4_ := Aside0.mk ((J62 : w.heap.size ≤ gb133)); have n5_ := Aside0.mk ((J65 : gb132 ≠ gb133)); have n6_ := Aside0.mk ((J66 : gb133 ≠ gb132)); clear BK132; clear HB; have BK132 := n0_; have HB := n1_; have BK133 := n2_; have GW133 := n3_; have GE133 := n4_; have NB132_133 := n5_; have NB133_132 := n6_; clear n0_ n1_ n2_ n3_ n4_ n5_ n6_; clear hb hbox hg; have hnb10 := NB132_133.out; have hnc10 := NB133_132.out; have hcz11_0 : w9.cell? ⟨gb132, 0, none⟩ = some (.int .i64 a0_0) := (blk_cell BK132.out 0).trans rfl; have hcz11_1 : w9.cell? ⟨gb132, 1, none⟩ = some (.int .i64 a0_1) := (blk_cell BK132.out 1).trans rfl; have hfz11_0 := blk_frozen BK132.out 0; have hfz11_1 := blk_frozen BK132.out 1))
  go_loopg [] k (fun kq w' => ∃ (x133000_1 : Int) (x133001_1 : Int), Aside0 (decimal_Norm.l0 kq x133000_1 x133001_1 = some (r1, r2, r3)) ∧ Aside0 (kq ≤ k) ∧ Aside0 (w'.heap[gb132]? = some (.cells #[.int .i64 x133000_1, .int .i64 x133001_1] 41 (0, 0))) ∧ Aside0 (w'.heap[gb133]? = some (.cells #[.int .i64 0, .int .i64 0] 41 (0, 0))) ∧ Aside0 (Below w.heap.size w w'))
  case atStart => exact ⟨(a0_0), (a0_1), H', ⟨Nat.le_refl _⟩, ⟨by (with_reducible repeat (first | refine blk_drewN ?_ _ | refine blk_drew ?_ | refine blk_alloc ?_ _)); exact BK132.out⟩, ⟨by (with_reducible repeat (first | refine blk_drewN ?_ _ | refine blk_drew ?_ | refine blk_alloc ?_ _)); exact BK133.out⟩, ⟨J13⟩⟩
  case round =>
    clear H'
    try clear c1
    try clear c2
    try clear c2b0
    try clear c2b1
    try clear p2
    try clear c5
    try clear c10
    try clear hcz11_0
    try clear hcz11_1
    try clear hcz6_0
    try clear hcz6_1
    try clear hcz7_0
    try clear hcz7_1
    try clear hfz11_0
    try clear hfz11_1
    try clear hfz6_0
    try clear hfz6_1
    try clear hfz7_0
    try clear hfz7_1
    obtain ⟨x133000_1, x133001_1, HA, HK1, BK132, BK133, HB⟩ := hrel
    cases gk with
    | zero => exact absurd HA.out (by simp [decimal_Norm.l0])
    | succ k1 =>
      have H := HA.out
      clear HA
      simp only [decimal_Norm.l0] at H
      by_cases c12 : (Int.tmod x133000_1 10) = 0
      rotate_left
      · rw [if_neg c12] at H
        have c12b0 : ((Int.tmod x133000_1 10) == 0) = false := beq_eq_false_iff_ne.mpr c12
        have c12b1 : ((Int.tmod x133000_1 10) != 0) = true := bne_iff_ne.mpr c12
        by_cases c27 : x133001_1 < (-32768)
        · rw [if_pos c27] at H
          have c27b0 := decide_eq_true c27
          clear c27
          simp only [Option.some.injEq, Prod.mk.injEq] at H
          obtain ⟨rfl, rfl, rfl⟩ := H
          have hnb28 := NB132_133.out
          have hnc28 := NB133_132.out
          obtain ⟨hcz29_0, hcz29_1, hfz29_0, hfz29_1⟩ := cz2 BK132.out
          obtain ⟨hcz30_0, hcz30_1, hfz30_0, hfz30_1⟩ := cz2 BK133.out
          go_wp2
          refine bodyPost_ret (results_ct rfl _ _ gb133 41 #[.int .i64 0, .int .i64 0] (0, 0) _ rfl J12 Try.underlying41 rfl J8) rfl ?_
          exact ⟨J4, J13⟩
        · rw [if_neg c27] at H
          have c27b0 := decide_eq_false c27
          clear c27
          by_cases c31 : x133001_1 > 32767
          · rw [if_pos c31] at H
            have c31b0 := decide_eq_true c31
            clear c31
            simp only [Option.some.injEq, Prod.mk.injEq] at H
            obtain ⟨rfl, rfl, rfl⟩ := H
            have hnb32 := NB132_133.out
            have hnc32 := NB133_132.out
            obtain ⟨hcz33_0, hcz33_1, hfz33_0, hfz33_1⟩ := cz2 BK132.out
            obtain ⟨hcz34_0, hcz34_1, hfz34_0, hfz34_1⟩ := cz2 BK133.out
            go_wp2
            refine bodyPost_ret (results_ct rfl _ _ gb133 41 #[.int .i64 0, .int .i64 0] (0, 0) _ rfl J12 Try.underlying41 rfl J8) rfl ?_
            exact ⟨J4, J13⟩
          · rw [if_neg c31] at H
            have c31b0 := decide_eq_false c31
            clear c31
            simp only [Option.some.injEq, Prod.mk.injEq] at H
            obtain ⟨rfl, rfl, rfl⟩ := H
            have hnb35 := NB132_133.out
            have hnc35 := NB133_132.out
            obtain ⟨hcz36_0, hcz36_1, hfz36_0, hfz36_1⟩ := cz2 BK132.out
            obtain ⟨hcz37_0, hcz37_1, hfz37_0, hfz37_1⟩ := cz2 BK133.out
            go_wp2
            refine bodyPost_ret (results_ct rfl _ _ gb133 41 #[.int .i64 x133000_1, .int .i64 x133001_1] (0, 0) _ rfl J30 Try.underlying41 rfl J8) rfl ?_
            exact ⟨J4, J13⟩
      rw [if_pos c12] at H
      have c12b0 : ((Int.tmod x133000_1 10) == 0) = true := beq_iff_eq.mpr c12
      have c12b1 : ((Int.tmod x133000_1 10) != 0) = false := bne_eq_false_iff_eq.mpr c12
      clear c12
      by_cases c13 : x133001_1 ≤ 32767
      · rw [if_pos c13] at H
        have c13b0 := decide_eq_true c13
        clear c13
        have H' := Aside0.mk H
        clear H
        have hnb14 := NB132_133.out
        have hnc14 := NB133_132.out
        obtain ⟨hcz15_0, hcz15_1, hfz15_0, hfz15_1⟩ := cz2 BK132.out
        go_wp2
        go_roundg k1
        case measure => have := HK1.out; omega
        case rel => exact ⟨(wrap64 (Int.tdiv x133000_1 10)), (wrap64 (x133001_1 + 1)), H', ⟨J41⟩, ⟨by (with_reducible repeat (first | refine blk_drewN ?_ _ | refine blk_drew ?_ | refine blk_alloc ?_ _)); refine blk_put (cs := #[.int .i64 (wrap64 (Int.tdiv x133000_1 10)), .int .i64 x133001_1]) ?_ 1 _ rfl; (with_reducible repeat (first | refine blk_drewN ?_ _ | refine blk_drew ?_ | refine blk_alloc ?_ _)); refine blk_put (cs := #[.int .i64 x133000_1, .int .i64 x133001_1]) ?_ 0 _ rfl; (with_reducible repeat (first | refine blk_drewN ?_ _ | refine blk_drew ?_ | refine blk_alloc ?_ _)); exact BK132.out⟩, ⟨by (with_reducible repeat (first | refine blk_drewN ?_ _ | refine blk_drew ?_ | refine blk_alloc ?_ _)); refine blk_far ?_ NB133_132.out _; (with_reducible repeat (first | refine blk_drewN ?_ _ | refine blk_drew ?_ | refine blk_alloc ?_ _)); refine blk_far ?_ NB133_132.out _; (with_reducible repeat (first | refine blk_drewN ?_ _ | refine blk_drew ?_ | refine blk_alloc ?_ _)); exact BK133.out⟩, ⟨J13⟩⟩
      rw [if_neg c13] at H
      have c13b0 := decide_eq_false c13
      clear c13
      by_cases c16 : x133001_1 < (-32768)
      · rw [if_pos c16] at H
        have c16b0 := decide_eq_true c16
        clear c16
        simp only [Option.some.injEq, Prod.mk.injEq] at H
        obtain ⟨rfl, rfl, rfl⟩ := H
        have hnb17 := NB132_133.out
        have hnc17 := NB133_132.out
        obtain ⟨hcz18_0, hcz18_1, hfz18_0, hfz18_1⟩ := cz2 BK132.out
        obtain ⟨hcz19_0, hcz19_1, hfz19_0, hfz19_1⟩ := cz2 BK133.out
        go_wp2
        refine bodyPost_ret (results_ct rfl _ _ gb133 41 #[.int .i64 0, .int .i64 0] (0, 0) _ rfl J12 Try.underlying41 rfl J8) rfl ?_
        exact ⟨J4, J13⟩
      rw [if_neg c16] at H
      have c16b0 := decide_eq_false c16
      clear c16
      by_cases c20 : x133001_1 > 32767
      rotate_left
      · rw [if_neg c20] at H
        have c20b0 := decide_eq_false c20
        clear c20
        simp only [Option.some.injEq, Prod.mk.injEq] at H
        obtain ⟨rfl, rfl, rfl⟩ := H
        have hnb24 := NB132_133.out
        have hnc24 := NB133_132.out
        obtain ⟨hcz25_0, hcz25_1, hfz25_0, hfz25_1⟩ := cz2 BK132.out
        obtain ⟨hcz26_0, hcz26_1, hfz26_0, hfz26_1⟩ := cz2 BK133.out
        go_wp2
        refine bodyPost_ret (results_ct rfl _ _ gb133 41 #[.int .i64 x133000_1, .int .i64 x133001_1] (0, 0) _ rfl J30 Try.underlying41 rfl J8) rfl ?_
        exact ⟨J4, J13⟩
      rw [if_pos c20] at H
      have c20b0 := decide_eq_true c20
      clear c20
      simp only [Option.some.injEq, Prod.mk.injEq] at H
      obtain ⟨rfl, rfl, rfl⟩ := H
      have hnb21 := NB132_133.out
      have hnc21 := NB133_132.out
      obtain ⟨hcz22_0, hcz22_1, hfz22_0, hfz22_1⟩ := cz2 BK132.out
      obtain ⟨hcz23_0, hcz23_1, hfz23_0, hfz23_1⟩ := cz2 BK133.out
      go_wp2
      refine bodyPost_ret (results_ct rfl _ _ gb133 41 #[.int .i64 0, .int .i64 0] (0, 0) _ rfl J12 Try.underlying41 rfl J8) rfl ?_
      exact ⟨J4, J13⟩
end Go.Proofs.Ytgbmbcippldhnaa.HArraySame
