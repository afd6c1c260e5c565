/- What the Go functions of this claim answer, told as functions of numbers and lists, and that other memory stays as it was: words and walks, shortened by a program. -/
import Derived.Test.YtgbmbcippldhnaaSArraySamex0
import Derived.Test.YtgbmbcippldhnaaSArraySamex2
import Derived.Test.YtgbmbcippldhnaaSArraySamex5
namespace Go.Proofs.Ytgbmbcippldhnaa.HArraySame
open Go.RowKit Go.Proofs.YtgbmbcippldhnaaW.PrintWords Go.Proofs.YtgbmbcippldhnaaW.PrintLast Go.Proofs.YtgbmbcippldhnaaW.PrintMore
attribute [local go_sem] max2_int min2_int max_two min_two max_three min_three max_four min_four
set_option linter.unusedVariables false
set_option linter.unusedSimpArgs false
def array_Take.f (k : Nat) (l0 : List (S32)) : Option (Int) := (array_walk.f k l0).bind fun bt161 => (some bt161.1)
theorem array_Take.mono : ∀ a0 k, LeO (array_Take.f k a0) (array_Take.f (k + 1) a0) := by
  intro a0 k
  unfold array_Take.f
  repeat' first
      | (with_reducible exact array_walk.mono _ _)
      | (with_reducible exact LeO.refl _)
      | (with_reducible exact LeO.none _)
      | (with_reducible refine LeO.ite ?_ ?_)
      | (with_reducible refine LeO.bind ?_ (fun _ => ?_))
      | exact array_walk.mono _ _
      | exact LeO.none _
      | refine LeO.ite ?_ ?_
      | refine LeO.bind ?_ (fun _ => ?_)
set_option maxHeartbeats 8000000 in
set_option maxRecDepth 100000 in
theorem array_Take.calls (k : Nat) (A0 : Option Addr) (c0 : Nat) (l0 : List (S32)) (r : Int) (w : World) (hr0 : Kd.C k32 w A0 l0.length l0) (hc0 : l0.length ≤ c0) (h : array_Take.f k l0 = some r) :
    Calls Try.prog 16 #[.slice A0 l0.length c0] w fun e w' => e = .returned (.int .i64 r) ∧ Below w.heap.size w w' := by
  have HR0 := Aside0.mk hr0
  have HC0 := Aside0.mk hc0
  clear hr0 hc0
  have HB := Aside0.mk (Below.refl w.heap.size w)
  have H : ((array_walk.f k l0).bind fun bt161 => (some bt161.1)) = some r := h
  clear h
  replace H := Option.bind_eq_some_iff.mp H
  obtain ⟨⟨t161, t162, t163⟩, A20, H⟩ := H
  replace H : (some t161) = some r := H
  have A2 := Aside0.mk A20
  clear A20
  obtain rfl := Option.some.inj H
  go_enter Try.func16, Try.ntmps16
  go_wp2_with (first | ((with_reducible refine gate_callee (f := 34) rfl ?_); refine goesL_ (some 8) rfl rfl Try.func34 J8 rfl #[.slice A0 l0.length c0] rfl J1 ?_; (with_reducible refine (array_walk.calls k _ _ l0 t161 t162 t163 _ ?side1 ?side2 A2.out).mono ?_); (case side1 => repeat (first | exact HR0.out | (with_reducible refine Kd.C_alloc ?_ _) | (with_reducible refine Kd.C_drewN ?_ _) | (with_reducible refine Kd.C_drew ?_))); (case side2 => exact HC0.out); rintro e w3 ⟨rfl, hb⟩; refine ⟨_, rfl, ?_⟩; have n0_ := Aside0.mk (below_step J0 hb); clear HB; have HB := n0_; clear n0_; (try clear hb); (try clear hb2); (try clear hk); (try clear hi)))
  go_ret
  exact ⟨J4, J0⟩
def array_Right.f (k : Nat) (l0 : List (S32)) : Option (Bool) := if (l0.length : Int) > 0 then ((array_Take.f k l0).bind fun t164 => (some (t164 == (l0.length : Int)))) else (some false)
theorem array_Right.mono : ∀ a0 k, LeO (array_Right.f k a0) (array_Right.f (k + 1) a0) := by
  intro a0 k
  unfold array_Right.f
  repeat' first
      | (with_reducible exact array_Take.mono _ _)
      | (with_reducible exact LeO.refl _)
      | (with_reducible exact LeO.none _)
      | (with_reducible refine LeO.ite ?_ ?_)
      | (with_reducible refine LeO.bind ?_ (fun _ => ?_))
      | exact array_Take.mono _ _
      | exact LeO.none _
      | refine LeO.ite ?_ ?_
      | refine LeO.bind ?_ (fun _ => ?_)
set_option maxHeartbeats 8000000 in
set_option maxRecDepth 100000 in
theorem array_Right.calls (k : Nat) (A0 : Option Addr) (c0 : Nat) (l0 : List (S32)) (r : Bool) (w : World) (hr0 : Kd.C k32 w A0 l0.length l0) (hc0 : l0.length ≤ c0) (h : array_Right.f k l0 = some r) :
    Calls Try.prog 14 #[.slice A0 l0.length c0] w fun e w' => e = .returned (.bool r) ∧ Below w.heap.size w w' := by
  have HR0 := Aside0.mk hr0
  have HC0 := Aside0.mk hc0
  clear hr0 hc0
  have HB := Aside0.mk (Below.refl w.heap.size w)
  have H : (if (l0.length : Int) > 0 then ((array_Take.f k l0).bind fun t164 => (some (t164 == (l0.length : Int)))) else (some false)) = some r := h
  clear h
  by_cases c2 : (l0.length : Int) > 0
  rotate_left
  · rw [if_neg c2] at H
    have c2b0 := decide_eq_false c2
    have c2b1 : decide (0 < l0.length) = false := decide_eq_false J28
    clear c2
    obtain rfl := Option.some.inj H
    go_enter Try.func14, Try.ntmps14
    go_wp2
    go_ret
    exact ⟨J4, J0⟩
  rw [if_pos c2] at H
  have c2b0 := decide_eq_true c2
  have c2b1 : decide (0 < l0.length) = true := decide_eq_true J28
  clear c2
  replace H := Option.bind_eq_some_iff.mp H
  obtain ⟨t164, A30, H⟩ := H
  have A3 := Aside0.mk A30
  clear A30
  obtain rfl := Option.some.inj H
  go_enter Try.func14, Try.ntmps14
  go_wp2_with (first | (go_at_call 16; (with_reducible refine (array_Take.calls k _ _ l0 t164 _ ?side1 ?side2 A3.out).mono ?_); (case side1 => repeat (first | exact HR0.out | (with_reducible refine Kd.C_alloc ?_ _) | (with_reducible refine Kd.C_drewN ?_ _) | (with_reducible refine Kd.C_drew ?_))); (case side2 => exact HC0.out); rintro e w4 ⟨rfl, hb⟩; have n0_ := Aside0.mk (below_step J0 hb); clear HB; have HB := n0_; clear n0_; (try clear hb); (try clear hb2); (try clear hk); (try clear hi)))
  go_ret
  exact ⟨J4, J0⟩
mutual
def array_Kids.j0 : Nat → List (S32) → List (List (S32)) → Bool → Option ((List (List (S32))))
  | 0, _, _, _ => none
  | k + 1, x0, x2, x13 => if x13 = true then (some ([] : List (List (S32)))) else (if 1 ≤ (x0.length : Int) then (array_Kids.l0 k (x0.drop 1) x2) else (none))
def array_Kids.l0 : Nat → List (S32) → List (List (S32)) → Option ((List (List (S32))))
  | 0, _, _ => none
  | k + 1, x0, x2 => if (x0.length : Int) > 0 then ((array_Take.f k x0).bind fun t172 => (if 0 ≤ t172 then (if t172 ≤ (x0.length : Int) then ((array_Copy.f (x0.take (t172 : Int).toNat)).bind fun t178 => (if x2.length < 5864062014805 then (array_Kids.l0 k (x0.drop (t172 : Int).toNat) (x2 ++ [t178])) else (none))) else (none)) else (none))) else (some x2)
end
def array_Kids.f (k : Nat) (l0 : List (S32)) : Option ((List (List (S32)))) := (array_Right.f k l0).bind fun t165 => (if t165 = true then (if 0 < (l0.length : Int) then (array_Kids.j0 k l0 ([] : List (List (S32))) (((rd_T32 l0 0).f0) != 5)) else (none)) else (array_Kids.j0 k l0 ([] : List (List (S32))) true))
theorem array_Kids.mono_l : ∀ k, (∀ y0 y1 y2, LeO (array_Kids.j0 k y0 y1 y2) (array_Kids.j0 (k + 1) y0 y1 y2)) ∧ (∀ y0 y1, LeO (array_Kids.l0 k y0 y1) (array_Kids.l0 (k + 1) y0 y1))
  | 0 => ⟨fun _ _ _ r h => by simp [array_Kids.j0] at h, fun _ _ r h => by simp [array_Kids.l0] at h⟩
  | k + 1 => by
    obtain ⟨ih0, ih1⟩ := array_Kids.mono_l k
    refine ⟨?_, ?_⟩
    · intro y0 y1 y2
      unfold array_Kids.j0
      repeat' first
      | (with_reducible exact ih0 _ _ _)
      | (with_reducible exact ih1 _ _)
      | (with_reducible exact array_Right.mono _ _)
      | (with_reducible exact array_Take.mono _ _)
      | (with_reducible exact LeO.refl _)
      | (with_reducible exact LeO.none _)
      | (with_reducible refine LeO.ite ?_ ?_)
      | (with_reducible refine LeO.bind ?_ (fun _ => ?_))
      | exact ih0 _ _ _
      | exact ih1 _ _
      | exact array_Right.mono _ _
      | exact array_Take.mono _ _
      | exact LeO.none _
      | refine LeO.ite ?_ ?_
      | refine LeO.bind ?_ (fun _ => ?_)
    · intro y0 y1
      unfold array_Kids.l0
      repeat' first
      | (with_reducible exact ih0 _ _ _)
      | (with_reducible exact ih1 _ _)
      | (with_reducible exact array_Right.mono _ _)
      | (with_reducible exact array_Take.mono _ _)
      | (with_reducible exact LeO.refl _)
      | (with_reducible exact LeO.none _)
      | (with_reducible refine LeO.ite ?_ ?_)
      | (with_reducible refine LeO.bind ?_ (fun _ => ?_))
      | exact ih0 _ _ _
      | exact ih1 _ _
      | exact array_Right.mono _ _
      | exact array_Take.mono _ _
      | exact LeO.none _
      | refine LeO.ite ?_ ?_
      | refine LeO.bind ?_ (fun _ => ?_)
theorem array_Kids.mono : ∀ a0 k, LeO (array_Kids.f k a0) (array_Kids.f (k + 1) a0) := by
  intro a0 k
  obtain ⟨ih0, ih1⟩ := array_Kids.mono_l k
  unfold array_Kids.f
  repeat' first
      | (with_reducible exact ih0 _ _ _)
      | (with_reducible exact ih1 _ _)
      | (with_reducible exact array_Right.mono _ _)
      | (with_reducible exact array_Take.mono _ _)
      | (with_reducible exact LeO.refl _)
      | (with_reducible exact LeO.none _)
      | (with_reducible refine LeO.ite ?_ ?_)
      | (with_reducible refine LeO.bind ?_ (fun _ => ?_))
      | exact ih0 _ _ _
      | exact ih1 _ _
      | exact array_Right.mono _ _
      | exact array_Take.mono _ _
      | exact LeO.none _
      | refine LeO.ite ?_ ?_
      | refine LeO.bind ?_ (fun _ => ?_)
def array_Kids.T6 : Bool × List (List Nat × List Nat) := (true, [([], []), ([], []), ([], []), ([1, 2], [1, 2]), ([3], [3]), ([4], [4]), ([0, 5, 4], [0, 5]), ([], []), ([], []), ([7, 8], [7, 8]), ([6, 6, 0, 1, 2, 3, 4, 5, 6], [0, 6]), ([9, 10, 0, 1, 2, 3, 4, 5, 6, 7, 8, 9, 10], [1, 7, 9])])
def array_Kids.B6 : List Nat := [0, 0, 0, 6, 14, 30, 63, 0, 0, 384, 127, 2047]
theorem array_Kids.tab6 : rtab .any (opsOf Try.f10 6) = array_Kids.T6 := J8
theorem array_Kids.bits6 : waitsOk array_Kids.T6.2 array_Kids.B6 = true := J8
set_option maxHeartbeats 8000000 in
set_option maxRecDepth 100000 in
theorem array_Kids.calls0 (k : Nat) (P0_ : Nat → Prop) (A0 : Option Addr) (c0 : Nat) (l0 : List (S32)) (r : List (List (S32))) (w : World) (hs0 : Kd.V k32 32 w w.heap.size (fun k_ => P0_ k_) (.slice A0 l0.length c0) l0) (h : array_Kids.f k l0 = some r) :
    Calls Try.prog 10 #[.slice A0 l0.length c0] w fun e w' => ∃ v0_ : Value, e = .returned (v0_) ∧ Kd.R (Kd.slice 32 k32) 22 w' w.heap.size (fun k_ => (w.heap.size ≤ k_)) v0_ r ∧ Below w.heap.size w w' := by
  have HO0 := Aside0.mk (show Kd.V k32 32 w w.heap.size (fun k_ => (P0_ k_ ∨ w.heap.size ≤ k_)) (.slice A0 l0.length c0) l0 from Kd.V_mono hs0 (fun k_ hk => .inl hk))
  have HB := Aside0.mk (Below.refl w.heap.size w)
  have H : ((array_Right.f k l0).bind fun t165 => (if t165 = true then (if 0 < (l0.length : Int) then (array_Kids.j0 k l0 ([] : List (List (S32))) (((rd_T32 l0 0).f0) != 5)) else (none)) else (array_Kids.j0 k l0 ([] : List (List (S32))) true))) = some r := h
  clear h
  have HC2 := Aside0.mk H
  clear H
  go_enter Try.func10, Try.ntmps10
  go_upto_region 1 with (fail)
  go_cut [13] (fun v13 wc => ∃ (kq : Nat) (x13_1 : Bool), v13 = .bool x13_1 ∧ Aside0 (array_Kids.j0 kq l0 ([] : List (List (S32))) x13_1 = some r) ∧ Aside0 (kq ≤ k) ∧ Aside0 (Kd.V k32 32 wc w.heap.size (fun k_ => (P0_ k_ ∨ w.heap.size ≤ k_) ∧ some k_ ≠ ((.slice none 0 0) : Value).ownBlock) (.slice A0 l0.length c0) l0) ∧ Aside0 (Kd.R (Kd.slice 32 k32) 22 wc w.heap.size (fun k_ => (w.heap.size ≤ k_)) (.slice none 0 0) ([] : List (List (S32)))) ∧ Aside0 (Below w.heap.size w wc))
  case first =>
    have H := HC2.out
    clear HC2
    replace H := Option.bind_eq_some_iff.mp H
    obtain ⟨t165, A30, H⟩ := H
    have A3 := Aside0.mk A30
    clear A30
    by_cases c4 : t165 = true
    rotate_left
    · replace c4 := Bool.eq_false_iff.mpr c4
      subst c4
      have H1 : (array_Kids.j0 k l0 ([] : List (List (S32))) true) = some r := J7
      clear H
      have H := H1
      clear H1
      have H' := Aside0.mk H
      clear H
      go_wp2_with (first | ((with_reducible refine gate_callee (f := 14) rfl ?_); refine goesL_ (some 5) rfl rfl Try.func14 J8 rfl #[.slice A0 l0.length c0] rfl J1 ?_; (with_reducible refine (array_Right.calls k _ _ l0 false _ ?side1 ?side2 A3.out).mono ?_); (case side1 => repeat (first | exact (Kd.V_reads' HO0.out).2.2 | (with_reducible refine Kd.C_alloc ?_ _) | (with_reducible refine Kd.C_drewN ?_ _) | (with_reducible refine Kd.C_drew ?_))); (case side2 => exact (Kd.V_reads' HO0.out).2.1); rintro e w7 ⟨rfl, hb⟩; refine ⟨_, rfl, ?_⟩; have n0_ := Aside0.mk (Kd.V_below (zv HO0.out) hb); have n1_ := Aside0.mk (below_step J0 hb); clear HO0; clear HB; have HO0 := n0_; have HB := n1_; clear n0_ n1_; (try clear hb); (try clear hb2); (try clear hk); (try clear hi)))
      go_meet
      case rel => exact ⟨_, (true), J5, H', ⟨J23⟩, ⟨J52⟩, ⟨J31⟩, ⟨J0⟩⟩
    subst c4
    have H1 : (if 0 < (l0.length : Int) then (array_Kids.j0 k l0 ([] : List (List (S32))) (((rd_T32 l0 0).f0) != 5)) else (none)) = some r := J14
    clear H
    have H := H1
    clear H1
    by_cases c5 : 0 < (l0.length : Int)
    rotate_left
    · rw [if_neg c5] at H
      exact absurd H J21
    rw [if_pos c5] at H
    have c5b0 := decide_eq_true c5
    have c5b1 : decide (0 < l0.length) = true := decide_eq_true J28
    clear c5
    (first | rw [c5b0] | (simp only [i64_w, i32_w]; rw [c5b0]) | skip)
    have H' := Aside0.mk H
    clear H
    go_wp2_with (first | ((with_reducible refine gate_callee (f := 14) rfl ?_); refine goesL_ (some 5) rfl rfl Try.func14 J8 rfl #[.slice A0 l0.length c0] rfl J1 ?_; (with_reducible refine (array_Right.calls k _ _ l0 true _ ?side1 ?side2 A3.out).mono ?_); (case side1 => repeat (first | exact (Kd.V_reads' HO0.out).2.2 | (with_reducible refine Kd.C_alloc ?_ _) | (with_reducible refine Kd.C_drewN ?_ _) | (with_reducible refine Kd.C_drew ?_))); (case side2 => exact (Kd.V_reads' HO0.out).2.1); rintro e w6 ⟨rfl, hb⟩; refine ⟨_, rfl, ?_⟩; have n0_ := Aside0.mk (Kd.V_below (zv HO0.out) hb); have n1_ := Aside0.mk (below_step J0 hb); clear HO0; clear HB; have HO0 := n0_; have HB := n1_; clear n0_ n1_; (try clear hb); (try clear hb2); (try clear hk); (try clear hi); have p166 : 0 ≤ (0 : Int) := J28; have q166 : 0 < (l0.length : Int) := of_decide_eq_true J2; obtain ⟨ad166, A166_1, c166_1, A166_2, c166_2, A166_3, c166_3, e166, hx166_0, hx166_1, hx166_2, hx166_3, hl166_1, hi166_1, hl166_2, hi166_2, hl166_3, hi166_3⟩ := at_T32 (Kd.V_reads' HO0.out).2.2 0 p166 q166; cases e166; obtain ⟨ce166, hce166, hMe166, hcc166⟩ := Kd.V_get HO0.out z32 0 p166 (by first | exact q166 | exact of_decide_eq_true J2 | (have e_ := (Kd.V_reads' HO0.out).1; omega)); obtain ⟨ua166_1, uc166_1, ua166_2, uc166_2, ua166_3, uc166_3, rfl, ul166_1, ge166_1, ul166_2, ge166_2, ul166_3, ge166_3⟩ := k32_openF hMe166; have hv166_1 := hcc166 1 _ rfl; rw [add_field _ _ 1 J28] at hv166_1; replace hv166_1 := Option.some.inj (hv166_1.symm.trans hx166_1); injection hv166_1 with hva_ hvn_ hvc_; rw [hva_] at ge166_1; rw [hvc_] at ul166_1; have HL166_1 := Aside0.mk (show Kd.V (Kd.int .i64) 3 _ w.heap.size _ _ ((rd_T32 l0 0).f1) from Kd.V_mk ul166_1 ge166_1); clear hva_ hvn_ hvc_ ge166_1 ul166_1; have hv166_2 := hcc166 2 _ rfl; rw [add_field _ _ 2 J28] at hv166_2; replace hv166_2 := Option.some.inj (hv166_2.symm.trans hx166_2); injection hv166_2 with hva_ hvn_ hvc_; rw [hva_] at ge166_2; rw [hvc_] at ul166_2; have HL166_2 := Aside0.mk (show Kd.V (Kd.int .i64) 3 _ w.heap.size _ _ ((rd_T32 l0 0).f2) from Kd.V_mk ul166_2 ge166_2); clear hva_ hvn_ hvc_ ge166_2 ul166_2; have hv166_3 := hcc166 3 _ rfl; rw [add_field _ _ 3 J28] at hv166_3; replace hv166_3 := Option.some.inj (hv166_3.symm.trans hx166_3); injection hv166_3 with hva_ hvn_ hvc_; rw [hva_] at ge166_3; rw [hvc_] at ul166_3; have HL166_3 := Aside0.mk (show Kd.V k41 41 _ w.heap.size _ _ ((rd_T32 l0 0).f3) from Kd.V_mk ul166_3 ge166_3); clear hva_ hvn_ hvc_ ge166_3 ul166_3; clear hcc166 hce166; have qi166 : (0 < l0.length) = True := eq_true J28; (try rw [show ((0 : Int)).toNat = 0 from rfl] at hx166_0); (try rw [show 0 * 4 = 0 from rfl] at hx166_0); (try rw [Addr.add_zero'] at hx166_0); (try rw [show ((0 : Int)).toNat = 0 from rfl] at hx166_1); (try rw [show 0 * 4 = 0 from rfl] at hx166_1); (try rw [Addr.add_zero'] at hx166_1); (try rw [show ((0 : Int)).toNat = 0 from rfl] at hx166_2); (try rw [show 0 * 4 = 0 from rfl] at hx166_2); (try rw [Addr.add_zero'] at hx166_2); (try rw [show ((0 : Int)).toNat = 0 from rfl] at hx166_3); (try rw [show 0 * 4 = 0 from rfl] at hx166_3); (try rw [Addr.add_zero'] at hx166_3); have HR166_1 := Aside0.mk hi166_1; have HC166_1 := Aside0.mk hl166_1; clear hi166_1 hl166_1; have HR166_2 := Aside0.mk hi166_2; have HC166_2 := Aside0.mk hl166_2; clear hi166_2 hl166_2; have HR166_3 := Aside0.mk hi166_3; have HC166_3 := Aside0.mk hl166_3; clear hi166_3 hl166_3; replace p166 := eq_true p166; replace q166 := eq_true q166))
    go_meet
    case rel => exact ⟨_, ((((rd_T32 l0 0).f0) != 5)), J5, H', ⟨J23⟩, ⟨J52⟩, ⟨J31⟩, ⟨J0⟩⟩
  case rest =>
    clear HC2
    try clear c1
    try clear p1
    try clear q1
    try clear hx1
    try clear qi1
    try clear p2
    try clear c4
    try clear c5
    try clear c5b0
    try clear c5b1
    try clear hx166_0
    try clear hx166_1
    try clear hx166_2
    try clear hx166_3
    try clear p166
    try clear q166
    obtain ⟨kq, x13_1, rfl, HA, HJ1, HO_0, HO_2, HB⟩ := hcut
    cases kq with
    | zero => exact absurd HA.out (by simp [array_Kids.j0])
    | succ kj1 =>
      have H := HA.out
      clear HA
      simp only [array_Kids.j0] at H
      by_cases c8 : x13_1 = true
      · subst c8
        have H1 : (some ([] : List (List (S32)))) = some r := J14
        clear H
        have H := H1
        clear H1
        obtain rfl := Option.some.inj H
        go_wp2
        go_ret
        exact ⟨_, J4, J31, J0⟩
      replace c8 := Bool.eq_false_iff.mpr c8
      subst c8
      have H1 : (if 1 ≤ (l0.length : Int) then (array_Kids.l0 kj1 (l0.drop 1) ([] : List (List (S32)))) else (none)) = some r := J7
      clear H
      have H := H1
      clear H1
      by_cases c9 : 1 ≤ (l0.length : Int)
      rotate_left
      · rw [if_neg c9] at H
        exact absurd H J21
      rw [if_pos c9] at H
      have c9b0 := eq_true c9
      have c9b1 := decide_eq_true c9
      clear c9
      obtain ⟨y167, hy167⟩ : ∃ y_ : List (S32), y_ = (l0.drop 1) := ⟨_, rfl⟩
      replace H : (array_Kids.l0 kj1 y167 ([] : List (List (S32)))) = some r := by first | (rw [hy167]; with_reducible exact H) | (have H2_ := (Option.bind_some _ _).symm.trans H; rw [hy167]; with_reducible exact H2_) | (have H2_ := (Option.bind_some _ _).symm.trans H; with_reducible exact H2_) | with_reducible exact H | (rw [hy167]; exact H) | exact H
      have Ny167 := Aside0.mk hy167
      clear hy167
      have H' := Aside0.mk H
      clear H
      have q10 : (1 : Int) ≤ ((l0.length : Int) : Int) := of_decide_eq_true J2
      obtain ⟨i010, hi010, _, hsz10, _⟩ := info_parts info32
      have hroom10 : l0.length ≤ c0 := (Kd.V_reads' HO_0.out).2.1
      have hC10 : Kd.F k32 _ _ A0 l0.length l0 := (Kd.V_at (base := w.heap.size) HO_0.out).2.2
      have hcut10 := cut_from (P := Try.prog) 22 32 .i64 Try.underlying22 hi010 4 hsz10 A0 l0.length c0 1 J28 q10
      have hr10 := Kd.F_cut (m := (1 : Int).toNat) (c := c0) hC10 J28 hroom10
      obtain ⟨A10, hA10⟩ : ∃ A_, A_ = (if c0 = (1 : Int).toNat then A0 else (A0 : Option Addr).map (·.add ((1 : Int).toNat * 4))) := ⟨_, rfl⟩
      obtain ⟨c10, hc10⟩ : ∃ c_, c_ = c0 - (1 : Int).toNat := ⟨_, rfl⟩
      have hy10 : y167.length = l0.length - (1 : Int).toNat := (by rw [Ny167.out, List.length_drop] <;> omega)
      rw [show (l0).drop (1 : Int).toNat = y167 from Ny167.out.symm] at hr10
      replace hr10 : Kd.F k32 _ _ A10 y167.length y167 := (by rw [hA10]; exact hr10)
      rw [← hy10, ← hA10, ← hc10] at hcut10
      have HO171 := Aside0.mk (show Kd.V k32 32 _ w.heap.size _ (.slice A10 y167.length c10) y167 from Kd.V_mk (by rw [hy10, hc10]; exact Nat.sub_le_sub_right hroom10 _) hr10)
      have HC171 := Aside0.mk (show y167.length ≤ c10 from by rw [hy10, hc10]; exact Nat.sub_le_sub_right hroom10 _)
      clear hr10 hC10 hroom10 hi010 hsz10 hc10
      have KY10 := Aside0.mk hy10
      have KA10 := Aside0.mk hA10
      clear hy10 hA10
      replace q10 := eq_true q10
      go_wp2
      go_loopg [0, 2] kj1 (fun kq v0 v2 w' => ∃ (x0_2 : List (S32)) (x2_2 : List (List (S32))), Aside0 (array_Kids.l0 kq x0_2 x2_2 = some r) ∧ Aside0 (kq ≤ kj1) ∧ Aside0 (Kd.V k32 32 w' w.heap.size (fun k_ => (P0_ k_ ∨ w.heap.size ≤ k_) ∧ some k_ ≠ (v2 : Value).ownBlock) v0 x0_2) ∧ Aside0 (Kd.R (Kd.slice 32 k32) 22 w' w.heap.size (fun k_ => (w.heap.size ≤ k_)) v2 x2_2) ∧ Aside0 (Below w.heap.size w w'))
      case atStart => exact ⟨(y167), (([] : List (List (S32)))), H', ⟨Nat.le_refl _⟩, ⟨by (with_reducible repeat (first | apply Kd.V_alloc | apply Kd.V_drewN | apply Kd.V_drew)); exact HO171.out⟩, ⟨J71⟩, ⟨J0⟩⟩
      case round =>
        clear H'
        try clear c1
        try clear p1
        try clear q1
        try clear hx1
        try clear qi1
        try clear p2
        try clear c4
        try clear c5
        try clear c5b0
        try clear c5b1
        try clear c8
        try clear c9
        try clear c9b0
        try clear c9b1
        try clear c10
        try clear q10
        try clear hx166_0
        try clear hx166_1
        try clear hx166_2
        try clear hx166_3
        try clear p1
        try clear p166
        try clear p2
        try clear q1
        try clear q10
        try clear q166
        obtain ⟨x0_2, x2_2, HA, HK2, HO_0, HO_2, HB⟩ := hrel
        cases gk with
        | zero => exact absurd HA.out (by simp [array_Kids.l0])
        | succ k2 =>
          have H := HA.out
          clear HA
          simp only [array_Kids.l0] at H
          by_cases c11 : (x0_2.length : Int) > 0
          rotate_left
          · rw [if_neg c11] at H
            have c11b0 := decide_eq_false c11
            have c11b1 : decide (0 < x0_2.length) = false := decide_eq_false J28
            clear c11
            obtain rfl := Option.some.inj H
            obtain ⟨Ao27, co27, eo27⟩ := Kd.V_slice HO_0.out
            subst eo27
            go_wp2
            go_ret
            exact ⟨_, J4, J71, J0⟩
          rw [if_pos c11] at H
          have c11b0 := decide_eq_true c11
          have c11b1 : decide (0 < x0_2.length) = true := decide_eq_true J28
          clear c11
          replace H := Option.bind_eq_some_iff.mp H
          obtain ⟨t172, A120, H⟩ := H
          have A12 := Aside0.mk A120
          clear A120
          by_cases c13 : 0 ≤ t172
          rotate_left
          · rw [if_neg c13] at H
            exact absurd H J21
          rw [if_pos c13] at H
          have c13b0 := eq_true c13
          have c13b1 := decide_eq_true c13
          clear c13
          by_cases c14 : t172 ≤ (x0_2.length : Int)
          rotate_left
          · rw [if_neg c14] at H
            exact absurd H J21
          rw [if_pos c14] at H
          have c14b0 := eq_true c14
          have c14b1 := decide_eq_true c14
          clear c14
          obtain ⟨y173, hy173⟩ : ∃ y_ : List (S32), y_ = (x0_2.take (t172 : Int).toNat) := ⟨_, rfl⟩
          replace H : ((array_Copy.f y173).bind fun t178 => (if x2_2.length < 5864062014805 then (array_Kids.l0 k2 (x0_2.drop (t172 : Int).toNat) (x2_2 ++ [t178])) else (none))) = some r := by first | (rw [hy173]; with_reducible exact H) | (have H2_ := (Option.bind_some _ _).symm.trans H; rw [hy173]; with_reducible exact H2_) | (have H2_ := (Option.bind_some _ _).symm.trans H; with_reducible exact H2_) | with_reducible exact H | (rw [hy173]; exact H) | exact H
          have Ny173 := Aside0.mk hy173
          clear hy173
          replace H := Option.bind_eq_some_iff.mp H
          obtain ⟨t178, A150, H⟩ := H
          have A15 := Aside0.mk A150
          clear A150
          by_cases c16 : x2_2.length < 5864062014805
          rotate_left
          · rw [if_neg c16] at H
            exact absurd H J21
          rw [if_pos c16] at H
          have LMc16 := Aside0.mk c16
          clear c16
          obtain ⟨y181, hy181⟩ : ∃ y_ : List (List (S32)), y_ = (x2_2 ++ [t178]) := ⟨_, rfl⟩
          replace H : (array_Kids.l0 k2 (x0_2.drop (t172 : Int).toNat) y181) = some r := by first | (rw [hy181]; with_reducible exact H) | (have H2_ := (Option.bind_some _ _).symm.trans H; rw [hy181]; with_reducible exact H2_) | (have H2_ := (Option.bind_some _ _).symm.trans H; with_reducible exact H2_) | with_reducible exact H | (rw [hy181]; exact H) | exact H
          have Ny181 := Aside0.mk hy181
          clear hy181
          have c17b0 := eq_true (of_decide_eq_true J2 : 0 ≤ t172)
          have c18b0 := eq_true (of_decide_eq_true J2 : t172 ≤ (x0_2.length : Int))
          obtain ⟨y184, hy184⟩ : ∃ y_ : List (S32), y_ = (x0_2.drop (t172 : Int).toNat) := ⟨_, rfl⟩
          replace H : (array_Kids.l0 k2 y184 y181) = some r := by first | (rw [hy184]; with_reducible exact H) | (have H2_ := (Option.bind_some _ _).symm.trans H; rw [hy184]; with_reducible exact H2_) | (have H2_ := (Option.bind_some _ _).symm.trans H; with_reducible exact H2_) | with_reducible exact H | (rw [hy184]; exact H) | exact H
          have Ny184 := Aside0.mk hy184
          clear hy184
          have H' := Aside0.mk H
          clear H
          obtain ⟨Ao19, co19, eo19⟩ := Kd.V_slice HO_0.out
          subst eo19
          try go_wp2_with (first | ((with_reducible refine gate_callee (f := 16) rfl ?_); refine goesL_ (some 20) rfl rfl Try.func16 J8 rfl #[.slice Ao19 x0_2.length co19] rfl J1 ?_; (with_reducible refine (array_Take.calls k2 _ _ x0_2 t172 _ ?side1 ?side2 A12.out).mono ?_); (case side1 => repeat (first | exact (Kd.V_reads' HO_0.out).2.2 | (with_reducible refine Kd.C_alloc ?_ _) | (with_reducible refine Kd.C_drewN ?_ _) | (with_reducible refine Kd.C_drew ?_))); (case side2 => exact (Kd.V_reads' HO_0.out).2.1); rintro e w20 ⟨rfl, hb⟩; refine ⟨_, rfl, ?_⟩; have n0_ := Aside0.mk (Kd.V_below (zv HO_0.out) hb); have n1_ := Aside0.mk (Kd.R_below (zr HO_2.out) hb); have n2_ := Aside0.mk (below_step J0 hb); clear HO_0; clear HO_2; clear HB; have HO_0 := n0_; have HO_2 := n1_; have HB := n2_; clear n0_ n1_ n2_; (try clear hb); (try clear hb2); (try clear hk); (try clear hi)))
          have n0_ := Aside0.mk (Kd.V_drew HO_0.out)
          have n1_ := Aside0.mk (Kd.R_drew HO_2.out)
          have n2_ := Aside0.mk (below_drew1 HB.out)
          clear HO_0
          clear HO_2
          clear HB
          have HO_0 := n0_
          have HO_2 := n1_
          have HB := n2_
          clear n0_ n1_ n2_
          have q22 : (t172 : Int) ≤ ((x0_2.length : Int) : Int) := of_decide_eq_true J2
          obtain ⟨i022, hi022, _, hsz22, _⟩ := info_parts info32
          have hroom22 : x0_2.length ≤ co19 := (Kd.V_reads' HO_0.out).2.1
          have hC22 : Kd.F k32 _ _ Ao19 x0_2.length x0_2 := (Kd.V_at (base := w.heap.size) HO_0.out).2.2
          have hcut22 := cut_to (P := Try.prog) 22 32 .i64 Try.underlying22 hi022 Ao19 x0_2.length co19 t172 (of_decide_eq_true J2) q22 hroom22
          have hr22 := Kd.F_take (m := (t172 : Int).toNat) hC22 J28
          have hy22 : y173.length = (t172 : Int).toNat := (by rw [Ny173.out, List.length_take]; omega)
          rw [← Ny173.out] at hr22
          rw [← hy22] at hcut22
          have HO177 := Aside0.mk (show Kd.V k32 32 _ w.heap.size _ (.slice Ao19 y173.length co19) y173 from Kd.V_mk J28 hr22)
          have HC177 := Aside0.mk (show y173.length ≤ co19 from by omega)
          clear hr22 hC22 hroom22 hi022 hsz22
          have KY22 := Aside0.mk hy22
          clear hy22
          replace q22 := eq_true q22
          have q23 : (t172 : Int) ≤ ((x0_2.length : Int) : Int) := of_decide_eq_true J2
          obtain ⟨i023, hi023, _, hsz23, _⟩ := info_parts info32
          have hroom23 : x0_2.length ≤ co19 := (Kd.V_reads' HO_0.out).2.1
          have hC23 : Kd.F k32 _ _ Ao19 x0_2.length x0_2 := (Kd.V_at (base := w.heap.size) HO_0.out).2.2
          have q023 : (0 : Int) ≤ (t172 : Int) := of_decide_eq_true J2
          have hcut23 := cut_from (P := Try.prog) 22 32 .i64 Try.underlying22 hi023 4 hsz23 Ao19 x0_2.length co19 t172 q023 q23
          have hr23 := Kd.F_cut (m := (t172 : Int).toNat) (c := co19) hC23 J28 hroom23
          obtain ⟨A23, hA23⟩ : ∃ A_, A_ = (if co19 = (t172 : Int).toNat then Ao19 else (Ao19 : Option Addr).map (·.add ((t172 : Int).toNat * 4))) := ⟨_, rfl⟩
          obtain ⟨c23, hc23⟩ : ∃ c1, c1 = co19 - (t172 : Int).toNat := ⟨_, rfl⟩
          have hy23 : y184.length = x0_2.length - (t172 : Int).toNat := (by rw [Ny184.out, List.length_drop] <;> omega)
          rw [show (x0_2).drop (t172 : Int).toNat = y184 from Ny184.out.symm] at hr23
          replace hr23 : Kd.F k32 _ _ A23 y184.length y184 := (by rw [hA23]; exact hr23)
          rw [← hy23, ← hA23, ← hc23] at hcut23
          have HO188 := Aside0.mk (show Kd.V k32 32 _ w.heap.size _ (.slice A23 y184.length c23) y184 from Kd.V_mk (by rw [hy23, hc23]; exact Nat.sub_le_sub_right hroom23 _) hr23)
          have HC188 := Aside0.mk (show y184.length ≤ c23 from by rw [hy23, hc23]; exact Nat.sub_le_sub_right hroom23 _)
          clear hr23 hC23 hroom23 hi023 hsz23 hc23
          have KY23 := Aside0.mk hy23
          have KA23 := Aside0.mk hA23
          clear hy23 hA23
          replace q23 := eq_true q23
          refine start_ (n := 12) (S := fun w' => True) (ds := []) #[false, false, false, false, false, false, false, false, false, false, false, false] J8 rfl rfl trivial (fun hHeld => ?_); refine with_tabW array_Kids.tab6 array_Kids.bits6 (fun HT_ HW_ => ?_)
          generalize w20.drew = w21 at HO_0 HO_2 HB HO177 HO188 hHeld ⊢
          refine pure_ (i := 0) (N := some 21) (v := ?_) (a' := ?_) #[true, false, false, false, false, false, false, false, false, false, false, false] rfl rfl (any_of HT_.out J8) (fun _ _ _ h => h) (Or.inl ⟨J38, ?_⟩) ?_ ?_
          rotate_left
          · intro w'
            go_simp
            with_reducible rfl
          rotate_left
          · simp only [Act.put, List.setIfInBounds_toArray, List.set_cons_zero, List.set_cons_succ, i64_w, i32_w]
            rfl
          refine pure_ (i := 1) (N := some 22) (v := ?_) (a' := ?_) #[true, true, false, false, false, false, false, false, false, false, false, false] rfl rfl (any_of HT_.out J8) (fun _ _ _ h => h) (Or.inl ⟨J38, ?_⟩) ?_ ?_
          rotate_left
          · intro w'
            go_simp
            with_reducible rfl
          rotate_left
          · simp only [Act.put, List.setIfInBounds_toArray, List.set_cons_zero, List.set_cons_succ, i64_w, i32_w]
            rfl
          refine pure_ (i := 2) (N := some 23) (v := ?_) (a' := ?_) #[true, true, true, false, false, false, false, false, false, false, false, false] rfl rfl (any_of HT_.out J8) (fun _ _ _ h => h) (Or.inl ⟨J38, ?_⟩) ?_ ?_
          rotate_left
          · intro w'
            go_simp
            with_reducible rfl
          rotate_left
          · simp only [Act.put, List.setIfInBounds_toArray, List.set_cons_zero, List.set_cons_succ, i64_w, i32_w]
            rfl
          refine pure_ (i := 3) (N := some 24) (v := ?_) (a' := ?_) #[true, true, true, true, false, false, false, false, false, false, false, false] rfl rfl (any_of HT_.out J8) (fun _ _ _ h => h) (Or.inl ⟨J38, ?_⟩) ?_ ?_
          rotate_left
          · intro w'
            go_simp
            with_reducible rfl
          rotate_left
          · simp only [Act.put, List.setIfInBounds_toArray, List.set_cons_zero, List.set_cons_succ, i64_w, i32_w]
            rfl
          refine pure_ (i := 7) (N := some 28) (v := ?_) (a' := ?_) #[true, true, true, true, false, false, false, true, false, false, false, false] rfl rfl (any_of HT_.out J8) (fun _ _ _ h => h) (Or.inl ⟨J38, ?_⟩) ?_ ?_
          rotate_left
          · intro w'
            go_simp
            with_reducible rfl
          rotate_left
          · simp only [Act.put, List.setIfInBounds_toArray, List.set_cons_zero, List.set_cons_succ, i64_w, i32_w]
            rfl
          refine pure_ (i := 8) (N := some 29) (v := ?_) (a' := ?_) #[true, true, true, true, false, false, false, true, true, false, false, false] rfl rfl (any_of HT_.out J8) (fun _ _ _ h => h) (Or.inl ⟨J38, ?_⟩) ?_ ?_
          rotate_left
          · intro w'
            go_simp
            with_reducible rfl
          rotate_left
          · simp only [Act.put, List.setIfInBounds_toArray, List.set_cons_zero, List.set_cons_succ, i64_w, i32_w]
            rfl
          refine pure_ (i := 9) (N := some 30) (v := ?_) (a' := ?_) #[true, true, true, true, false, false, false, true, true, true, false, false] rfl rfl (any_of HT_.out J8) (fun _ _ _ h => h) (Or.inl ⟨J38, ?_⟩) ?_ ?_
          rotate_left
          · intro w'
            go_simp
            with_reducible rfl
          rotate_left
          · simp only [Act.put, List.setIfInBounds_toArray, List.set_cons_zero, List.set_cons_succ, i64_w, i32_w]
            rfl
          refine one_ (i := 4) (N := some 25) #[true, true, true, true, true, false, false, true, true, true, false, false] rfl rfl (one_of HT_.out J8) J17 (fun K hK => ?_)
          refine goes_ Try.func13 J8 rfl #[.slice Ao19 y173.length co19] J38 rfl rfl J1 ?_
          with_reducible refine (array_Copy.calls _ _ y173 t178 _ ?side1 ?side2 A15.out).mono ?_
          (case side1 => repeat (first | exact (Kd.V_reads' HO177.out).2.2 | (with_reducible refine Kd.C_alloc ?_ _) | (with_reducible refine Kd.C_drewN ?_ _) | (with_reducible refine Kd.C_drew ?_)))
          (case side2 => exact (Kd.V_reads' HO177.out).2.1)
          rintro e w24 ⟨v179, rfl, ho0, hb⟩
          refine ⟨_, rfl, ?_⟩
          have n0_ := Aside0.mk (Kd.V_elder' (zv HO_0.out) (Kd.S_base ho0) hb)
          have n1_ := Aside0.mk (Kd.R_elder' (zr HO_2.out) (Kd.S_base ho0) hb)
          have n3_ := Aside0.mk (Kd.V_elder' (zv HO188.out) (Kd.S_base ho0) hb)
          have n4_ := Aside0.mk (Kd.S_lower (Kd.S_newM (M := fun k_ => (w.heap.size ≤ k_)) ho0 (below_size J0) (fun k_ h_ => h_)) (below_size J0))
          have n5_ := Aside0.mk (below_step J0 hb)
          clear HO_0
          clear HO_2
          clear HO188
          clear HB
          have HO_0 := n0_
          have HO_2 := n1_
          have HO188 := n3_
          have HO180 := n4_
          have HB := n5_
          clear n0_ n1_ n3_ n4_ n5_
          (try clear hb)
          (try clear hb2)
          (try clear hk)
          (try clear hi)
          (try clear ho0)
          obtain ⟨Ao26, co26, eo26⟩ := Kd.S_slice HO180.out
          (first | subst eo26 | (injection eo26 with f1_ f2_ f3_; have f4_ := f1_.symm; have f5_ := f3_.symm; clear f1_ f2_ f3_; subst f4_; subst f5_))
          refine hK.out _ _ trivial (fun hHeld => ?_)
          clear hK K
          refine norm_ (a' := ?_) ?_ ?_
          rotate_left
          · show Act.put _ (some 25) _ = _
            simp only [Act.put, List.setIfInBounds_toArray, List.set_cons_zero, List.set_cons_succ, i64_w, i32_w]
            rfl
          refine one_ (i := 5) (N := some 26) #[true, true, true, true, true, true, false, true, true, true, false, false] rfl rfl (one_of HT_.out J8) J17 (fun K hK => ?_)
          refine value_ (w1 := ?_) (v := ?_) J38 rfl ?_ ?_
          rotate_left 2
          · go_simp
            constructor
            · rfl
            · rfl
          refine hK.out _ _ trivial (fun hHeld => ?_)
          clear hK K
          refine norm_ (a' := ?_) ?_ ?_
          rotate_left
          · show Act.put _ (some 26) _ = _
            simp only [Act.put, List.setIfInBounds_toArray, List.set_cons_zero, List.set_cons_succ, i64_w, i32_w]
            rfl
          refine one_ (i := 6) (N := some 27) #[true, true, true, true, true, true, true, true, true, true, false, false] rfl rfl (one_of HT_.out J8) J17 (fun K hK => ?_)
          refine Kd.R_append_step (Kd.slice 32 k32) (w0 := w) w.heap.size J38 (.tmp 21) (.tmp 26) 25 22 (.slice none 0 0) 24 rfl Try.underlying25 info22 rfl J17 J28 u2 x2_2 t178 [.slice Ao26 t178.length co26] (fun k_ => (w.heap.size ≤ k_)) (fun k_ => ((fun k_ => (w.heap.size ≤ k_))) k_ ∧ some k_ ≠ (u2 : Value).ownBlock) rfl rfl ?aP (fun _ hk => hk) ?aF ?aO ?aB ?aS ?aL ?_
          (case aP => exact Kd.M_row (Kd.R_mono (Kd.R_apart' ((Kd.S_R HO180.out)) (Kd.R_typed HO_2.out) J17) (fun k_ hk => ⟨hk.1.1, hk.2⟩)))
          (case aB => exact J0)
          (case aF => exact (fun k_ hk => (Nat.le_trans (below_size J0) hk)))
          (case aO => exact (by (with_reducible repeat (first | apply Kd.R_alloc | apply Kd.R_drewN | apply Kd.R_drew)); exact Kd.R_mono HO_2.out (fun _ hk => hk.1)))
          (case aS => exact (below_size J0))
          (case aL => have := LMc16.out; omega)
          intro v182 w25 ho hb hg hat
          rw [← Ny181.out] at ho
          have n0_ := Aside0.mk (Kd.V_afterv (ok := (fun k_ => (P0_ k_ ∨ w.heap.size ≤ k_) ∧ some k_ ≠ (.slice Ao26 t178.length co26 : Value).ownBlock)) J33 hg hat)
          have n2_ := Aside0.mk (Kd.V_afterv (ok := (fun k_ => (P0_ k_ ∨ w.heap.size ≤ k_) ∧ some k_ ≠ (.slice Ao26 t178.length co26 : Value).ownBlock)) (by (with_reducible repeat (first | apply Kd.V_alloc | apply Kd.V_drewN | apply Kd.V_drew)); exact Kd.V_mono HO188.out (fun _ hk => ⟨⟨hk.1.1, hk.2⟩, hk.1.2⟩)) hg hat)
          have n3_ := Aside0.mk (hb)
          have n4_ := Aside0.mk (ho)
          clear HO_0
          clear HO188
          clear HB
          clear HO_2
          clear HO180
          have HO_0 := n0_
          have HO188 := n2_
          have HB := n3_
          have HO183 := n4_
          clear n0_ n2_ n3_ n4_
          clear ho hb hg hat
          refine hK.out _ _ trivial (fun hHeld => ?_)
          clear hK K
          refine norm_ (a' := ?_) ?_ ?_
          rotate_left
          · show Act.put _ (some 27) _ = _
            simp only [Act.put, List.setIfInBounds_toArray, List.set_cons_zero, List.set_cons_succ, i64_w, i32_w]
            rfl
          refine pure_ (i := 10) (N := some 2) (v := ?_) (a' := ?_) #[true, true, true, true, true, true, true, true, true, true, true, false] rfl rfl (any_of HT_.out J8) (fun _ _ _ h => h) (Or.inl ⟨J38, ?_⟩) ?_ ?_
          rotate_left
          · intro w'
            go_simp
            with_reducible rfl
          rotate_left
          · simp only [Act.put, List.setIfInBounds_toArray, List.set_cons_zero, List.set_cons_succ, i64_w, i32_w]
            rfl
          refine pure_ (i := 11) (N := some 0) (v := ?_) (a' := ?_) #[true, true, true, true, true, true, true, true, true, true, true, true] rfl rfl (any_of HT_.out J8) (fun _ _ _ h => h) (Or.inl ⟨J38, ?_⟩) ?_ ?_
          rotate_left
          · intro w'
            go_simp
            with_reducible rfl
          rotate_left
          · simp only [Act.put, List.setIfInBounds_toArray, List.set_cons_zero, List.set_cons_succ, i64_w, i32_w]
            rfl
          refine done_ (done_of HT_.out J8) ?_
          try go_wp2
          go_roundg k2
          case measure => have := HJ1.out; have := HK2.out; omega
          case rel => exact ⟨(y184), (y181), H', ⟨by have := HJ1.out; have := HK2.out; omega⟩, ⟨by (with_reducible repeat (first | apply Kd.V_alloc | apply Kd.V_drewN | apply Kd.V_drew)); exact Kd.V_mono HO188.out (fun _ hk => ⟨hk.1.1, hk.2⟩)⟩, ⟨by (with_reducible repeat (first | apply Kd.R_alloc | apply Kd.R_drewN | apply Kd.R_drew)); exact HO183.out⟩, ⟨J0⟩⟩
theorem array_Kids.calls (k : Nat) (P0_ : Nat → Prop) (A0 : Option Addr) (c0 : Nat) (l0 : List (S32)) (r : List (List (S32))) (w : World) (hs0 : Kd.V k32 32 w w.heap.size (fun k_ => P0_ k_) (.slice A0 l0.length c0) l0) (h : array_Kids.f k l0 = some r) :
    Calls Try.prog 10 #[.slice A0 l0.length c0] w fun e w' => ∃ v0_ : Value, e = .returned (v0_) ∧ Kd.N (Kd.slice 32 k32) 22 w' w.heap.size (fun k_ => (w.heap.size ≤ k_)) v0_ r ∧ Below w.heap.size w w' := by
  refine (array_Kids.calls0 k P0_ A0 c0 l0 r w hs0 h).mono ?_
  rintro e w' ⟨v, he, h1, hB⟩
  exact ⟨v, he, Kd.R_N h1, hB⟩
def array_Items.f (k : Nat) (l0 : List (S32)) : Option (Int) := (array_walk.f k l0).bind fun bt189 => (if bt189.1 = (l0.length : Int) then (some bt189.2.1) else (some 0))
theorem array_Items.mono : ∀ a0 k, LeO (array_Items.f k a0) (array_Items.f (k + 1) a0) := by
  intro a0 k
  unfold array_Items.f
  repeat' first
      | (with_reducible exact array_walk.mono _ _)
      | (with_reducible exact LeO.refl _)
      | (with_reducible exact LeO.none _)
      | (with_reducible refine LeO.ite ?_ ?_)
      | (with_reducible refine LeO.bind ?_ (fun _ => ?_))
      | exact array_walk.mono _ _
      | exact LeO.none _
      | refine LeO.ite ?_ ?_
      | refine LeO.bind ?_ (fun _ => ?_)
set_option maxHeartbeats 8000000 in
set_option maxRecDepth 100000 in
theorem array_Items.calls (k : Nat) (A0 : Option Addr) (c0 : Nat) (l0 : List (S32)) (r : Int) (w : World) (hr0 : Kd.C k32 w A0 l0.length l0) (hc0 : l0.length ≤ c0) (h : array_Items.f k l0 = some r) :
    Calls Try.prog 18 #[.slice A0 l0.length c0] w fun e w' => e = .returned (.int .i64 r) ∧ Below w.heap.size w w' := by
  have HR0 := Aside0.mk hr0
  have HC0 := Aside0.mk hc0
  clear hr0 hc0
  have HB := Aside0.mk (Below.refl w.heap.size w)
  have H : ((array_walk.f k l0).bind fun bt189 => (if bt189.1 = (l0.length : Int) then (some bt189.2.1) else (some 0))) = some r := h
  clear h
  replace H := Option.bind_eq_some_iff.mp H
  obtain ⟨⟨t189, t190, t191⟩, A20, H⟩ := H
  replace H : (if t189 = (l0.length : Int) then (some t190) else (some 0)) = some r := H
  have A2 := Aside0.mk A20
  clear A20
  by_cases c3 : t189 = (l0.length : Int)
  rotate_left
  · rw [if_neg c3] at H
    have c3b0 : (t189 == (l0.length : Int)) = false := beq_eq_false_iff_ne.mpr c3
    have c3b1 : (t189 != (l0.length : Int)) = true := bne_iff_ne.mpr c3
    obtain rfl := Option.some.inj H
    go_enter Try.func18, Try.ntmps18
    go_wp2_with (first | ((with_reducible refine gate_callee (f := 34) rfl ?_); refine goesL_ (some 8) rfl rfl Try.func34 J8 rfl #[.slice A0 l0.length c0] rfl J1 ?_; (with_reducible refine (array_walk.calls k _ _ l0 t189 t190 t191 _ ?side1 ?side2 A2.out).mono ?_); (case side1 => repeat (first | exact HR0.out | (with_reducible refine Kd.C_alloc ?_ _) | (with_reducible refine Kd.C_drewN ?_ _) | (with_reducible refine Kd.C_drew ?_))); (case side2 => exact HC0.out); rintro e w5 ⟨rfl, hb⟩; refine ⟨_, rfl, ?_⟩; have n0_ := Aside0.mk (below_step J0 hb); clear HB; have HB := n0_; clear n0_; (try clear hb); (try clear hb2); (try clear hk); (try clear hi)))
    go_ret
    exact ⟨J4, J0⟩
  rw [if_pos c3] at H
  have c3b0 : (t189 == (l0.length : Int)) = true := beq_iff_eq.mpr c3
  have c3b1 : (t189 != (l0.length : Int)) = false := bne_eq_false_iff_eq.mpr c3
  clear c3
  obtain rfl := Option.some.inj H
  go_enter Try.func18, Try.ntmps18
  go_wp2_with (first | ((with_reducible refine gate_callee (f := 34) rfl ?_); refine goesL_ (some 8) rfl rfl Try.func34 J8 rfl #[.slice A0 l0.length c0] rfl J1 ?_; (with_reducible refine (array_walk.calls k _ _ l0 t189 t190 t191 _ ?side1 ?side2 A2.out).mono ?_); (case side1 => repeat (first | exact HR0.out | (with_reducible refine Kd.C_alloc ?_ _) | (with_reducible refine Kd.C_drewN ?_ _) | (with_reducible refine Kd.C_drew ?_))); (case side2 => exact HC0.out); rintro e w4 ⟨rfl, hb⟩; refine ⟨_, rfl, ?_⟩; have n0_ := Aside0.mk (below_step J0 hb); clear HB; have HB := n0_; clear n0_; (try clear hb); (try clear hb2); (try clear hk); (try clear hi)))
  go_ret
  exact ⟨J4, J0⟩
def array_Depth.f (k : Nat) (l0 : List (S32)) : Option (Int) := (array_walk.f k l0).bind fun bt192 => (if bt192.1 = (l0.length : Int) then (some bt192.2.2) else (some 0))
theorem array_Depth.mono : ∀ a0 k, LeO (array_Depth.f k a0) (array_Depth.f (k + 1) a0) := by
  intro a0 k
  unfold array_Depth.f
  repeat' first
      | (with_reducible exact array_walk.mono _ _)
      | (with_reducible exact LeO.refl _)
      | (with_reducible exact LeO.none _)
      | (with_reducible refine LeO.ite ?_ ?_)
      | (with_reducible refine LeO.bind ?_ (fun _ => ?_))
      | exact array_walk.mono _ _
      | exact LeO.none _
      | refine LeO.ite ?_ ?_
      | refine LeO.bind ?_ (fun _ => ?_)
set_option maxHeartbeats 8000000 in
set_option maxRecDepth 100000 in
theorem array_Depth.calls (k : Nat) (A0 : Option Addr) (c0 : Nat) (l0 : List (S32)) (r : Int) (w : World) (hr0 : Kd.C k32 w A0 l0.length l0) (hc0 : l0.length ≤ c0) (h : array_Depth.f k l0 = some r) :
    Calls Try.prog 20 #[.slice A0 l0.length c0] w fun e w' => e = .returned (.int .i64 r) ∧ Below w.heap.size w w' := by
  have HR0 := Aside0.mk hr0
  have HC0 := Aside0.mk hc0
  clear hr0 hc0
  have HB := Aside0.mk (Below.refl w.heap.size w)
  have H : ((array_walk.f k l0).bind fun bt192 => (if bt192.1 = (l0.length : Int) then (some bt192.2.2) else (some 0))) = some r := h
  clear h
  replace H := Option.bind_eq_some_iff.mp H
  obtain ⟨⟨t192, t193, t194⟩, A20, H⟩ := H
  replace H : (if t192 = (l0.length : Int) then (some t194) else (some 0)) = some r := H
  have A2 := Aside0.mk A20
  clear A20
  by_cases c3 : t192 = (l0.length : Int)
  rotate_left
  · rw [if_neg c3] at H
    have c3b0 : (t192 == (l0.length : Int)) = false := beq_eq_false_iff_ne.mpr c3
    have c3b1 : (t192 != (l0.length : Int)) = true := bne_iff_ne.mpr c3
    obtain rfl := Option.some.inj H
    go_enter Try.func20, Try.ntmps20
    go_wp2_with (first | ((with_reducible refine gate_callee (f := 34) rfl ?_); refine goesL_ (some 8) rfl rfl Try.func34 J8 rfl #[.slice A0 l0.length c0] rfl J1 ?_; (with_reducible refine (array_walk.calls k _ _ l0 t192 t193 t194 _ ?side1 ?side2 A2.out).mono ?_); (case side1 => repeat (first | exact HR0.out | (with_reducible refine Kd.C_alloc ?_ _) | (with_reducible refine Kd.C_drewN ?_ _) | (with_reducible refine Kd.C_drew ?_))); (case side2 => exact HC0.out); rintro e w5 ⟨rfl, hb⟩; refine ⟨_, rfl, ?_⟩; have n0_ := Aside0.mk (below_step J0 hb); clear HB; have HB := n0_; clear n0_; (try clear hb); (try clear hb2); (try clear hk); (try clear hi)))
    go_ret
    exact ⟨J4, J0⟩
  rw [if_pos c3] at H
  have c3b0 : (t192 == (l0.length : Int)) = true := beq_iff_eq.mpr c3
  have c3b1 : (t192 != (l0.length : Int)) = false := bne_eq_false_iff_eq.mpr c3
  clear c3
  obtain rfl := Option.some.inj H
  go_enter Try.func20, Try.ntmps20
  go_wp2_with (first | ((with_reducible refine gate_callee (f := 34) rfl ?_); refine goesL_ (some 8) rfl rfl Try.func34 J8 rfl #[.slice A0 l0.length c0] rfl J1 ?_; (with_reducible refine (array_walk.calls k _ _ l0 t192 t193 t194 _ ?side1 ?side2 A2.out).mono ?_); (case side1 => repeat (first | exact HR0.out | (with_reducible refine Kd.C_alloc ?_ _) | (with_reducible refine Kd.C_drewN ?_ _) | (with_reducible refine Kd.C_drew ?_))); (case side2 => exact HC0.out); rintro e w4 ⟨rfl, hb⟩; refine ⟨_, rfl, ?_⟩; have n0_ := Aside0.mk (below_step J0 hb); clear HB; have HB := n0_; clear n0_; (try clear hb); (try clear hb2); (try clear hk); (try clear hi)))
  go_ret
  exact ⟨J4, J0⟩
def array_Rank.l0 : Nat → Int → List (S32) → Int → Int → Option (Int)
  | 0, _, _, _, _ => none
  | k + 1, x2, x8, x9, x10 => if x10 < x9 then (if 0 ≤ x10 then (if x10 < (x8.length : Int) then (array_Rank.l0 k (mx x2 (((rd_T32 x8 x10).f1).length : Int)) x8 x9 (wrap64 (x10 + 1))) else (none)) else (none)) else (some x2)
def array_Rank.f (k : Nat) (l0 : List (S32)) : Option (Int) := (array_Right.f k l0).bind fun t195 => (if t195 = true then (array_Rank.l0 k 0 l0 (l0.length : Int) 0) else (some 0))
theorem array_Rank.mono_l : ∀ k, (∀ y0 y1 y2 y3, LeO (array_Rank.l0 k y0 y1 y2 y3) (array_Rank.l0 (k + 1) y0 y1 y2 y3))
  | 0 => fun _ _ _ _ r h => by simp [array_Rank.l0] at h
  | k + 1 => by
    have ih0 := array_Rank.mono_l k
    · intro y0 y1 y2 y3
      unfold array_Rank.l0
      repeat' first
      | (with_reducible exact ih0 _ _ _ _)
      | (with_reducible exact array_Right.mono _ _)
      | (with_reducible exact LeO.refl _)
      | (with_reducible exact LeO.none _)
      | (with_reducible refine LeO.ite ?_ ?_)
      | (with_reducible refine LeO.bind ?_ (fun _ => ?_))
      | exact ih0 _ _ _ _
      | exact array_Right.mono _ _
      | exact LeO.none _
      | refine LeO.ite ?_ ?_
      | refine LeO.bind ?_ (fun _ => ?_)
theorem array_Rank.mono : ∀ a0 k, LeO (array_Rank.f k a0) (array_Rank.f (k + 1) a0) := by
  intro a0 k
  have ih0 := array_Rank.mono_l k
  unfold array_Rank.f
  repeat' first
      | (with_reducible exact ih0 _ _ _ _)
      | (with_reducible exact array_Right.mono _ _)
      | (with_reducible exact LeO.refl _)
      | (with_reducible exact LeO.none _)
      | (with_reducible refine LeO.ite ?_ ?_)
      | (with_reducible refine LeO.bind ?_ (fun _ => ?_))
      | exact ih0 _ _ _ _
      | exact array_Right.mono _ _
      | exact LeO.none _
      | refine LeO.ite ?_ ?_
      | refine LeO.bind ?_ (fun _ => ?_)
set_option maxHeartbeats 8000000 in
set_option maxRecDepth 100000 in
theorem array_Rank.calls (k : Nat) (A0 : Option Addr) (c0 : Nat) (l0 : List (S32)) (r : Int) (w : World) (hr0 : Kd.C k32 w A0 l0.length l0) (hc0 : l0.length ≤ c0) (h : array_Rank.f k l0 = some r) :
    Calls Try.prog 22 #[.slice A0 l0.length c0] w fun e w' => e = .returned (.int .i64 r) ∧ Below w.heap.size w w' := by
  have hu32 := Try.underlying32
  have HR0 := Aside0.mk hr0
  have HC0 := Aside0.mk hc0
  clear hr0 hc0
  have HB := Aside0.mk (Below.refl w.heap.size w)
  have H : ((array_Right.f k l0).bind fun t195 => (if t195 = true then (array_Rank.l0 k 0 l0 (l0.length : Int) 0) else (some 0))) = some r := h
  clear h
  replace H := Option.bind_eq_some_iff.mp H
  obtain ⟨t195, A20, H⟩ := H
  have A2 := Aside0.mk A20
  clear A20
  by_cases c3 : t195 = true
  rotate_left
  · replace c3 := Bool.eq_false_iff.mpr c3
    subst c3
    have H1 : (some 0) = some r := J7
    clear H
    have H := H1
    clear H1
    obtain rfl := Option.some.inj H
    go_enter Try.func22, Try.ntmps22
    go_wp2_with (first | ((with_reducible refine gate_callee (f := 14) rfl ?_); refine goesL_ (some 6) rfl rfl Try.func14 J8 rfl #[.slice A0 l0.length c0] rfl J1 ?_; (with_reducible refine (array_Right.calls k _ _ l0 false _ ?side1 ?side2 A2.out).mono ?_); (case side1 => repeat (first | exact HR0.out | (with_reducible refine Kd.C_alloc ?_ _) | (with_reducible refine Kd.C_drewN ?_ _) | (with_reducible refine Kd.C_drew ?_))); (case side2 => exact HC0.out); rintro e w11 ⟨rfl, hb⟩; refine ⟨_, rfl, ?_⟩; have n0_ := Aside0.mk (below_step J0 hb); clear HB; have HB := n0_; clear n0_; (try clear hb); (try clear hb2); (try clear hk); (try clear hi)))
    go_ret
    exact ⟨J4, J0⟩
  subst c3
  have H1 : (array_Rank.l0 k 0 l0 (l0.length : Int) 0) = some r := J14
  clear H
  have H := H1
  clear H1
  have H' := Aside0.mk H
  clear H
  go_enter Try.func22, Try.ntmps22
  go_wp2_with (first | ((with_reducible refine gate_callee (f := 14) rfl ?_); refine goesL_ (some 6) rfl rfl Try.func14 J8 rfl #[.slice A0 l0.length c0] rfl J1 ?_; (with_reducible refine (array_Right.calls k _ _ l0 true _ ?side1 ?side2 A2.out).mono ?_); (case side1 => repeat (first | exact HR0.out | (with_reducible refine Kd.C_alloc ?_ _) | (with_reducible refine Kd.C_drewN ?_ _) | (with_reducible refine Kd.C_drew ?_))); (case side2 => exact HC0.out); rintro e w4 ⟨rfl, hb⟩; refine ⟨_, rfl, ?_⟩; have n0_ := Aside0.mk (below_step J0 hb); clear HB; have HB := n0_; clear n0_; (try clear hb); (try clear hb2); (try clear hk); (try clear hi)))
  go_loopg [2, 10] k (fun kq v2 v10 w' => ∃ (x2_1 : Int) (x10_1 : Int), v2 = .int .i64 x2_1 ∧ v10 = .int .i64 x10_1 ∧ Aside0 (array_Rank.l0 kq x2_1 l0 (l0.length : Int) x10_1 = some r) ∧ Aside0 (kq ≤ k) ∧ Aside0 (Below w.heap.size w w'))
  case atStart => exact ⟨(0), (0), J5, J5, H', ⟨Nat.le_refl _⟩, ⟨J0⟩⟩
  case round =>
    clear H'
    try clear c1
    try clear c2
    try clear p2
    try clear c3
    obtain ⟨x2_1, x10_1, rfl, rfl, HA, HK1, HB⟩ := hrel
    cases gk with
    | zero => exact absurd HA.out (by simp [array_Rank.l0])
    | succ k1 =>
      have H := HA.out
      clear HA
      simp only [array_Rank.l0] at H
      by_cases c5 : x10_1 < (l0.length : Int)
      rotate_left
      · rw [if_neg c5] at H
        have c5b0 := decide_eq_false c5
        clear c5
        obtain rfl := Option.some.inj H
        go_wp2
        go_ret
        exact ⟨J4, J0⟩
      rw [if_pos c5] at H
      have c5b0 := decide_eq_true c5
      clear c5
      by_cases c6 : 0 ≤ x10_1
      rotate_left
      · rw [if_neg c6] at H
        exact absurd H J21
      rw [if_pos c6] at H
      have c6b0 := decide_eq_true c6
      clear c6
      by_cases c7 : x10_1 < (l0.length : Int)
      rotate_left
      · rw [if_neg c7] at H
        exact absurd H J21
      rw [if_pos c7] at H
      have c7b0 := decide_eq_true c7
      clear c7
      obtain ⟨ji8, hji8⟩ : ∃ j_ : Int, (mx x2_1 (((rd_T32 l0 x10_1).f1).length : Int)) = j_ := ⟨_, rfl⟩
      replace H : (array_Rank.l0 k1 ji8 l0 (l0.length : Int) (wrap64 (x10_1 + 1))) = some r := by first | (rw [hji8] at H; exact H) | (simp only [hji8] at H ⊢; exact H)
      have hji8_ : (if x2_1 < (((rd_T32 l0 x10_1).f1).length : Int) then (((rd_T32 l0 x10_1).f1).length : Int) else x2_1) = ji8 := hji8
      have H' := Aside0.mk H
      clear H
      have p196 : 0 ≤ (x10_1 : Int) := of_decide_eq_true J2
      have q196 : x10_1 < (l0.length : Int) := of_decide_eq_true J2
      obtain ⟨ad196, A196_1, c196_1, A196_2, c196_2, A196_3, c196_3, e196, hx196_0, hx196_1, hx196_2, hx196_3, hl196_1, hi196_1, hl196_2, hi196_2, hl196_3, hi196_3⟩ := at_T32 HR0.out x10_1 p196 q196
      cases e196
      replace hx196_0 := (HB.out.cell (World.block_lt_of_cell? w _ hx196_0)).trans hx196_0
      replace hx196_1 := (HB.out.cell (World.block_lt_of_cell? w _ hx196_1)).trans hx196_1
      replace hx196_2 := (HB.out.cell (World.block_lt_of_cell? w _ hx196_2)).trans hx196_2
      replace hx196_3 := (HB.out.cell (World.block_lt_of_cell? w _ hx196_3)).trans hx196_3
      have HR196_1 := Aside0.mk hi196_1
      have HC196_1 := Aside0.mk hl196_1
      clear hi196_1 hl196_1
      have HR196_2 := Aside0.mk hi196_2
      have HC196_2 := Aside0.mk hl196_2
      clear hi196_2 hl196_2
      have HR196_3 := Aside0.mk hi196_3
      have HC196_3 := Aside0.mk hl196_3
      clear hi196_3 hl196_3
      replace p196 := eq_true p196
      replace q196 := eq_true q196
      go_wp2_with (first | ((with_reducible refine gate_dst (N := 4) rfl ?_); refine box_event ?hg (N := 4) ?hd (cs := #[.int .i64 0, .slice none 0 0, .slice none 0 0, .slice none 0 0]) (t := 32) ?hr ?_; (case hd => rfl); (case hg => rfl); (case hr => first | (go_simp; done) | (go_simp; rfl)); intro gb197 hg w9 hbox hb; have n0_ := Aside0.mk (below_step J0 hb); have n1_ := Aside0.mk (hbox); have n2_ := Aside0.mk ((J18 : w.heap.size ≤ gb197)); have n3_ := Aside0.mk ((J18 : w.heap.size ≤ gb197)); clear HB; have HB := n0_; have BK197 := n1_; have GW197 := n2_; have GE197 := n3_; clear n0_ n1_ n2_ n3_; clear hb hbox hg; have hcz10_0 : w9.cell? ⟨gb197, 0, none⟩ = some (.int .i64 0) := (blk_cell BK197.out 0).trans rfl; have hcz10_1 : w9.cell? ⟨gb197, 1, none⟩ = some (.slice none 0 0) := (blk_cell BK197.out 1).trans rfl; have hcz10_2 : w9.cell? ⟨gb197, 2, none⟩ = some (.slice none 0 0) := (blk_cell BK197.out 2).trans rfl; have hcz10_3 : w9.cell? ⟨gb197, 3, none⟩ = some (.slice none 0 0) := (blk_cell BK197.out 3).trans rfl; have hfz10_0 := blk_frozen BK197.out 0; have hfz10_1 := blk_frozen BK197.out 1; have hfz10_2 := blk_frozen BK197.out 2; have hfz10_3 := blk_frozen BK197.out 3))
      go_roundg k1
      case measure => have := HK1.out; omega
      case rel => exact ⟨(ji8), (wrap64 (x10_1 + 1)), (by first | rfl | (simp; done) | (simp only [← hji8] <;> (first | rfl | simp)) | (simp [*]; done)), J5, H', ⟨J41⟩, ⟨by repeat (first | (with_reducible first | exact HB.out | apply below_alloc | apply pw_below_drewN | apply below_drew1 | refine below_set ?_ GE197.out) | exact HB.out)⟩⟩
end Go.Proofs.Ytgbmbcippldhnaa.HArraySame
