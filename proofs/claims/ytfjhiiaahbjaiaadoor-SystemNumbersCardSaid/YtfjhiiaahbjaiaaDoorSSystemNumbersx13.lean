/- What the Go functions of this claim answer, told as functions of numbers and lists, and that other memory stays as it was: words and walks, shortened by a program. -/
import Derived.Test.YtfjhiiaahbjaiaaDoorSSystemNumbersx0
import Derived.Test.YtfjhiiaahbjaiaaDoorSSystemNumbersx8
import Derived.Test.YtfjhiiaahbjaiaaDoorSSystemNumbersx12
namespace Go.Proofs.YtfjhiiaahbjaiaaDoor.HSystemSigns
open Go.RowKit Go.Proofs.YtfjhiiaahbjaiaaDoorW.PrintWords Go.Proofs.YtfjhiiaahbjaiaaDoorW.PrintLast Go.Proofs.YtfjhiiaahbjaiaaDoorW.PrintMore
attribute [local go_sem] max2_int min2_int max_two min_two max_three min_three max_four min_four
set_option linter.unusedVariables false
set_option linter.unusedSimpArgs false
def slices_IndexFunc_int_int_great.l0 : Nat → List Int → Int → Int → Option (Int)
  | 0, _, _, _ => none
  | k + 1, x0, x7, x8 => if x8 < x7 then (if 0 ≤ x8 then (if x8 < (x0.length : Int) then ((tight_Numbers_2.f (rd x0 x8)).bind fun t286 => (if t286 = true then (some x8) else (slices_IndexFunc_int_int_great.l0 k x0 x7 (wrap64 (x8 + 1))))) else (none)) else (none)) else (some (-1))
def slices_IndexFunc_int_int_great.f (k : Nat) (l0 : List Int) : Option (Int) := slices_IndexFunc_int_int_great.l0 k l0 (l0.length : Int) 0
theorem slices_IndexFunc_int_int_great.mono_l : ∀ k, (∀ y0 y1 y2, LeO (slices_IndexFunc_int_int_great.l0 k y0 y1 y2) (slices_IndexFunc_int_int_great.l0 (k + 1) y0 y1 y2))
  | 0 => fun _ _ _ r h => by simp [slices_IndexFunc_int_int_great.l0] at h
  | k + 1 => by
    have ih0 := slices_IndexFunc_int_int_great.mono_l k
    · intro y0 y1 y2
      unfold slices_IndexFunc_int_int_great.l0
      exact mz0
theorem slices_IndexFunc_int_int_great.mono : ∀ a0 k, LeO (slices_IndexFunc_int_int_great.f k a0) (slices_IndexFunc_int_int_great.f (k + 1) a0) := by
  intro a0 k
  have ih0 := slices_IndexFunc_int_int_great.mono_l k
  unfold slices_IndexFunc_int_int_great.f
  exact mz0
set_option maxHeartbeats 8000000 in
set_option maxRecDepth 100000 in
theorem slices_IndexFunc_int_int_great.calls (k : Nat) (A0 : Option Addr) (c0 : Nat) (l0 : List Int) (r : Int) (w : World) (hr0 : Kd.C (Kd.int .i64) w A0 l0.length l0) (hc0 : l0.length ≤ c0) (h : slices_IndexFunc_int_int_great.f k l0 = some r) :
    Calls Tryd.prog 67 #[.slice A0 l0.length c0, .func (.func 44) #[] #[]] w fun e w' => e = .returned (.int .i64 r) ∧ Drawn0 w w' := by
  have HR0 := zq hr0
  have HC0 := zq hc0
  clear hr0 hc0
  have H : (slices_IndexFunc_int_int_great.l0 k l0 (l0.length : Int) 0) = some r := h
  clear h
  have H' := zq H
  clear H
  go_enter Tryd.func67, Tryd.ntmps67
  go_wp2
  go_loopg [8] k (fun kq v8 w' => ∃ (x8_1 : Int), v8 = .int .i64 x8_1 ∧ Aside0 (slices_IndexFunc_int_int_great.l0 kq l0 (l0.length : Int) x8_1 = some r) ∧ Aside0 (kq ≤ k) ∧ Drawn0 w w')
  case atStart => exact ⟨(0), J4, H', ⟨Nat.le_refl _⟩, J7⟩
  case round =>
    clear H'
    try clear c1
    obtain ⟨x8_1, rfl, HA, HK1, ⟨m1, rfl⟩⟩ := hrel
    cases gk with
    | zero => exact absurd HA.out (by simp [slices_IndexFunc_int_int_great.l0])
    | succ k1 =>
      have H := HA.out
      clear HA
      simp only [slices_IndexFunc_int_int_great.l0] at H
      by_cases c2 : x8_1 < (l0.length : Int)
      rotate_left
      · rw [if_neg c2] at H
        have c2b0 := decide_eq_false c2
        clear c2
        obtain rfl := Option.some.inj H
        go_wp2
        go_ret
        exact ⟨J4, J7⟩
      rw [if_pos c2] at H
      have c2b0 := decide_eq_true c2
      clear c2
      by_cases c3 : 0 ≤ x8_1
      rotate_left
      · rw [if_neg c3] at H
        exact absurd H J32
      rw [if_pos c3] at H
      have c3b0 := decide_eq_true c3
      clear c3
      by_cases c4 : x8_1 < (l0.length : Int)
      rotate_left
      · rw [if_neg c4] at H
        exact absurd H J32
      rw [if_pos c4] at H
      have c4b0 := decide_eq_true c4
      clear c4
      replace H := Option.bind_eq_some_iff.mp H
      obtain ⟨t286, A50, H⟩ := H
      have A5 := zq A50
      clear A50
      by_cases c6 : t286 = true
      · subst c6
        rw [if_pos rfl] at H
        obtain rfl := Option.some.inj H
        have p285 : 0 ≤ (x8_1 : Int) := of_decide_eq_true J3
        have q285 : x8_1 < (l0.length : Int) := of_decide_eq_true J3
        obtain ⟨ad285, e285, hx285_0⟩ := Kd.at_int HR0.out x8_1 p285 q285
        cases e285
        replace p285 := eq_true p285
        replace q285 := eq_true q285
        go_wp2_with (first | ((with_reducible refine gate_dst (N := 16) rfl ?_); refine goesLv_ (some 16) rfl rfl Tryd.func44 J8 rfl #[.int .i64 (rd l0 x8_1)] (.tmp 11) rfl rfl J1 ?_; (with_reducible refine (tight_Numbers_2.calls (rd l0 x8_1) true _ A5.out).mono ?_); rintro e w' ⟨rfl, ⟨nd, rfl⟩⟩; refine ⟨_, rfl, ?_⟩))
        go_ret
        exact ⟨J4, J7⟩
      replace c6 := Bool.eq_false_iff.mpr c6
      subst c6
      rw [if_neg (show ¬ (false = true) by decide)] at H
      have H' := zq H
      clear H
      have p285 : 0 ≤ (x8_1 : Int) := of_decide_eq_true J3
      have q285 : x8_1 < (l0.length : Int) := of_decide_eq_true J3
      obtain ⟨ad285, e285, hx285_0⟩ := Kd.at_int HR0.out x8_1 p285 q285
      cases e285
      replace p285 := eq_true p285
      replace q285 := eq_true q285
      go_wp2_with (first | ((with_reducible refine gate_dst (N := 16) rfl ?_); refine goesLv_ (some 16) rfl rfl Tryd.func44 J8 rfl #[.int .i64 (rd l0 x8_1)] (.tmp 11) rfl rfl J1 ?_; (with_reducible refine (tight_Numbers_2.calls (rd l0 x8_1) false _ A5.out).mono ?_); rintro e w' ⟨rfl, ⟨nd, rfl⟩⟩; refine ⟨_, rfl, ?_⟩))
      go_roundg k1
      case measure => have := HK1.out; omega
      case rel => exact ⟨(wrap64 (x8_1 + 1)), J4, H', ⟨J73⟩, J7⟩
def slices_ContainsFunc_int_int_great.f (k : Nat) (l0 : List Int) : Option (Bool) := (slices_IndexFunc_int_int_great.f k l0).bind fun t287 => (some (decide (t287 ≥ 0)))
theorem slices_ContainsFunc_int_int_great.mono : ∀ a0 k, LeO (slices_ContainsFunc_int_int_great.f k a0) (slices_ContainsFunc_int_int_great.f (k + 1) a0) := by
  intro a0 k
  unfold slices_ContainsFunc_int_int_great.f
  have im0 := @slices_IndexFunc_int_int_great.mono
  exact mz3
set_option maxHeartbeats 8000000 in
set_option maxRecDepth 100000 in
theorem slices_ContainsFunc_int_int_great.calls (k : Nat) (A0 : Option Addr) (c0 : Nat) (l0 : List Int) (r : Bool) (w : World) (hr0 : Kd.C (Kd.int .i64) w A0 l0.length l0) (hc0 : l0.length ≤ c0) (h : slices_ContainsFunc_int_int_great.f k l0 = some r) :
    Calls Tryd.prog 46 #[.slice A0 l0.length c0, .func (.func 44) #[] #[]] w fun e w' => e = .returned (.bool r) ∧ Drawn0 w w' := by
  have HR0 := zq hr0
  have HC0 := zq hc0
  clear hr0 hc0
  have H : ((slices_IndexFunc_int_int_great.f k l0).bind fun t287 => (some (decide (t287 ≥ 0)))) = some r := h
  clear h
  replace H := Option.bind_eq_some_iff.mp H
  obtain ⟨t287, A20, H⟩ := H
  have A2 := zq A20
  clear A20
  obtain rfl := Option.some.inj H
  go_enter Tryd.func46, Tryd.ntmps46
  go_wp2_with (first | ((with_reducible refine gate_callee (f := 67) rfl ?_); refine goesL_ (some 7) rfl rfl Tryd.func67 J8 rfl #[.slice A0 l0.length c0, .func (.func 44) #[] #[]] rfl J1 ?_; (with_reducible refine (slices_IndexFunc_int_int_great.calls k _ _ l0 t287 _ ?side1 ?side2 A2.out).mono ?_); (case side1 => exact zc HR0.out); (case side2 => exact HC0.out); rintro e w' ⟨rfl, ⟨nd, rfl⟩⟩; refine ⟨_, rfl, ?_⟩))
  go_ret
  exact ⟨J4, J7⟩
def tight_Numbers.j0 : Nat → List Int → List (S40) → Bool → Option (Int × List Int × List Int × (List (S40)) × Bool)
  | 0, _, _, _ => none
  | k + 1, x0, x1, x30 => if x30 = true then (some (0, ([] : List Int), ([] : List Int), ([] : List (S40)), false)) else ((slices_Clone_int_int.f x0).bind fun t292 => ((tight_whole.f k x1).bind fun bt296 => (if bt296.2 = true then (if (x1.length : Int) > 0 then ((slices_ContainsFunc_int_int_great.f k bt296.1).bind fun t300 => (if t300 = true then (some (2, t292, bt296.1, ([] : List (S40)), true)) else (some (1, t292, bt296.1, ([] : List (S40)), true)))) else (some (2, t292, bt296.1, ([] : List (S40)), true))) else ((api_Dec_45.f x1).bind fun t301 => (some (4, t292, ([] : List Int), t301, true))))))
def tight_Numbers.f (k : Nat) (l0 : List Int) (l1 : List (S40)) : Option (Int × List Int × List Int × (List (S40)) × Bool) := (shape_Count.f k l0).bind fun bt289 => (if bt289.2 = true then (if bt289.1 = (l1.length : Int) then ((api_Dec_41.f k l1).bind fun t291 => (tight_Numbers.j0 k l0 l1 t291)) else (tight_Numbers.j0 k l0 l1 true)) else (tight_Numbers.j0 k l0 l1 true))
theorem tight_Numbers.mono_l : ∀ k, (∀ y0 y1 y2, LeO (tight_Numbers.j0 k y0 y1 y2) (tight_Numbers.j0 (k + 1) y0 y1 y2))
  | 0 => fun _ _ _ r h => by simp [tight_Numbers.j0] at h
  | k + 1 => by
    have ih0 := tight_Numbers.mono_l k
    · intro y0 y1 y2
      unfold tight_Numbers.j0
      have im0 := @api_Dec_41.mono
      have im1 := @shape_Count.mono
      have im2 := @slices_ContainsFunc_int_int_great.mono
      have im3 := @tight_whole.mono
      exact mz5
theorem tight_Numbers.mono : ∀ a0 a1 k, LeO (tight_Numbers.f k a0 a1) (tight_Numbers.f (k + 1) a0 a1) := by
  intro a0 a1 k
  have ih0 := tight_Numbers.mono_l k
  unfold tight_Numbers.f
  have im0 := @api_Dec_41.mono
  have im1 := @shape_Count.mono
  have im2 := @slices_ContainsFunc_int_int_great.mono
  have im3 := @tight_whole.mono
  exact mz5
set_option maxHeartbeats 8000000 in
set_option maxRecDepth 100000 in
theorem tight_Numbers.calls (k : Nat) (A0 : Option Addr) (c0 : Nat) (l0 : List Int) (A1 : Option Addr) (c1 : Nat) (l1 : List (S40)) (r1 : Int) (r2 : List Int) (r3 : List Int) (r4 : List (S40)) (r5 : Bool) (w : World) (hr0 : Kd.C (Kd.int .i64) w A0 l0.length l0) (hc0 : l0.length ≤ c0) (hr1 : Kd.C k40 w A1 l1.length l1) (hc1 : l1.length ≤ c1) (h : tight_Numbers.f k l0 l1 = some (r1, r2, r3, r4, r5)) :
    Calls Tryd.prog 23 #[.slice A0 l0.length c0, .slice A1 l1.length c1] w fun e w' => ∃ v1_ v2_ v3_ : Value, e = .returned (.tuple #[.agg #[.int .i64 r1, v1_, v2_, v3_], .bool r5]) ∧ Kd.R (Kd.int .i64) 3 w' w.heap.size (fun k_ => some k_ ≠ (v2_ : Value).ownBlock) v1_ r2 ∧ Kd.R (Kd.int .i64) 3 w' w.heap.size (fun k_ => some k_ ≠ (v1_ : Value).ownBlock) v2_ r3 ∧ Kd.R k40 40 w' w.heap.size (fun _ => True) v3_ r4 ∧ Below w.heap.size w w' := by
  have hu32 := Tryd.underlying32
  have HR0 := zq hr0
  have HC0 := zq hc0
  clear hr0 hc0
  have HR1 := zq hr1
  have HC1 := zq hc1
  clear hr1 hc1
  have HB := zq (Below.refl w.heap.size w)
  have H : ((shape_Count.f k l0).bind fun bt289 => (if bt289.2 = true then (if bt289.1 = (l1.length : Int) then ((api_Dec_41.f k l1).bind fun t291 => (tight_Numbers.j0 k l0 l1 t291)) else (tight_Numbers.j0 k l0 l1 true)) else (tight_Numbers.j0 k l0 l1 true))) = some (r1, r2, r3, r4, r5) := h
  clear h
  replace H := Option.bind_eq_some_iff.mp H
  obtain ⟨⟨t289, t290⟩, A30, H⟩ := H
  dsimp only at H
  have A3 := zq A30
  clear A30
  have HC4 := zq H
  clear H
  go_enter Tryd.func23, Tryd.ntmps23
  go_upto_region 3 with (first | ((with_reducible refine gate_dst (N := 4) rfl ?_); (try (refine gate_guard J93 ?_; dsimp only)); refine bxw 4 32 #[.int .i64 0, .slice none 0 0, .slice none 0 0, .slice none 0 0] ?_; intro gb288 hg w5 hbox hb; have BK288 := zq (hbox); have GE288 := zq ((J12 : w.heap.size ≤ gb288)); replace HB := zq (below_step J0 hb); clear hb hbox hg) | ((with_reducible refine gate_callee (f := 40) rfl ?_); refine goesL_ (some 15) rfl rfl Tryd.func40 J8 rfl #[.slice A0 l0.length c0] rfl J1 ?_; (with_reducible refine (shape_Count.calls k _ _ l0 t289 t290 _ ?side1 ?side2 A3.out).mono ?_); (case side1 => exact zc (Kd.C_below HR0.out HB.out)); (case side2 => exact HC0.out); rintro e w' ⟨rfl, ⟨nd, rfl⟩⟩; refine ⟨_, rfl, ?_⟩))
  (try simp only [Act.put, List.setIfInBounds_toArray, List.set_cons_zero, List.set_cons_succ])
  go_cut [30] (fun v30 wc => ∃ (kq : Nat) (x30_3 : Bool), v30 = .bool x30_3 ∧ Aside0 (tight_Numbers.j0 kq l0 l1 x30_3 = some (r1, r2, r3, r4, r5)) ∧ Aside0 (kq ≤ k) ∧ Aside0 (wc.heap[gb288]? = some (.cells #[.int .i64 0, (.slice none 0 0), (.slice none 0 0), (.slice none 0 0)] 32 (0, 0))) ∧ Aside0 (Below w.heap.size w wc))
  case first =>
    have H := HC4.out
    clear HC4
    by_cases c6 : t290 = true
    rotate_left
    · replace c6 := Bool.eq_false_iff.mpr c6
      subst c6
      rw [if_neg (show ¬ (false = true) by decide)] at H
      have H' := zq H
      clear H
      go_wp2
      go_meet
      case rel => exact ⟨_, (true), J4, H', ⟨J33⟩, ⟨J94⟩, ⟨J56⟩⟩
    subst c6
    rw [if_pos rfl] at H
    by_cases c7 : t289 = (l1.length : Int)
    rotate_left
    · rw [if_neg c7] at H
      have c7b0 : (t289 == (l1.length : Int)) = false := beq_eq_false_iff_ne.mpr c7
      have c7b1 : (t289 != (l1.length : Int)) = true := bne_iff_ne.mpr c7
      (first | rw [c7b0] | (simp only [i64_w, i32_w]; rw [c7b0]) | skip)
      have H' := zq H
      clear H
      go_wp2
      go_meet
      case rel => exact ⟨_, (true), J4, H', ⟨J33⟩, ⟨J94⟩, ⟨J56⟩⟩
    rw [if_pos c7] at H
    have c7b0 : (t289 == (l1.length : Int)) = true := beq_iff_eq.mpr c7
    have c7b1 : (t289 != (l1.length : Int)) = false := bne_eq_false_iff_eq.mpr c7
    clear c7
    (first | rw [c7b0] | (simp only [i64_w, i32_w]; rw [c7b0]) | skip)
    replace H := Option.bind_eq_some_iff.mp H
    obtain ⟨t291, A80, H⟩ := H
    have A8 := zq A80
    clear A80
    have H' := zq H
    clear H
    go_wp2_with (first | (go_at_call 41; (with_reducible refine (api_Dec_41.calls k _ _ l1 t291 _ ?side1 ?side2 A8.out).mono ?_); (case side1 => exact zc (Kd.C_below HR1.out HB.out)); (case side2 => exact HC1.out); rintro e w9 ⟨rfl, hb⟩; replace BK288 := zq (blk_below (zk BK288.out) hb); replace HB := zq (below_step (zs1 GE288.out) hb); (try clear hb); (try clear hk)))
    go_meet
    case rel => exact ⟨_, (t291), J4, H', ⟨J33⟩, ⟨J94⟩, ⟨J56⟩⟩
  case rest =>
    clear HC4
    try clear c1
    try clear c2
    try clear p2
    try clear c4
    try clear c6
    try clear c7
    try clear c7b0
    try clear c7b1
    obtain ⟨kq, x30_3, rfl, HA, HJ3, BK288, HB⟩ := hcut
    cases kq with
    | zero => exact absurd HA.out (by simp [tight_Numbers.j0])
    | succ kj3 =>
      have H := HA.out
      clear HA
      simp only [tight_Numbers.j0] at H
      by_cases c10 : x30_3 = true
      · subst c10
        rw [if_pos rfl] at H
        simp only [Option.some.injEq, Prod.mk.injEq] at H
        obtain ⟨rfl, rfl, rfl, rfl, rfl⟩ := H
        obtain ⟨hcz11_0, hcz11_1, hcz11_2, hcz11_3, hfz11_0, hfz11_1, hfz11_2, hfz11_3⟩ := cz4 BK288.out
        go_wp2
        refine bodyPost_ret (results_ct rfl _ _ gb288 32 #[.int .i64 0, .slice none 0 0, .slice none 0 0, .slice none 0 0] (0, 0) _ rfl (by (with_reducible repeat (first | refine blk_drewN ?_ _ | refine blk_drew ?_ | refine blk_alloc ?_ _)); refine blk_put (cs := #[.int .i64 0, .slice none 0 0, .slice none 0 0, .slice none 0 0]) ?_ 3 _ rfl; (with_reducible repeat (first | refine blk_drewN ?_ _ | refine blk_drew ?_ | refine blk_alloc ?_ _)); refine blk_put (cs := #[.int .i64 0, .slice none 0 0, .slice none 0 0, .slice none 0 0]) ?_ 2 _ rfl; (with_reducible repeat (first | refine blk_drewN ?_ _ | refine blk_drew ?_ | refine blk_alloc ?_ _)); refine blk_put (cs := #[.int .i64 0, .slice none 0 0, .slice none 0 0, .slice none 0 0]) ?_ 1 _ rfl; (with_reducible repeat (first | refine blk_drewN ?_ _ | refine blk_drew ?_ | refine blk_alloc ?_ _)); refine blk_put (cs := #[.int .i64 0, .slice none 0 0, .slice none 0 0, .slice none 0 0]) ?_ 0 _ rfl; (with_reducible repeat (first | refine blk_drewN ?_ _ | refine blk_drew ?_ | refine blk_alloc ?_ _)); exact BK288.out) Tryd.underlying32 rfl J8) rfl ?_
        exact ⟨_, _, _, J2, J9, J9, J9, J56⟩
      replace c10 := Bool.eq_false_iff.mpr c10
      subst c10
      rw [if_neg (show ¬ (false = true) by decide)] at H
      replace H := Option.bind_eq_some_iff.mp H
      obtain ⟨t292, A120, H⟩ := H
      have A12 := zq A120
      clear A120
      replace H := Option.bind_eq_some_iff.mp H
      obtain ⟨⟨t296, t297⟩, A130, H⟩ := H
      dsimp only at H
      have A13 := zq A130
      clear A130
      by_cases c14 : t297 = true
      rotate_left
      · replace c14 := Bool.eq_false_iff.mpr c14
        subst c14
        rw [if_neg (show ¬ (false = true) by decide)] at H
        replace H := Option.bind_eq_some_iff.mp H
        obtain ⟨t301, A450, H⟩ := H
        have A45 := zq A450
        clear A450
        simp only [Option.some.injEq, Prod.mk.injEq] at H
        obtain ⟨rfl, rfl, rfl, rfl, rfl⟩ := H
        go_wp2_with (first | ((with_reducible refine gate_callee (f := 42) rfl ?_); refine goesL_ (some 33) rfl rfl Tryd.func42 J8 rfl #[.slice A0 l0.length c0] rfl J1 ?_; (with_reducible refine (slices_Clone_int_int.calls _ _ l0 t292 _ ?side1 ?side2 A12.out).mono ?_); (case side1 => exact zc (Kd.C_below HR0.out HB.out)); (case side2 => exact HC0.out); rintro e w46 ⟨v293, rfl, ho0, hb⟩; refine ⟨_, rfl, ?_⟩; have HO294 := zq (Kd.R_lower ho0 (below_size (zs1 GE288.out))); replace BK288 := zq (blk_below (zk BK288.out) hb); replace HB := zq (below_step (zs1 GE288.out) hb); (try clear hb); (try clear hk); (try clear ho0); obtain ⟨Ao47, co47, eo47⟩ := Kd.R_slice HO294.out; subst eo47) | ((with_reducible refine gate_dst (N := 9) rfl ?_); (try (refine gate_guard J93 ?_; dsimp only)); refine bxw 9 32 #[.int .i64 0, .slice none 0 0, .slice none 0 0, .slice none 0 0] ?_; intro gb295 hg w48 hbox hb; replace HO294 := zq (Kd.R_below (zr HO294.out) hb); have BK295 := zq (hbox); have GE295 := zq ((J120 : w.heap.size ≤ gb295)); replace HB := zq (below_step (zs1 GE288.out) hb); have NB288_295 := zq ((J69 : gb288 ≠ gb295)); have NB295_288 := zq ((J70 : gb295 ≠ gb288)); replace BK288 := zq (blk_below (zk BK288.out) hb); clear hb hbox hg; have hnb49 := NB295_288.out; have hnc49 := NB288_295.out; obtain ⟨hcz50_0, hcz50_1, hcz50_2, hcz50_3, hfz50_0, hfz50_1, hfz50_2, hfz50_3⟩ := cz4 BK295.out) | ((with_reducible refine gate_callee (f := 43) rfl ?_); refine goesL_ (some 37) rfl rfl Tryd.func43 J8 rfl #[.slice A1 l1.length c1] rfl J1 ?_; (with_reducible refine (tight_whole.calls kj3 _ _ l1 t296 false _ ?side1 ?side2 A13.out).mono ?_); (case side1 => exact Kd.C_below HR1.out (zs2 GE288.out GE295.out)); (case side2 => exact HC1.out); rintro e w51 ⟨v298, rfl, ho0, hb⟩; refine ⟨_, rfl, ?_⟩; replace HO294 := zq (Kd.R_elder' (by (with_reducible repeat (first | apply Kd.R_alloc | apply Kd.R_drewN | apply Kd.R_drew)); exact (Kd.R_mono (Kd.R_far (p := ⟨gb295, 3, none⟩) (Kd.R_far (p := ⟨gb295, 2, none⟩) (Kd.R_far (p := ⟨gb295, 1, none⟩) (Kd.R_far (p := ⟨gb295, 0, none⟩) (Kd.R_types HO294.out BK295.out J18) (fun _ hk => hk.2) (.int .i64 2)) (fun _ hk => hk.2) (.slice Ao47 t292.length co47)) (fun _ hk => hk.2) (.slice none 0 0)) (fun _ hk => hk.2) (.slice none 0 0)) (fun _ h_ => h_.1))) (Kd.R_base ho0) hb); replace BK288 := zq (blk_below (g := gb288) (o := .cells #[.int .i64 0, .slice none 0 0, .slice none 0 0, .slice none 0 0] 32 (0, 0)) J14 hb); replace BK295 := zq (blk_below (g := gb295) (o := .cells #[.int .i64 2, .slice Ao47 t292.length co47, .slice none 0 0, .slice none 0 0] 32 (0, 0)) (by (with_reducible repeat (first | refine blk_drewN ?_ _ | refine blk_drew ?_ | refine blk_alloc ?_ _)); refine blk_put (cs := #[.int .i64 2, .slice Ao47 t292.length co47, .slice none 0 0, .slice none 0 0]) ?_ 3 _ rfl; (with_reducible repeat (first | refine blk_drewN ?_ _ | refine blk_drew ?_ | refine blk_alloc ?_ _)); refine blk_put (cs := #[.int .i64 2, .slice Ao47 t292.length co47, .slice none 0 0, .slice none 0 0]) ?_ 2 _ rfl; (with_reducible repeat (first | refine blk_drewN ?_ _ | refine blk_drew ?_ | refine blk_alloc ?_ _)); refine blk_put (cs := #[.int .i64 2, .slice none 0 0, .slice none 0 0, .slice none 0 0]) ?_ 1 _ rfl; (with_reducible repeat (first | refine blk_drewN ?_ _ | refine blk_drew ?_ | refine blk_alloc ?_ _)); refine blk_put (cs := #[.int .i64 0, .slice none 0 0, .slice none 0 0, .slice none 0 0]) ?_ 0 _ rfl; (with_reducible repeat (first | refine blk_drewN ?_ _ | refine blk_drew ?_ | refine blk_alloc ?_ _)); exact BK295.out) hb); replace HB := zq (below_step (zs2 GE288.out GE295.out) hb); (try clear hb); (try clear hk); (try clear ho0)) | ((with_reducible refine gate_callee (f := 45) rfl ?_); refine goesL_ (some 44) rfl rfl Tryd.func45 J8 rfl #[.slice A1 l1.length c1] rfl J1 ?_; (with_reducible refine (api_Dec_45.calls _ _ l1 t301 _ ?side1 ?side2 A45.out).mono ?_); (case side1 => exact zc (Kd.C_below HR1.out HB.out)); (case side2 => exact HC1.out); rintro e w52 ⟨v302, rfl, ho0, hb⟩; refine ⟨_, rfl, ?_⟩; replace HO294 := zq (Kd.R_below (zr HO294.out) hb); have HO303 := zq (Kd.R_lower ho0 (below_size (zs2 GE288.out GE295.out))); replace BK288 := zq (blk_below (zk BK288.out) hb); replace BK295 := zq (blk_below (zk BK295.out) hb); replace HB := zq (below_step (zs2 GE288.out GE295.out) hb); (try clear hb); (try clear hk); (try clear ho0); obtain ⟨hcz53_0, hcz53_1, hcz53_2, hcz53_3, hfz53_0, hfz53_1, hfz53_2, hfz53_3⟩ := cz4 BK295.out; obtain ⟨Ao54, co54, eo54⟩ := Kd.R_slice HO303.out; subst eo54; obtain ⟨hcz55_0, hcz55_1, hcz55_2, hcz55_3, hfz55_0, hfz55_1, hfz55_2, hfz55_3⟩ := cz4 BK288.out))
        refine bodyPost_ret (results_ct rfl _ _ gb288 32 #[.int .i64 4, .slice Ao47 t292.length co47, .slice none 0 0, .slice Ao54 t301.length co54] (0, 0) _ rfl (by (with_reducible repeat (first | refine blk_drewN ?_ _ | refine blk_drew ?_ | refine blk_alloc ?_ _)); refine blk_put (cs := #[.int .i64 4, .slice Ao47 t292.length co47, .slice none 0 0, .slice none 0 0]) ?_ 3 _ rfl; (with_reducible repeat (first | refine blk_drewN ?_ _ | refine blk_drew ?_ | refine blk_alloc ?_ _)); refine blk_put (cs := #[.int .i64 4, .slice Ao47 t292.length co47, .slice none 0 0, .slice none 0 0]) ?_ 2 _ rfl; (with_reducible repeat (first | refine blk_drewN ?_ _ | refine blk_drew ?_ | refine blk_alloc ?_ _)); refine blk_put (cs := #[.int .i64 4, .slice none 0 0, .slice none 0 0, .slice none 0 0]) ?_ 1 _ rfl; (with_reducible repeat (first | refine blk_drewN ?_ _ | refine blk_drew ?_ | refine blk_alloc ?_ _)); refine blk_put (cs := #[.int .i64 0, .slice none 0 0, .slice none 0 0, .slice none 0 0]) ?_ 0 _ rfl; (with_reducible repeat (first | refine blk_drewN ?_ _ | refine blk_drew ?_ | refine blk_alloc ?_ _)); refine blk_far ?_ NB288_295.out _; (with_reducible repeat (first | refine blk_drewN ?_ _ | refine blk_drew ?_ | refine blk_alloc ?_ _)); refine blk_far ?_ NB288_295.out _; (with_reducible repeat (first | refine blk_drewN ?_ _ | refine blk_drew ?_ | refine blk_alloc ?_ _)); exact BK288.out) Tryd.underlying32 rfl J8) rfl ?_
        exact ⟨_, _, _, J2, by (with_reducible repeat (first | apply Kd.R_alloc | apply Kd.R_drewN | apply Kd.R_drew)); exact Kd.R_mono (Kd.R_far (p := ⟨gb288, 3, none⟩) (Kd.R_far (p := ⟨gb288, 2, none⟩) (Kd.R_far (p := ⟨gb288, 1, none⟩) (Kd.R_far (p := ⟨gb288, 0, none⟩) (Kd.R_far (p := ⟨gb295, 3, none⟩) (Kd.R_far (p := ⟨gb295, 0, none⟩) (Kd.R_types (Kd.R_types HO294.out BK295.out J18) BK288.out J18) (fun _ hk => hk.1.2) (.int .i64 4)) (fun _ hk => hk.1.2) (.slice Ao54 t301.length co54)) (fun _ hk => hk.2) (.int .i64 4)) (fun _ hk => hk.2) (.slice Ao47 t292.length co47)) (fun _ hk => hk.2) (.slice none 0 0)) (fun _ hk => hk.2) (.slice Ao54 t301.length co54)) (fun _ hk => (by simp [Value.ownBlock])), J9, by (with_reducible repeat (first | apply Kd.R_alloc | apply Kd.R_drewN | apply Kd.R_drew)); exact Kd.R_mono (Kd.R_far (p := ⟨gb288, 3, none⟩) (Kd.R_far (p := ⟨gb288, 2, none⟩) (Kd.R_far (p := ⟨gb288, 1, none⟩) (Kd.R_far (p := ⟨gb288, 0, none⟩) (Kd.R_far (p := ⟨gb295, 3, none⟩) (Kd.R_far (p := ⟨gb295, 0, none⟩) (Kd.R_types (Kd.R_types HO303.out BK295.out J18) BK288.out J18) (fun _ hk => hk.1.2) (.int .i64 4)) (fun _ hk => hk.1.2) (.slice Ao54 t301.length co54)) (fun _ hk => hk.2) (.int .i64 4)) (fun _ hk => hk.2) (.slice Ao47 t292.length co47)) (fun _ hk => hk.2) (.slice none 0 0)) (fun _ hk => hk.2) (.slice Ao54 t301.length co54)) (fun _ hk => trivial), J47⟩
      subst c14
      rw [if_pos rfl] at H
      by_cases c15 : (l1.length : Int) > 0
      rotate_left
      · rw [if_neg c15] at H
        have c15b0 := decide_eq_false c15
        have c15b1 : decide (0 < l1.length) = false := decide_eq_false J26
        clear c15
        simp only [Option.some.injEq, Prod.mk.injEq] at H
        obtain ⟨rfl, rfl, rfl, rfl, rfl⟩ := H
        go_wp2_with (first | ((with_reducible refine gate_callee (f := 42) rfl ?_); refine goesL_ (some 33) rfl rfl Tryd.func42 J8 rfl #[.slice A0 l0.length c0] rfl J1 ?_; (with_reducible refine (slices_Clone_int_int.calls _ _ l0 t292 _ ?side1 ?side2 A12.out).mono ?_); (case side1 => exact zc (Kd.C_below HR0.out HB.out)); (case side2 => exact HC0.out); rintro e w36 ⟨v293, rfl, ho0, hb⟩; refine ⟨_, rfl, ?_⟩; have HO294 := zq (Kd.R_lower ho0 (below_size (zs1 GE288.out))); replace BK288 := zq (blk_below (zk BK288.out) hb); replace HB := zq (below_step (zs1 GE288.out) hb); (try clear hb); (try clear hk); (try clear ho0); obtain ⟨Ao37, co37, eo37⟩ := Kd.R_slice HO294.out; subst eo37) | ((with_reducible refine gate_dst (N := 9) rfl ?_); (try (refine gate_guard J93 ?_; dsimp only)); refine bxw 9 32 #[.int .i64 0, .slice none 0 0, .slice none 0 0, .slice none 0 0] ?_; intro gb295 hg w38 hbox hb; replace HO294 := zq (Kd.R_below (zr HO294.out) hb); have BK295 := zq (hbox); have GE295 := zq ((J120 : w.heap.size ≤ gb295)); replace HB := zq (below_step (zs1 GE288.out) hb); have NB288_295 := zq ((J69 : gb288 ≠ gb295)); have NB295_288 := zq ((J70 : gb295 ≠ gb288)); replace BK288 := zq (blk_below (zk BK288.out) hb); clear hb hbox hg; have hnb39 := NB295_288.out; have hnc39 := NB288_295.out; obtain ⟨hcz40_0, hcz40_1, hcz40_2, hcz40_3, hfz40_0, hfz40_1, hfz40_2, hfz40_3⟩ := cz4 BK295.out) | ((with_reducible refine gate_callee (f := 43) rfl ?_); refine goesL_ (some 37) rfl rfl Tryd.func43 J8 rfl #[.slice A1 l1.length c1] rfl J1 ?_; (with_reducible refine (tight_whole.calls kj3 _ _ l1 t296 true _ ?side1 ?side2 A13.out).mono ?_); (case side1 => exact Kd.C_below HR1.out (zs2 GE288.out GE295.out)); (case side2 => exact HC1.out); rintro e w41 ⟨v298, rfl, ho0, hb⟩; refine ⟨_, rfl, ?_⟩; have HO299 := zq (Kd.R_lower (Kd.R_new' ho0 (Kd.R_lt J60)) (below_size (zs2 GE288.out GE295.out))); replace HO294 := zq (Kd.R_elder' J60 (Kd.R_base ho0) hb); replace BK288 := zq (blk_below (g := gb288) (o := .cells #[.int .i64 0, .slice none 0 0, .slice none 0 0, .slice none 0 0] 32 (0, 0)) J14 hb); replace BK295 := zq (blk_below (g := gb295) (o := .cells #[.int .i64 2, .slice Ao37 t292.length co37, .slice none 0 0, .slice none 0 0] 32 (0, 0)) (by (with_reducible repeat (first | refine blk_drewN ?_ _ | refine blk_drew ?_ | refine blk_alloc ?_ _)); refine blk_put (cs := #[.int .i64 2, .slice Ao37 t292.length co37, .slice none 0 0, .slice none 0 0]) ?_ 3 _ rfl; (with_reducible repeat (first | refine blk_drewN ?_ _ | refine blk_drew ?_ | refine blk_alloc ?_ _)); refine blk_put (cs := #[.int .i64 2, .slice Ao37 t292.length co37, .slice none 0 0, .slice none 0 0]) ?_ 2 _ rfl; (with_reducible repeat (first | refine blk_drewN ?_ _ | refine blk_drew ?_ | refine blk_alloc ?_ _)); refine blk_put (cs := #[.int .i64 2, .slice none 0 0, .slice none 0 0, .slice none 0 0]) ?_ 1 _ rfl; (with_reducible repeat (first | refine blk_drewN ?_ _ | refine blk_drew ?_ | refine blk_alloc ?_ _)); refine blk_put (cs := #[.int .i64 0, .slice none 0 0, .slice none 0 0, .slice none 0 0]) ?_ 0 _ rfl; (with_reducible repeat (first | refine blk_drewN ?_ _ | refine blk_drew ?_ | refine blk_alloc ?_ _)); exact BK295.out) hb); replace HB := zq (below_step (zs2 GE288.out GE295.out) hb); (try clear hb); (try clear hk); (try clear ho0); obtain ⟨Ao42, co42, eo42⟩ := Kd.R_slice HO299.out; subst eo42; obtain ⟨hcz43_0, hcz43_1, hcz43_2, hcz43_3, hfz43_0, hfz43_1, hfz43_2, hfz43_3⟩ := cz4 BK295.out; obtain ⟨hcz44_0, hcz44_1, hcz44_2, hcz44_3, hfz44_0, hfz44_1, hfz44_2, hfz44_3⟩ := cz4 BK288.out))
        refine bodyPost_ret (results_ct rfl _ _ gb288 32 #[.int .i64 2, .slice Ao37 t292.length co37, .slice Ao42 t296.length co42, .slice none 0 0] (0, 0) _ rfl (by (with_reducible repeat (first | refine blk_drewN ?_ _ | refine blk_drew ?_ | refine blk_alloc ?_ _)); refine blk_put (cs := #[.int .i64 2, .slice Ao37 t292.length co37, .slice Ao42 t296.length co42, .slice none 0 0]) ?_ 3 _ rfl; (with_reducible repeat (first | refine blk_drewN ?_ _ | refine blk_drew ?_ | refine blk_alloc ?_ _)); refine blk_put (cs := #[.int .i64 2, .slice Ao37 t292.length co37, .slice none 0 0, .slice none 0 0]) ?_ 2 _ rfl; (with_reducible repeat (first | refine blk_drewN ?_ _ | refine blk_drew ?_ | refine blk_alloc ?_ _)); refine blk_put (cs := #[.int .i64 2, .slice none 0 0, .slice none 0 0, .slice none 0 0]) ?_ 1 _ rfl; (with_reducible repeat (first | refine blk_drewN ?_ _ | refine blk_drew ?_ | refine blk_alloc ?_ _)); refine blk_put (cs := #[.int .i64 0, .slice none 0 0, .slice none 0 0, .slice none 0 0]) ?_ 0 _ rfl; (with_reducible repeat (first | refine blk_drewN ?_ _ | refine blk_drew ?_ | refine blk_alloc ?_ _)); refine blk_far ?_ NB288_295.out _; (with_reducible repeat (first | refine blk_drewN ?_ _ | refine blk_drew ?_ | refine blk_alloc ?_ _)); exact BK288.out) Tryd.underlying32 rfl J8) rfl ?_
        exact ⟨_, _, _, J2, by (with_reducible repeat (first | apply Kd.R_alloc | apply Kd.R_drewN | apply Kd.R_drew)); exact Kd.R_mono (Kd.R_far (p := ⟨gb288, 3, none⟩) (Kd.R_far (p := ⟨gb288, 2, none⟩) (Kd.R_far (p := ⟨gb288, 1, none⟩) (Kd.R_far (p := ⟨gb288, 0, none⟩) (Kd.R_far (p := ⟨gb295, 2, none⟩) (Kd.R_types (Kd.R_types HO294.out BK295.out J18) BK288.out J18) (fun _ hk => hk.1.2) (.slice Ao42 t296.length co42)) (fun _ hk => hk.2) (.int .i64 2)) (fun _ hk => hk.2) (.slice Ao37 t292.length co37)) (fun _ hk => hk.2) (.slice Ao42 t296.length co42)) (fun _ hk => hk.2) (.slice none 0 0)) (fun _ hk => by first | exact hk.1.1.2 | exact hk.1.1), by (with_reducible repeat (first | apply Kd.R_alloc | apply Kd.R_drewN | apply Kd.R_drew)); exact Kd.R_mono (Kd.R_far (p := ⟨gb288, 3, none⟩) (Kd.R_far (p := ⟨gb288, 2, none⟩) (Kd.R_far (p := ⟨gb288, 1, none⟩) (Kd.R_far (p := ⟨gb288, 0, none⟩) (Kd.R_far (p := ⟨gb295, 2, none⟩) (Kd.R_types (Kd.R_types HO299.out BK295.out J18) BK288.out J18) (fun _ hk => hk.1.2) (.slice Ao42 t296.length co42)) (fun _ hk => hk.2) (.int .i64 2)) (fun _ hk => hk.2) (.slice Ao37 t292.length co37)) (fun _ hk => hk.2) (.slice Ao42 t296.length co42)) (fun _ hk => hk.2) (.slice none 0 0)) (fun _ hk => by first | exact hk.1.1.2 | exact hk.1.1), J9, J47⟩
      rw [if_pos c15] at H
      have c15b0 := decide_eq_true c15
      have c15b1 : decide (0 < l1.length) = true := decide_eq_true J26
      clear c15
      replace H := Option.bind_eq_some_iff.mp H
      obtain ⟨t300, A160, H⟩ := H
      have A16 := zq A160
      clear A160
      by_cases c17 : t300 = true
      · subst c17
        rw [if_pos rfl] at H
        simp only [Option.some.injEq, Prod.mk.injEq] at H
        obtain ⟨rfl, rfl, rfl, rfl, rfl⟩ := H
        go_wp2_with (first | ((with_reducible refine gate_callee (f := 42) rfl ?_); refine goesL_ (some 33) rfl rfl Tryd.func42 J8 rfl #[.slice A0 l0.length c0] rfl J1 ?_; (with_reducible refine (slices_Clone_int_int.calls _ _ l0 t292 _ ?side1 ?side2 A12.out).mono ?_); (case side1 => exact zc (Kd.C_below HR0.out HB.out)); (case side2 => exact HC0.out); rintro e w18 ⟨v293, rfl, ho0, hb⟩; refine ⟨_, rfl, ?_⟩; have HO294 := zq (Kd.R_lower ho0 (below_size (zs1 GE288.out))); replace BK288 := zq (blk_below (zk BK288.out) hb); replace HB := zq (below_step (zs1 GE288.out) hb); (try clear hb); (try clear hk); (try clear ho0); obtain ⟨Ao19, co19, eo19⟩ := Kd.R_slice HO294.out; subst eo19) | ((with_reducible refine gate_dst (N := 9) rfl ?_); (try (refine gate_guard J93 ?_; dsimp only)); refine bxw 9 32 #[.int .i64 0, .slice none 0 0, .slice none 0 0, .slice none 0 0] ?_; intro gb295 hg w20 hbox hb; replace HO294 := zq (Kd.R_below (zr HO294.out) hb); have BK295 := zq (hbox); have GE295 := zq ((J120 : w.heap.size ≤ gb295)); replace HB := zq (below_step (zs1 GE288.out) hb); have NB288_295 := zq ((J69 : gb288 ≠ gb295)); have NB295_288 := zq ((J70 : gb295 ≠ gb288)); replace BK288 := zq (blk_below (zk BK288.out) hb); clear hb hbox hg; have hnb21 := NB295_288.out; have hnc21 := NB288_295.out; obtain ⟨hcz22_0, hcz22_1, hcz22_2, hcz22_3, hfz22_0, hfz22_1, hfz22_2, hfz22_3⟩ := cz4 BK295.out) | ((with_reducible refine gate_callee (f := 43) rfl ?_); refine goesL_ (some 37) rfl rfl Tryd.func43 J8 rfl #[.slice A1 l1.length c1] rfl J1 ?_; (with_reducible refine (tight_whole.calls kj3 _ _ l1 t296 true _ ?side1 ?side2 A13.out).mono ?_); (case side1 => exact Kd.C_below HR1.out (zs2 GE288.out GE295.out)); (case side2 => exact HC1.out); rintro e w23 ⟨v298, rfl, ho0, hb⟩; refine ⟨_, rfl, ?_⟩; have HO299 := zq (Kd.R_lower (Kd.R_new' ho0 (Kd.R_lt J61)) (below_size (zs2 GE288.out GE295.out))); replace HO294 := zq (Kd.R_elder' J61 (Kd.R_base ho0) hb); replace BK288 := zq (blk_below (g := gb288) (o := .cells #[.int .i64 0, .slice none 0 0, .slice none 0 0, .slice none 0 0] 32 (0, 0)) J14 hb); replace BK295 := zq (blk_below (g := gb295) (o := .cells #[.int .i64 2, .slice Ao19 t292.length co19, .slice none 0 0, .slice none 0 0] 32 (0, 0)) (by (with_reducible repeat (first | refine blk_drewN ?_ _ | refine blk_drew ?_ | refine blk_alloc ?_ _)); refine blk_put (cs := #[.int .i64 2, .slice Ao19 t292.length co19, .slice none 0 0, .slice none 0 0]) ?_ 3 _ rfl; (with_reducible repeat (first | refine blk_drewN ?_ _ | refine blk_drew ?_ | refine blk_alloc ?_ _)); refine blk_put (cs := #[.int .i64 2, .slice Ao19 t292.length co19, .slice none 0 0, .slice none 0 0]) ?_ 2 _ rfl; (with_reducible repeat (first | refine blk_drewN ?_ _ | refine blk_drew ?_ | refine blk_alloc ?_ _)); refine blk_put (cs := #[.int .i64 2, .slice none 0 0, .slice none 0 0, .slice none 0 0]) ?_ 1 _ rfl; (with_reducible repeat (first | refine blk_drewN ?_ _ | refine blk_drew ?_ | refine blk_alloc ?_ _)); refine blk_put (cs := #[.int .i64 0, .slice none 0 0, .slice none 0 0, .slice none 0 0]) ?_ 0 _ rfl; (with_reducible repeat (first | refine blk_drewN ?_ _ | refine blk_drew ?_ | refine blk_alloc ?_ _)); exact BK295.out) hb); replace HB := zq (below_step (zs2 GE288.out GE295.out) hb); (try clear hb); (try clear hk); (try clear ho0); obtain ⟨Ao24, co24, eo24⟩ := Kd.R_slice HO299.out; subst eo24) | (go_at_call 46; (with_reducible refine (slices_ContainsFunc_int_int_great.calls kj3 _ _ t296 true _ ?side1 ?side2 A16.out).mono ?_); (case side1 => exact zc ((Kd.R_reads' HO299.out).2.2)); (case side2 => exact (Kd.R_reads' HO299.out).2.1); rintro e w' ⟨rfl, ⟨nd, rfl⟩⟩; (try (rw [drewN_self w23]; generalize hq_ : World.drewN w23 _ = w23; have n0_ : Aside0 (Kd.R (Kd.int .i64) 3 w23 w.heap.size (fun k_ => some k_ ≠ (.slice Ao24 t296.length co24 : Value).ownBlock) (.slice Ao19 t292.length co19) t292) := ⟨J116⟩; have n1_ : Aside0 (Kd.R (Kd.int .i64) 3 w23 w.heap.size (fun k_ => some k_ ≠ (.slice Ao19 t292.length co19 : Value).ownBlock) (.slice Ao24 t296.length co24) t296) := ⟨J117⟩; have n2_ : Aside0 (w23.heap[gb288]? = some (.cells #[.int .i64 0, .slice none 0 0, .slice none 0 0, .slice none 0 0] 32 (0, 0))) := ⟨by rw [← hq_]; exact (zk BK288.out)⟩; have n3_ : Aside0 (w23.heap[gb295]? = some (.cells #[.int .i64 2, .slice Ao19 t292.length co19, .slice none 0 0, .slice none 0 0] 32 (0, 0))) := ⟨by rw [← hq_]; exact (zk BK295.out)⟩; have n4_ : Aside0 (Below w.heap.size w w23) := ⟨by rw [← hq_]; exact (zs2 GE288.out GE295.out)⟩; clear HO294 HO299 BK288 BK295 HB hq_; have HO294 := n0_; have HO299 := n1_; have BK288 := n2_; have BK295 := n3_; have HB := n4_; clear n0_ n1_ n2_ n3_ n4_)); obtain ⟨hcz25_0, hcz25_1, hcz25_2, hcz25_3, hfz25_0, hfz25_1, hfz25_2, hfz25_3⟩ := cz4 BK295.out; obtain ⟨hcz26_0, hcz26_1, hcz26_2, hcz26_3, hfz26_0, hfz26_1, hfz26_2, hfz26_3⟩ := cz4 BK288.out))
        refine bodyPost_ret (results_ct rfl _ _ gb288 32 #[.int .i64 2, .slice Ao19 t292.length co19, .slice Ao24 t296.length co24, .slice none 0 0] (0, 0) _ rfl (by (with_reducible repeat (first | refine blk_drewN ?_ _ | refine blk_drew ?_ | refine blk_alloc ?_ _)); refine blk_put (cs := #[.int .i64 2, .slice Ao19 t292.length co19, .slice Ao24 t296.length co24, .slice none 0 0]) ?_ 3 _ rfl; (with_reducible repeat (first | refine blk_drewN ?_ _ | refine blk_drew ?_ | refine blk_alloc ?_ _)); refine blk_put (cs := #[.int .i64 2, .slice Ao19 t292.length co19, .slice none 0 0, .slice none 0 0]) ?_ 2 _ rfl; (with_reducible repeat (first | refine blk_drewN ?_ _ | refine blk_drew ?_ | refine blk_alloc ?_ _)); refine blk_put (cs := #[.int .i64 2, .slice none 0 0, .slice none 0 0, .slice none 0 0]) ?_ 1 _ rfl; (with_reducible repeat (first | refine blk_drewN ?_ _ | refine blk_drew ?_ | refine blk_alloc ?_ _)); refine blk_put (cs := #[.int .i64 0, .slice none 0 0, .slice none 0 0, .slice none 0 0]) ?_ 0 _ rfl; (with_reducible repeat (first | refine blk_drewN ?_ _ | refine blk_drew ?_ | refine blk_alloc ?_ _)); refine blk_far ?_ NB288_295.out _; (with_reducible repeat (first | refine blk_drewN ?_ _ | refine blk_drew ?_ | refine blk_alloc ?_ _)); exact BK288.out) Tryd.underlying32 rfl J8) rfl ?_
        exact ⟨_, _, _, J2, by (with_reducible repeat (first | apply Kd.R_alloc | apply Kd.R_drewN | apply Kd.R_drew)); exact Kd.R_mono (Kd.R_far (p := ⟨gb288, 3, none⟩) (Kd.R_far (p := ⟨gb288, 2, none⟩) (Kd.R_far (p := ⟨gb288, 1, none⟩) (Kd.R_far (p := ⟨gb288, 0, none⟩) (Kd.R_far (p := ⟨gb295, 2, none⟩) (Kd.R_types (Kd.R_types HO294.out BK295.out J18) BK288.out J18) (fun _ hk => hk.1.2) (.slice Ao24 t296.length co24)) (fun _ hk => hk.2) (.int .i64 2)) (fun _ hk => hk.2) (.slice Ao19 t292.length co19)) (fun _ hk => hk.2) (.slice Ao24 t296.length co24)) (fun _ hk => hk.2) (.slice none 0 0)) (fun _ hk => by first | exact hk.1.1.2 | exact hk.1.1), by (with_reducible repeat (first | apply Kd.R_alloc | apply Kd.R_drewN | apply Kd.R_drew)); exact Kd.R_mono (Kd.R_far (p := ⟨gb288, 3, none⟩) (Kd.R_far (p := ⟨gb288, 2, none⟩) (Kd.R_far (p := ⟨gb288, 1, none⟩) (Kd.R_far (p := ⟨gb288, 0, none⟩) (Kd.R_far (p := ⟨gb295, 2, none⟩) (Kd.R_types (Kd.R_types HO299.out BK295.out J18) BK288.out J18) (fun _ hk => hk.1.2) (.slice Ao24 t296.length co24)) (fun _ hk => hk.2) (.int .i64 2)) (fun _ hk => hk.2) (.slice Ao19 t292.length co19)) (fun _ hk => hk.2) (.slice Ao24 t296.length co24)) (fun _ hk => hk.2) (.slice none 0 0)) (fun _ hk => by first | exact hk.1.1.2 | exact hk.1.1), J9, J47⟩
      replace c17 := Bool.eq_false_iff.mpr c17
      subst c17
      rw [if_neg (show ¬ (false = true) by decide)] at H
      simp only [Option.some.injEq, Prod.mk.injEq] at H
      obtain ⟨rfl, rfl, rfl, rfl, rfl⟩ := H
      go_wp2_with (first | ((with_reducible refine gate_callee (f := 42) rfl ?_); refine goesL_ (some 33) rfl rfl Tryd.func42 J8 rfl #[.slice A0 l0.length c0] rfl J1 ?_; (with_reducible refine (slices_Clone_int_int.calls _ _ l0 t292 _ ?side1 ?side2 A12.out).mono ?_); (case side1 => exact zc (Kd.C_below HR0.out HB.out)); (case side2 => exact HC0.out); rintro e w27 ⟨v293, rfl, ho0, hb⟩; refine ⟨_, rfl, ?_⟩; have HO294 := zq (Kd.R_lower ho0 (below_size (zs1 GE288.out))); replace BK288 := zq (blk_below (zk BK288.out) hb); replace HB := zq (below_step (zs1 GE288.out) hb); (try clear hb); (try clear hk); (try clear ho0); obtain ⟨Ao28, co28, eo28⟩ := Kd.R_slice HO294.out; subst eo28) | ((with_reducible refine gate_dst (N := 9) rfl ?_); (try (refine gate_guard J93 ?_; dsimp only)); refine bxw 9 32 #[.int .i64 0, .slice none 0 0, .slice none 0 0, .slice none 0 0] ?_; intro gb295 hg w29 hbox hb; replace HO294 := zq (Kd.R_below (zr HO294.out) hb); have BK295 := zq (hbox); have GE295 := zq ((J120 : w.heap.size ≤ gb295)); replace HB := zq (below_step (zs1 GE288.out) hb); have NB288_295 := zq ((J69 : gb288 ≠ gb295)); have NB295_288 := zq ((J70 : gb295 ≠ gb288)); replace BK288 := zq (blk_below (zk BK288.out) hb); clear hb hbox hg; have hnb30 := NB295_288.out; have hnc30 := NB288_295.out; obtain ⟨hcz31_0, hcz31_1, hcz31_2, hcz31_3, hfz31_0, hfz31_1, hfz31_2, hfz31_3⟩ := cz4 BK295.out) | ((with_reducible refine gate_callee (f := 43) rfl ?_); refine goesL_ (some 37) rfl rfl Tryd.func43 J8 rfl #[.slice A1 l1.length c1] rfl J1 ?_; (with_reducible refine (tight_whole.calls kj3 _ _ l1 t296 true _ ?side1 ?side2 A13.out).mono ?_); (case side1 => exact Kd.C_below HR1.out (zs2 GE288.out GE295.out)); (case side2 => exact HC1.out); rintro e w32 ⟨v298, rfl, ho0, hb⟩; refine ⟨_, rfl, ?_⟩; have HO299 := zq (Kd.R_lower (Kd.R_new' ho0 (Kd.R_lt J62)) (below_size (zs2 GE288.out GE295.out))); replace HO294 := zq (Kd.R_elder' J62 (Kd.R_base ho0) hb); replace BK288 := zq (blk_below (g := gb288) (o := .cells #[.int .i64 0, .slice none 0 0, .slice none 0 0, .slice none 0 0] 32 (0, 0)) J14 hb); replace BK295 := zq (blk_below (g := gb295) (o := .cells #[.int .i64 2, .slice Ao28 t292.length co28, .slice none 0 0, .slice none 0 0] 32 (0, 0)) (by (with_reducible repeat (first | refine blk_drewN ?_ _ | refine blk_drew ?_ | refine blk_alloc ?_ _)); refine blk_put (cs := #[.int .i64 2, .slice Ao28 t292.length co28, .slice none 0 0, .slice none 0 0]) ?_ 3 _ rfl; (with_reducible repeat (first | refine blk_drewN ?_ _ | refine blk_drew ?_ | refine blk_alloc ?_ _)); refine blk_put (cs := #[.int .i64 2, .slice Ao28 t292.length co28, .slice none 0 0, .slice none 0 0]) ?_ 2 _ rfl; (with_reducible repeat (first | refine blk_drewN ?_ _ | refine blk_drew ?_ | refine blk_alloc ?_ _)); refine blk_put (cs := #[.int .i64 2, .slice none 0 0, .slice none 0 0, .slice none 0 0]) ?_ 1 _ rfl; (with_reducible repeat (first | refine blk_drewN ?_ _ | refine blk_drew ?_ | refine blk_alloc ?_ _)); refine blk_put (cs := #[.int .i64 0, .slice none 0 0, .slice none 0 0, .slice none 0 0]) ?_ 0 _ rfl; (with_reducible repeat (first | refine blk_drewN ?_ _ | refine blk_drew ?_ | refine blk_alloc ?_ _)); exact BK295.out) hb); replace HB := zq (below_step (zs2 GE288.out GE295.out) hb); (try clear hb); (try clear hk); (try clear ho0); obtain ⟨Ao33, co33, eo33⟩ := Kd.R_slice HO299.out; subst eo33) | (go_at_call 46; (with_reducible refine (slices_ContainsFunc_int_int_great.calls kj3 _ _ t296 false _ ?side1 ?side2 A16.out).mono ?_); (case side1 => exact zc ((Kd.R_reads' HO299.out).2.2)); (case side2 => exact (Kd.R_reads' HO299.out).2.1); rintro e w' ⟨rfl, ⟨nd, rfl⟩⟩; (try (rw [drewN_self w32]; generalize hq_ : World.drewN w32 _ = w32; have n0_ : Aside0 (Kd.R (Kd.int .i64) 3 w32 w.heap.size (fun k_ => some k_ ≠ (.slice Ao33 t296.length co33 : Value).ownBlock) (.slice Ao28 t292.length co28) t292) := ⟨J116⟩; have n1_ : Aside0 (Kd.R (Kd.int .i64) 3 w32 w.heap.size (fun k_ => some k_ ≠ (.slice Ao28 t292.length co28 : Value).ownBlock) (.slice Ao33 t296.length co33) t296) := ⟨J117⟩; have n2_ : Aside0 (w32.heap[gb288]? = some (.cells #[.int .i64 0, .slice none 0 0, .slice none 0 0, .slice none 0 0] 32 (0, 0))) := ⟨by rw [← hq_]; exact (zk BK288.out)⟩; have n3_ : Aside0 (w32.heap[gb295]? = some (.cells #[.int .i64 2, .slice Ao28 t292.length co28, .slice none 0 0, .slice none 0 0] 32 (0, 0))) := ⟨by rw [← hq_]; exact (zk BK295.out)⟩; have n4_ : Aside0 (Below w.heap.size w w32) := ⟨by rw [← hq_]; exact (zs2 GE288.out GE295.out)⟩; clear HO294 HO299 BK288 BK295 HB hq_; have HO294 := n0_; have HO299 := n1_; have BK288 := n2_; have BK295 := n3_; have HB := n4_; clear n0_ n1_ n2_ n3_ n4_)); obtain ⟨hcz34_0, hcz34_1, hcz34_2, hcz34_3, hfz34_0, hfz34_1, hfz34_2, hfz34_3⟩ := cz4 BK295.out; obtain ⟨hcz35_0, hcz35_1, hcz35_2, hcz35_3, hfz35_0, hfz35_1, hfz35_2, hfz35_3⟩ := cz4 BK288.out))
      refine bodyPost_ret (results_ct rfl _ _ gb288 32 #[.int .i64 1, .slice Ao28 t292.length co28, .slice Ao33 t296.length co33, .slice none 0 0] (0, 0) _ rfl (by (with_reducible repeat (first | refine blk_drewN ?_ _ | refine blk_drew ?_ | refine blk_alloc ?_ _)); refine blk_put (cs := #[.int .i64 1, .slice Ao28 t292.length co28, .slice Ao33 t296.length co33, .slice none 0 0]) ?_ 3 _ rfl; (with_reducible repeat (first | refine blk_drewN ?_ _ | refine blk_drew ?_ | refine blk_alloc ?_ _)); refine blk_put (cs := #[.int .i64 1, .slice Ao28 t292.length co28, .slice none 0 0, .slice none 0 0]) ?_ 2 _ rfl; (with_reducible repeat (first | refine blk_drewN ?_ _ | refine blk_drew ?_ | refine blk_alloc ?_ _)); refine blk_put (cs := #[.int .i64 1, .slice none 0 0, .slice none 0 0, .slice none 0 0]) ?_ 1 _ rfl; (with_reducible repeat (first | refine blk_drewN ?_ _ | refine blk_drew ?_ | refine blk_alloc ?_ _)); refine blk_put (cs := #[.int .i64 0, .slice none 0 0, .slice none 0 0, .slice none 0 0]) ?_ 0 _ rfl; (with_reducible repeat (first | refine blk_drewN ?_ _ | refine blk_drew ?_ | refine blk_alloc ?_ _)); refine blk_far ?_ NB288_295.out _; (with_reducible repeat (first | refine blk_drewN ?_ _ | refine blk_drew ?_ | refine blk_alloc ?_ _)); refine blk_far ?_ NB288_295.out _; (with_reducible repeat (first | refine blk_drewN ?_ _ | refine blk_drew ?_ | refine blk_alloc ?_ _)); exact BK288.out) Tryd.underlying32 rfl J8) rfl ?_
      exact ⟨_, _, _, J2, by (with_reducible repeat (first | apply Kd.R_alloc | apply Kd.R_drewN | apply Kd.R_drew)); exact Kd.R_mono (Kd.R_far (p := ⟨gb288, 3, none⟩) (Kd.R_far (p := ⟨gb288, 2, none⟩) (Kd.R_far (p := ⟨gb288, 1, none⟩) (Kd.R_far (p := ⟨gb288, 0, none⟩) (Kd.R_far (p := ⟨gb295, 2, none⟩) (Kd.R_far (p := ⟨gb295, 0, none⟩) (Kd.R_types (Kd.R_types HO294.out BK295.out J18) BK288.out J18) (fun _ hk => hk.1.2) (.int .i64 1)) (fun _ hk => hk.1.2) (.slice Ao33 t296.length co33)) (fun _ hk => hk.2) (.int .i64 1)) (fun _ hk => hk.2) (.slice Ao28 t292.length co28)) (fun _ hk => hk.2) (.slice Ao33 t296.length co33)) (fun _ hk => hk.2) (.slice none 0 0)) (fun _ hk => by first | exact hk.1.1.2 | exact hk.1.1), by (with_reducible repeat (first | apply Kd.R_alloc | apply Kd.R_drewN | apply Kd.R_drew)); exact Kd.R_mono (Kd.R_far (p := ⟨gb288, 3, none⟩) (Kd.R_far (p := ⟨gb288, 2, none⟩) (Kd.R_far (p := ⟨gb288, 1, none⟩) (Kd.R_far (p := ⟨gb288, 0, none⟩) (Kd.R_far (p := ⟨gb295, 2, none⟩) (Kd.R_far (p := ⟨gb295, 0, none⟩) (Kd.R_types (Kd.R_types HO299.out BK295.out J18) BK288.out J18) (fun _ hk => hk.1.2) (.int .i64 1)) (fun _ hk => hk.1.2) (.slice Ao33 t296.length co33)) (fun _ hk => hk.2) (.int .i64 1)) (fun _ hk => hk.2) (.slice Ao28 t292.length co28)) (fun _ hk => hk.2) (.slice Ao33 t296.length co33)) (fun _ hk => hk.2) (.slice none 0 0)) (fun _ hk => by first | exact hk.1.1.2 | exact hk.1.1), J9, J47⟩
def api_Node_78.f (l0 : List (S32)) : Option ((List (S32))) := (some (([] : List (S32)) : List (S32))).bind fun y304 => (if y304.length + l0.length < 1759218604441 then (some (y304 ++ l0)) else (none))
set_option maxHeartbeats 8000000 in
set_option maxRecDepth 100000 in
theorem api_Node_78.calls (P0_ : Nat → Prop) (A0 : Option Addr) (c0 : Nat) (l0 : List (S32)) (r : List (S32)) (w : World) (hs0 : Kd.V k32 32 w w.heap.size (fun k_ => P0_ k_) (.slice A0 l0.length c0) l0) (h : api_Node_78.f l0 = some r) :
    Calls Tryd.prog 78 #[.slice A0 l0.length c0] w fun e w' => ∃ v0_ : Value, e = .returned (v0_) ∧ Kd.N k32 32 w' w.heap.size (fun k_ => (P0_ k_ ∨ w.heap.size ≤ k_)) v0_ r ∧ Below w.heap.size w w' := by
  cases A0 with
  | none =>
    obtain rfl : l0 = [] := by
      cases l0 with
      | nil => rfl
      | cons x_ y_ =>
        obtain ⟨ad_, c_, e_, _⟩ := Kd.C_get (Kd.V_reads' hs0).2.2 z32 0 J26 (by rw [List.length_cons]; omega)
        exact absurd e_ J32
    have hn_ : ∀ W : World, (binOp .eql 23 (.slice none 0 c0) (.slice none 0 0)).run Tryd.prog W = .ok (.bool true) W := fun W => Lib.run_eql_slice_nil W 23 32 none _ c0 0 0 Tryd.underlying23
    rw [show ([] : List (S32)).length = 0 from rfl]
    go_enter Tryd.func78, Tryd.ntmps78
    go_wp2
    go_ret
    obtain rfl : r = [] := by simpa [api_Node_78.f] using h.symm
    exact ⟨_, rfl, Kd.N_nil _ _ _ _ _, Below.refl _ _⟩
  | some a0_ =>
    have hn_ : ∀ W : World, (binOp .eql 23 (.slice (some a0_) l0.length c0) (.slice none 0 0)).run Tryd.prog W = .ok (.bool false) W := fun W => Lib.run_eql_slice_nil W 23 32 (some a0_) _ c0 0 0 Tryd.underlying23
    have HO0 := zq (show Kd.V k32 32 w w.heap.size (fun k_ => (P0_ k_ ∨ w.heap.size ≤ k_)) (.slice (some a0_) l0.length c0) l0 from Kd.V_mono hs0 (fun k_ hk => .inl hk))
    have HB := zq (Below.refl w.heap.size w)
    have H : ((some (([] : List (S32)) : List (S32))).bind fun y304 => (if y304.length + l0.length < 1759218604441 then (some (y304 ++ l0)) else (none))) = some r := h
    clear h
    obtain ⟨y304, hy304⟩ : ∃ y_ : List (S32), y_ = (([] : List (S32))) := ⟨_, rfl⟩
    replace H : (if y304.length + l0.length < 1759218604441 then (some (y304 ++ l0)) else (none)) = some r := by first | (rw [hy304]; with_reducible exact H) | (have H2_ := (Option.bind_some _ _).symm.trans H; rw [hy304]; with_reducible exact H2_) | (have H2_ := (Option.bind_some _ _).symm.trans H; with_reducible exact H2_) | with_reducible exact H | (rw [hy304]; exact H) | exact H
    have Ny304 := zq hy304
    clear hy304
    by_cases c2 : y304.length + l0.length < 1759218604441
    · rw [if_pos c2] at H
      have LMc2 := zq c2
      clear c2
      obtain ⟨y307, hy307⟩ : ∃ y_ : List (S32), y_ = (y304 ++ l0) := ⟨_, rfl⟩
      replace H : (some y307) = some r := by first | (rw [hy307]; with_reducible exact H) | (have H2_ := (Option.bind_some _ _).symm.trans H; rw [hy307]; with_reducible exact H2_) | (have H2_ := (Option.bind_some _ _).symm.trans H; with_reducible exact H2_) | with_reducible exact H | (rw [hy307]; exact H) | exact H
      have Ny307 := zq hy307
      clear hy307
      obtain rfl := Option.some.inj H
      go_enter Tryd.func78, Tryd.ntmps78
      go_wp2_with (first | ((with_reducible refine gate_dst (N := 5) rfl ?_); refine Kd.N_lit k32 _ 32 ?hg (N' := 5) ?hd (xs := ([] : List (S32))) (inner := []) (ok := (fun k_ => (P0_ k_ ∨ w.heap.size ≤ k_))) (okp := (fun k_ => (P0_ k_ ∨ w.heap.size ≤ k_))) ?hr ?hp (fun _ hk => hk) ((show ∀ k_, w.heap.size ≤ k_ → (fun k_ => (P0_ k_ ∨ w.heap.size ≤ k_)) k_ from fun k_ hk => (.inr (Nat.le_trans (below_size J0) hk))) _ (Nat.le_refl _)) (Below.refl _ _) (Nat.le_refl _) J32 ?_; (case hd => rfl); (case hg => rfl); (case hr => first | (go_simp; done) | (go_simp; rfl)); (case hp => exact (Reps.none _ _)); intro v305 w3 ho4 hb hg_ hnew_; clear hg_ hnew_; (first | rw [← Ny304.out] at ho4 | (simp only [Int.reduceToNat] at ho4; rw [← Ny304.out] at ho4)); replace HO0 := zq (Kd.V_elder' (zv HO0.out) (Kd.N_base ho4) hb); have HO306 := zq (Kd.N_lower ho4 (below_size J0)); replace HB := zq (below_step J0 hb); clear hb ho4) | ((with_reducible refine gate_builtin (b := .append) (xs := #[.tmp 5, .tmp 6]) rfl ?_); at_builtin; refine Kd.N_append_rows k32 (w0 := w) w.heap.size rfl (.tmp 5) (.tmp 6) 23 32 (.agg #[(.int .i64 0), (.slice none 0 0), (.slice none 0 0), (.slice none 0 0)]) 80 rfl Tryd.underlying23 info32 rfl J18 J26 v305 y304 l0 _ _ _ (fun k_ => (P0_ k_ ∨ w.heap.size ≤ k_)) (fun k_ => ((fun k_ => (P0_ k_ ∨ w.heap.size ≤ k_))) k_ ∧ some k_ ≠ (v305 : Value).ownBlock) rfl rfl ?aO ?aR (fun _ hk => hk) ?aF ?aB ?aS ?aL ?_; (case aR => exact (by skip; exact Kd.V_F (Kd.V_mono (ok' := (fun k_ => ((fun k_ => (P0_ k_ ∨ w.heap.size ≤ k_))) k_ ∧ some k_ ≠ (v305 : Value).ownBlock)) (HO0.out) (fun k_ hk => ⟨hk.1, hk.2⟩)))); (case aB => exact J0); (case aF => exact (fun k_ hk => (.inr (Nat.le_trans (below_size J0) hk)))); (case aO => exact (zn HO306.out)); (case aS => exact (below_size J0)); (case aL => have := LMc2.out; omega); intro v308 w5 ho hb hg hat; rw [← Ny307.out] at ho; replace HO0 := zq (Kd.V_afterv (ok := (fun k_ => (P0_ k_ ∨ w.heap.size ≤ k_))) (zv HO0.out) hg hat); replace HB := zq (hb); have HO309 := zq (ho); clear HO306; clear ho hb hg hat))
      go_ret
      exact ⟨_, J2, by (with_reducible repeat (first | apply Kd.N_alloc | apply Kd.N_drewN | apply Kd.N_drew)); exact HO309.out, J0⟩
    · rw [if_neg c2] at H
      exact absurd H J32
def half {α : Type} (f : Nat → Nat) (d : Kd α) (w0 : World) (ok0 : Nat → Prop) : Kd (α × Nat × Bool) where
  sz := d.sz
  E := d.E
  K := fun _ _ cs => cs.length = d.sz ∧ ∀ u ∈ cs, u.oneCell' = true
  M := fun w base ok x cs => if x.2.2 = true then d.M w base (fun k => ok k ∧ f k = x.2.1) x.1 cs else Kd.FK d w0 ok0 x.1 cs
  K_len := fun h => h.1
  K_one := fun h => h.2
  K_below := fun _ h => h
  K_of_M := fun {w base ok x cs} h => by
    by_cases c : x.2.2 = true
    · rw [if_pos c] at h; exact ⟨d.K_len (d.K_of_M h), d.K_one (d.K_of_M h)⟩
    · rw [if_neg c] at h; exact ⟨d.K_len (Kd.FK_now h), d.K_one (Kd.FK_now h)⟩
  M_mono := fun {w base ok ok' x cs} hok h => by
    by_cases c : x.2.2 = true
    · rw [if_pos c] at h ⊢; exact d.M_mono (fun k hk => ⟨hok k hk.1, hk.2⟩) h
    · rw [if_neg c] at h ⊢; exact h
  M_bound := fun {w base ok x cs} h => by
    by_cases c : x.2.2 = true
    · rw [if_pos c] at h ⊢; exact d.M_mono (fun _ hk => ⟨⟨hk.1.1, hk.2⟩, hk.1.2⟩) (d.M_bound h)
    · rw [if_neg c] at h ⊢; exact h
  M_move := fun {w w1 base ok x cs} hm h => by
    by_cases c : x.2.2 = true
    · rw [if_pos c] at h ⊢; exact d.M_move (fun k hk => hm k hk.1) h
    · rw [if_neg c] at h ⊢; exact h
  M_lower := fun {w base base' ok x cs} hb h => by
    by_cases c : x.2.2 = true
    · rw [if_pos c] at h ⊢; exact d.M_lower hb h
    · rw [if_neg c] at h ⊢; exact h
theorem half_M {α : Type} {f : Nat → Nat} {d : Kd α} {w0 w : World} {ok0 : Nat → Prop} {base : Nat} {ok : Nat → Prop} {x : α × Nat × Bool} {cs : List Value} : (half f d w0 ok0).M w base ok x cs = if x.2.2 = true then d.M w base (fun k => ok k ∧ f k = x.2.1) x.1 cs else Kd.FK d w0 ok0 x.1 cs := rfl
def marks {α : Type} (xs : List α) (k : Nat) : List (α × Nat × Bool) := xs.zipIdx.map fun p => (p.1, p.2, decide (p.2 < k))
theorem marks_length {α : Type} (xs : List α) (k : Nat) : (marks xs k).length = xs.length := by simp [marks]
theorem marks_at {α : Type} {xs : List α} {k j : Nat} {p : α × Nat × Bool} (h : (marks xs k)[j]? = some p) : ∃ x, xs[j]? = some x ∧ p = (x, j, decide (j < k)) := by
  simp only [marks, List.getElem?_map, List.getElem?_zipIdx, Nat.zero_add, Option.map_map, Option.map_eq_some_iff] at h
  obtain ⟨x, hx, rfl⟩ := h
  exact ⟨x, hx, rfl⟩
theorem marks_set {α : Type} (xs : List α) (k : Nat) (x : α) (h : xs[k]? = some x) : (marks xs k).set k (x, k, true) = marks xs (k + 1) := by
  apply List.ext_getElem?
  intro j
  rw [List.getElem?_set]
  have hk : k < xs.length := (List.getElem?_eq_some_iff.1 h).1
  by_cases e : k = j
  · subst e
    rw [if_pos rfl, if_pos (by rw [marks_length]; exact hk)]
    simp [marks, h]
  · rw [if_neg e]
    simp only [marks, List.getElem?_map, List.getElem?_zipIdx, Nat.zero_add, Option.map_map]
    congr 1
    funext y
    have : decide (j < k) = decide (j < k + 1) := by rw [decide_eq_decide]; omega
    simp [this]
theorem half_of_N {α : Type} {d : Kd α} {e base : Nat} {ok : Nat → Prop} {w : World} {v : Value} {xs : List α} (f : Nat → Nat) (h : Kd.N d e w base ok v xs) : (half f d w (fun k => some k ≠ v.ownBlock)).R e w base ok v (marks xs 0) := by
  obtain ⟨h0, rows, hl, ⟨_, inner, ho, hr⟩, hf⟩ := h
  refine ⟨h0, inner, ?_, ?_⟩
  · rw [marks_length, ← hl]; exact ho
  · refine ⟨?_, fun j p hj => ?_⟩
    · rw [marks_length, ← hl]; exact hr.1
    · obtain ⟨x, hx, rfl⟩ := marks_at hj
      have hjl : j < rows.length := by rw [hl]; exact (List.getElem?_eq_some_iff.1 hx).1
      have h1 := hr.2 j _ (List.getElem?_eq_getElem hjl)
      have h2 := Kd.FK_mono (hf j x _ hx (List.getElem?_eq_getElem hjl)) (fun _ hk => hk.2)
      rw [half_M, if_neg J32]
      have h3 : (inner.drop (j * d.sz)).take d.sz = rows[j] := h1.1
      exact h3 ▸ h2
theorem half_retag {α : Type} {d : Kd α} {e base : Nat} {ok ok0 : Nat → Prop} {w0 w : World} {v : Value} {xs : List α} {f : Nat → Nat} {k : Nat} (h : (half f d w0 ok0).R e w base ok v (marks xs k)) (m : Nat) :
    ∃ f', (∀ b, w.heap.size ≤ b → f' b = m) ∧ (half f' d w0 ok0).R e w base ok v (marks xs k) := by
  refine ⟨fun b => if b < w.heap.size then f b else m, fun b hb => if_neg J26, ?_⟩
  have hb := Kd.R_bound h
  obtain ⟨h0, inner, ho, hr⟩ := h
  obtain ⟨_, inner2, ho2, hr2⟩ := hb
  refine ⟨h0, inner, ho, hr.1, fun j p hj => ?_⟩
  have hM := hr.2 j p hj
  obtain ⟨x, hx, rfl⟩ := marks_at hj
  by_cases c : decide (j < k) = true
  · rw [half_M, if_pos c] at hM ⊢
    exact d.M_mono (fun b hk => ⟨hk.1.1, by show (if b < w.heap.size then f b else m) = j; rw [if_pos hk.2.2.1]; exact hk.1.2⟩) (d.M_bound hM)
  · rw [half_M, if_neg c] at hM ⊢
    exact hM
theorem S_of_half {α : Type} {d : Kd α} {e base : Nat} {ok ok0 : Nat → Prop} {w0 w : World} {v : Value} {xs : List α} {f : Nat → Nat} (h : (half f d w0 ok0).R e w base ok v (marks xs xs.length)) : Kd.S d e w base ok v xs := by
  obtain ⟨h0, inner, ho, hr⟩ := h
  rw [marks_length] at ho
  refine ⟨f, h0, inner, ?_, ?_, fun j p hj => ?_⟩
  · rw [List.length_zipIdx]; exact ho
  · rw [List.length_zipIdx]; have := hr.1; rw [marks_length] at this; exact this
  · obtain ⟨x, i⟩ := p
    rw [List.getElem?_zipIdx, Nat.zero_add, Option.map_eq_some_iff] at hj
    obtain ⟨y, hy, he⟩ := hj
    injection he with e1 e2
    subst e1 e2
    have hjl := (List.getElem?_eq_some_iff.1 hy).1
    have hM := hr.2 j (y, j, decide (j < xs.length)) (by simp [marks, hy])
    rw [half_M, if_pos (by simp [hjl])] at hM
    exact hM
theorem half_elem {α : Type} {d : Kd α} {e base n cap g : Nat} {ok ok0 : Nat → Prop} {w0 W : World} {xs : List α} {f : Nat → Nat} {k : Nat} {x : α} (h : (half f d w0 ok0).R e W base ok (.slice (some ⟨g, 0, none⟩) n cap) (marks xs k)) (hx : xs[k]? = some x) :
    ∃ c, c.length = d.sz ∧ Kd.FK d w0 ok0 x c ∧ (∀ j u, c[j]? = some u → W.cell? ⟨g, k * d.sz + j, none⟩ = some u) ∧ ∀ j, W.frozen? ⟨g, k * d.sz + j, none⟩ = false := by
  have hk : k < xs.length := (List.getElem?_eq_some_iff.1 hx).1
  have hn := (Kd.R_reads' h).1
  rw [marks_length] at hn
  obtain ⟨c, hcl, hM, hcc, hfr⟩ := Kd.R_elem h (x, k, false) (k : Int) J26 J26
  rw [Int.toNat_natCast] at hM hcc hfr
  have hg : (marks xs k).getD k (x, k, false) = (x, k, false) := by simp [marks, hx]
  rw [hg] at hM
  refine ⟨c, hcl, ?_, hcc, hfr⟩
  rw [half_M, if_neg J32] at hM
  exact hM
theorem half_put {α : Type} {d : Kd α} {e base n cap g : Nat} {ok okp ok0 : Nat → Prop} {w0 W : World} {xs : List α} {f : Nat → Nat} {k : Nat} {x : α} {seg : List Value} (h : (half f d w0 ok0).R e W base ok (.slice (some ⟨g, 0, none⟩) n cap) (marks xs k)) (hx : xs[k]? = some x)
    (hM : d.M W base okp x seg) (hok : ∀ b, okp b → (ok b ∧ b ≠ g) ∧ f b = k) : (half f d w0 ok0).R e (W.setCells g (k * d.sz) seg) base ok (.slice (some ⟨g, 0, none⟩) n cap) (marks xs (k + 1)) ∧ W.grownBy (W.setCells g (k * d.sz) seg) (some g) := by
  have hk : k < xs.length := (List.getElem?_eq_some_iff.1 hx).1
  have hn := (Kd.R_reads' h).1
  rw [marks_length] at hn
  obtain ⟨c, hcl, _, hcc, _⟩ := half_elem h hx
  have hsl := d.K_len (d.K_of_M hM)
  have := Kd.R_seg (d := half f d w0 ok0) (okp := fun b => ok b ∧ b ≠ g) h (k : Int) J26 J26 (c := c) (seg := seg) (j := 0) hcl (by rw [Int.toNat_natCast]; exact hcc) (by rw [Nat.zero_add, hsl]; exact Nat.le_refl _) (x' := (x, k, true))
    (by rw [List.take_zero, List.nil_append, Nat.zero_add, hsl, ← hcl, List.drop_length, List.append_nil]
        rw [half_M, if_pos rfl]
        exact d.M_mono hok hM) (fun _ hk => hk)
  rw [Int.toNat_natCast, Nat.add_zero, marks_set xs k x hx] at this
  exact this
def array_Copy.f (l0 : List S32) : Option (List S32) := if l0.length < 1759218604441 ∧ (∀ x ∈ l0, x.f1.length < 17592186044416 ∧ x.f2.length < 17592186044416 ∧ x.f3.length < 8796093022208) then some l0 else none
theorem at_world {P : Program} {c : Code} {Q : Exit → Act → World → Prop} {a : Act} {W : World} (p : World → Prop) (hp : p W) (h : ∀ W2, p W2 → c.wp P Q a W2) : c.wp P Q a W := h W hp
set_option maxHeartbeats 8000000 in
set_option maxRecDepth 100000 in
theorem array_Copy.calls (A0 : Option Addr) (c0 : Nat) (l0 : List S32) (r : List S32) (w : World) (hr0 : Kd.C k32 w A0 l0.length l0) (hc0 : l0.length ≤ c0) (h : array_Copy.f l0 = some r) :
    Calls Tryd.prog 59 #[.slice A0 l0.length c0] w fun e w' => ∃ v0_ : Value, e = .returned (v0_) ∧ Kd.S k32 32 w' w.heap.size (fun _ => True) v0_ r ∧ Below w.heap.size w w' := by
  unfold array_Copy.f at h
  by_cases h0 : l0.length < 1759218604441 ∧ (∀ x ∈ l0, x.f1.length < 17592186044416 ∧ x.f2.length < 17592186044416 ∧ x.f3.length < 8796093022208)
  · rw [if_pos h0] at h
    obtain rfl := Option.some.inj h
    clear h
    obtain ⟨hlen, hin0⟩ := h0
    have HIN := zq hin0
    clear hin0
    have A1_ := zq (show api_Node_78.f l0 = some l0 by unfold api_Node_78.f; rw [Option.bind_some, List.length_nil, Nat.zero_add, if_pos hlen, List.nil_append])
    have HV := zq (show Kd.V k32 32 w w.heap.size (fun k_ => k_ < w.heap.size) (.slice A0 l0.length c0) l0 from Kd.V_mk hc0 (Kd.C_F k32_heap hr0))
    clear hr0 hc0
    have HL := zq hlen
    clear hlen
    go_enter Tryd.func59, Tryd.ntmps59
    go_wp2_with (first | ((with_reducible refine gate_callee (f := 78) rfl ?_); refine goesL_ (some 7) rfl rfl Tryd.func78 J8 rfl #[.slice A0 l0.length c0] rfl (by (try simp only [List.map_toArray, List.map_cons, List.map_nil]); first | done | rfl) ?_; (with_reducible refine (api_Node_78.calls _ A0 c0 l0 l0 _ HV.out A1_.out).mono ?_); rintro e w1 ⟨v1, rfl, ho, hb⟩; refine ⟨_, rfl, ?_⟩; obtain ⟨Ao, co, eo⟩ := Kd.N_slice ho; subst eo; have HN := zq ho; have HB1 := zq hb; clear ho hb))
    have hle : l0.length ≤ 1759218604441 := Nat.le_of_lt HL.out
    go_loopg [10] l0.length (fun kq v10 w' => ∃ (k : Nat) (f : Nat → Nat), v10 = .int .i64 (k : Int) ∧ Aside0 (kq + k = l0.length) ∧ Aside0 ((half f k32 w1 (fun b => some b ≠ (Value.slice Ao l0.length co).ownBlock)).R 32 w' w.heap.size (fun _ => True) (.slice Ao l0.length co) (marks l0 k)) ∧ Aside0 (Below w.heap.size w w') ∧ Aside0 (w1.grownBy w' (Value.slice Ao l0.length co).ownBlock))
    case atStart => exact ⟨0, fun _ => 0, rfl, ⟨J26⟩, ⟨half_of_N _ (Kd.N_mono HN.out (fun _ _ => trivial))⟩, HB1, ⟨World.grownBy.refl _ _⟩⟩
    case round =>
      obtain ⟨k, f, rfl, HQ, HR, HB, HG⟩ := hrel
      by_cases hk : k < l0.length
      · obtain ⟨g, cap, eg, hg1, hg2, hg3⟩ := Kd.R_form HR.out (by rw [marks_length]; omega)
        have HGE := zq hg1
        have HGL := zq hg2
        rw [marks_length] at eg
        injection eg with eg1 _ eg2
        subst eg1 eg2
        have hx : l0[k]? = some l0[k] := List.getElem?_eq_getElem hk
        obtain ⟨x, hxe⟩ : ∃ x, x = l0[k] := ⟨_, rfl⟩
        rw [← hxe] at hx
        have HX := zq hx
        have hxm : x ∈ l0 := by rw [hxe]; exact List.getElem_mem hk
        obtain ⟨b1, b2, b3⟩ := HIN.out x hxm
        clear hx hxe hxm
        have A1 := zq (show slices_Clone_int_int.f x.f1 = some x.f1 by unfold slices_Clone_int_int.f; rw [Option.bind_some, List.length_nil, Nat.zero_add, if_pos b1, List.nil_append])
        have A2 := zq (show slices_Clone_int_int.f x.f2 = some x.f2 by unfold slices_Clone_int_int.f; rw [Option.bind_some, List.length_nil, Nat.zero_add, if_pos b2, List.nil_append])
        have A3 := zq (show api_Dec_45.f x.f3 = some x.f3 by unfold api_Dec_45.f; rw [Option.bind_some, List.length_nil, Nat.zero_add, if_pos b3, List.nil_append])
        clear b1 b2 b3
        obtain ⟨f', hf', hR'⟩ := half_retag HR.out k
        have HF := zq hf'
        have HR2 := zq hR'
        clear HR hf' hR'
        obtain ⟨c, hcl, hFK, hcc, hfr⟩ := half_elem HR2.out HX.out
        have hK := hFK wr (fun b hb1 hb2 => HG.out.block b hb2 hb1)
        obtain ⟨B1, d1, B2, d2, B3, d3, rfl, l1, g1, l2, g2, l3, g3⟩ := k32_open hK
        clear hFK hK hcl
        have HC1 := zq g1
        have HC2 := zq g2
        have HC3 := zq g3
        have HL1 := zq l1
        have HL2 := zq l2
        have HL3 := zq l3
        clear g1 g2 g3 l1 l2 l3
        have hc0 : wr.cell? ⟨g, k * 4, none⟩ = some (.int .i64 x.f0) := hcc 0 _ rfl
        have hc1 : wr.cell? ⟨g, k * 4 + 1, none⟩ = some (.slice B1 x.f1.length d1) := hcc 1 _ rfl
        have hc2 : wr.cell? ⟨g, k * 4 + 2, none⟩ = some (.slice B2 x.f2.length d2) := hcc 2 _ rfl
        have hc3 : wr.cell? ⟨g, k * 4 + 3, none⟩ = some (.slice B3 x.f3.length d3) := hcc 3 _ rfl
        clear hcc hfr
        have hp1 : (0 : Int) ≤ (k : Int) := Int.natCast_nonneg k
        have hp2 : (k : Int) < (l0.length : Int) := Int.ofNat_lt.2 hk
        have hd := decide_eq_true hk
        go_wp2
        refine at_world (fun W2 => W2.heap.size = wr.heap.size + 1 ∧ W2.heap[wr.heap.size]? = some (.cells #[.int .i64 x.f0, .slice B1 x.f1.length d1, .slice B2 x.f2.length d2, .slice B3 x.f3.length d3] 32 (0, 0)) ∧ Below wr.heap.size wr W2) ⟨J32, heap_alloc_new wr _, below_alloc (Below.refl _ _) _⟩ ?_
        rintro w2 ⟨hsz, hbx, hb2⟩
        have HS := zq hsz
        have BK := zq hbx
        have HW := zq hb2
        clear hsz hbx hb2 hc0 hc1 hc2 hc3
        have hz0 : w2.cell? ⟨wr.heap.size, 0, none⟩ = some (.int .i64 x.f0) := (blk_cell BK.out 0).trans rfl
        have hz1 : w2.cell? ⟨wr.heap.size, 1, none⟩ = some (.slice B1 x.f1.length d1) := (blk_cell BK.out 1).trans rfl
        have hz2 : w2.cell? ⟨wr.heap.size, 2, none⟩ = some (.slice B2 x.f2.length d2) := (blk_cell BK.out 2).trans rfl
        have hz3 : w2.cell? ⟨wr.heap.size, 3, none⟩ = some (.slice B3 x.f3.length d3) := (blk_cell BK.out 3).trans rfl
        have hne1 : (wr.heap.size = g) = False := eq_false J26
        have hne2 : (g = wr.heap.size) = False := eq_false J26
        go_region_held3 (fun w' => w'.cell? ⟨wr.heap.size, 0, none⟩ = some (.int .i64 x.f0) ∧ w'.cell? ⟨wr.heap.size, 1, none⟩ = some (.slice B1 x.f1.length d1) ∧ w'.cell? ⟨wr.heap.size, 2, none⟩ = some (.slice B2 x.f2.length d2) ∧ w'.cell? ⟨wr.heap.size, 3, none⟩ = some (.slice B3 x.f3.length d3)) (go_keep)
          (first
            | (go_at_call 42; refine (slices_Clone_int_int.calls B1 d1 x.f1 x.f1 _ (by first | exact Kd.C_below HC1.out HW.out | exact Kd.C_below HC1.out (below_drew HW.out)) HL1.out A1.out).mono ?_; rintro e w3 ⟨v1, rfl, ho, hb⟩; obtain ⟨E1, e1, rfl⟩ := Kd.R_slice ho; have n0_ := zq (blk_below (by first | exact BK.out | exact blk_drew BK.out) hb); have n1_ := zq (Kd.R_lower ho (below_size J92)); have n2_ := zq (below_step J92 hb); clear BK HW ho hb; have BK := n0_; have HO1 := n1_; have HW := n2_; clear n0_ n1_ n2_; have hz0 : w3.cell? ⟨wr.heap.size, 0, none⟩ = some (.int .i64 x.f0) := (blk_cell BK.out 0).trans rfl; have hz1 : w3.cell? ⟨wr.heap.size, 1, none⟩ = some (.slice B1 x.f1.length d1) := (blk_cell BK.out 1).trans rfl; have hz2 : w3.cell? ⟨wr.heap.size, 2, none⟩ = some (.slice B2 x.f2.length d2) := (blk_cell BK.out 2).trans rfl; have hz3 : w3.cell? ⟨wr.heap.size, 3, none⟩ = some (.slice B3 x.f3.length d3) := (blk_cell BK.out 3).trans rfl)
            | (go_at_call 42; refine (slices_Clone_int_int.calls B2 d2 x.f2 x.f2 _ (by first | exact Kd.C_below HC2.out HW.out | exact Kd.C_below HC2.out (below_drew HW.out)) HL2.out A2.out).mono ?_; rintro e w4 ⟨v2, rfl, ho, hb⟩; obtain ⟨E2, e2, rfl⟩ := Kd.R_slice ho; have n0_ := zq (blk_below (by first | exact BK.out | exact blk_drew BK.out) hb); have n1_ := zq (Kd.R_lower ho (below_size J92)); have n2_ := zq (below_step J92 hb); have n3_ := zq (Kd.R_below (by first | exact HO1.out | exact Kd.R_drew HO1.out) hb); clear BK HW HO1 ho hb; have BK := n0_; have HO2 := n1_; have HW := n2_; have HO1 := n3_; clear n0_ n1_ n2_ n3_; have hz0 : w4.cell? ⟨wr.heap.size, 0, none⟩ = some (.int .i64 x.f0) := (blk_cell BK.out 0).trans rfl; have hz1 : w4.cell? ⟨wr.heap.size, 1, none⟩ = some (.slice B1 x.f1.length d1) := (blk_cell BK.out 1).trans rfl; have hz2 : w4.cell? ⟨wr.heap.size, 2, none⟩ = some (.slice B2 x.f2.length d2) := (blk_cell BK.out 2).trans rfl; have hz3 : w4.cell? ⟨wr.heap.size, 3, none⟩ = some (.slice B3 x.f3.length d3) := (blk_cell BK.out 3).trans rfl)
            | (go_at_call 45; refine (api_Dec_45.calls B3 d3 x.f3 x.f3 _ (by first | exact Kd.C_below HC3.out HW.out | exact Kd.C_below HC3.out (below_drew HW.out)) HL3.out A3.out).mono ?_; rintro e w5 ⟨v3, rfl, ho, hb⟩; obtain ⟨E3, e3, rfl⟩ := Kd.R_slice ho; have n0_ := zq (blk_below (by first | exact BK.out | exact blk_drew BK.out) hb); have n1_ := zq (Kd.R_lower ho (below_size J92)); have n2_ := zq (below_step J92 hb); have n3_ := zq (Kd.R_below (by first | exact HO1.out | exact Kd.R_drew HO1.out) hb); have n4_ := zq (Kd.R_below (by first | exact HO2.out | exact Kd.R_drew HO2.out) hb); clear BK HW HO1 HO2 ho hb; have BK := n0_; have HO3 := n1_; have HW := n2_; have HO1 := n3_; have HO2 := n4_; clear n0_ n1_ n2_ n3_ n4_; have HR5 := zq (Kd.R_below HR2.out HW.out); obtain ⟨c5, _, hFK5, hcc5, hfr5⟩ := half_elem HR5.out HX.out; obtain ⟨G1, q1, G2, q2, G3, q3, rfl, _, _, _, _, _, _⟩ := k32_open (Kd.FK_now hFK5); clear hFK5; have hs0 : w5.cell? ⟨g, k * 4, none⟩ = some (.int .i64 x.f0) := hcc5 0 _ rfl; have hs1 : w5.cell? ⟨g, k * 4 + 1, none⟩ = some (.slice G1 x.f1.length q1) := hcc5 1 _ rfl; have hs2 : w5.cell? ⟨g, k * 4 + 2, none⟩ = some (.slice G2 x.f2.length q2) := hcc5 2 _ rfl; have hs3 : w5.cell? ⟨g, k * 4 + 3, none⟩ = some (.slice G3 x.f3.length q3) := hcc5 3 _ rfl; have hg0 : w5.frozen? ⟨g, k * 4, none⟩ = false := hfr5 0; have hg1 : w5.frozen? ⟨g, k * 4 + 1, none⟩ = false := hfr5 1; have hg2 : w5.frozen? ⟨g, k * 4 + 2, none⟩ = false := hfr5 2; have hg3 : w5.frozen? ⟨g, k * 4 + 3, none⟩ = false := hfr5 3; clear hcc5 hfr5; have hz0 : w5.cell? ⟨wr.heap.size, 0, none⟩ = some (.int .i64 x.f0) := (blk_cell BK.out 0).trans rfl; have hz1 : w5.cell? ⟨wr.heap.size, 1, none⟩ = some (.slice B1 x.f1.length d1) := (blk_cell BK.out 1).trans rfl; have hz2 : w5.cell? ⟨wr.heap.size, 2, none⟩ = some (.slice B2 x.f2.length d2) := (blk_cell BK.out 2).trans rfl; have hz3 : w5.cell? ⟨wr.heap.size, 3, none⟩ = some (.slice B3 x.f3.length d3) := (blk_cell BK.out 3).trans rfl))
        go_wp2
        go_roundg (l0.length - (k + 1))
        case measure => have := HQ.out; omega
        case rel =>
          have hM : k32.M w5 w.heap.size (fun b => wr.heap.size ≤ b) x [.int .i64 x.f0, .slice E1 x.f1.length e1, .slice E2 x.f2.length e2, .slice E3 x.f3.length e3] := k32_mkM _ _ _ x (Kd.R_lower (Kd.R_mono (Kd.R_bound HO1.out) (fun _ hk => hk.2.1)) (below_size HB.out)) (Kd.R_lower (Kd.R_mono (Kd.R_bound HO2.out) (fun _ hk => hk.2.1)) (below_size HB.out)) (Kd.R_lower (Kd.R_mono (Kd.R_bound HO3.out) (fun _ hk => hk.2.1)) (below_size HB.out))
          have hP := half_put HR5.out HX.out hM (fun b hb => ⟨⟨trivial, fun e_ => by subst e_; exact Nat.lt_irrefl _ (Nat.lt_of_lt_of_le HGL.out hb)⟩, HF.out b hb⟩)
          exact ⟨k + 1, f', rfl, ⟨by have := HQ.out; omega⟩, ⟨hP.1⟩, ⟨below_set (below_set (below_set (below_set (below_step HB.out HW.out) HGE.out) HGE.out) HGE.out) HGE.out⟩, ⟨(HG.out.trans (grown_of_below HW.out _)).trans hP.2⟩⟩
      · have c1 : decide (k < l0.length) = false := decide_eq_false hk
        have HK := zq (show k = l0.length by have := HQ.out; omega)
        clear hk
        go_wp2
        go_ret
        exact ⟨_, rfl, S_of_half (by have h_ := HR.out; rw [HK.out] at h_; exact h_), HB.out⟩
  · rw [if_neg h0] at h
    cases h
def decimal_Of.f (k : Nat) (a0 : Int) : Option (Int × Int) := (decimal_Norm.f k a0 0).bind fun bt311 => (some (bt311.1, bt311.2.1))
theorem decimal_Of.mono : ∀ a0 k, LeO (decimal_Of.f k a0) (decimal_Of.f (k + 1) a0) := by
  intro a0 k
  unfold decimal_Of.f
  have im0 := @decimal_Norm.mono
  exact mz3
set_option maxHeartbeats 8000000 in
set_option maxRecDepth 100000 in
theorem decimal_Of.calls (k : Nat) (a0 : Int) (r1 : Int) (r2 : Int) (w : World) (h : decimal_Of.f k a0 = some (r1, r2)) :
    Calls Tryd.prog 22 #[.int .i64 a0] w fun e w' => e = .returned (.agg #[.int .i64 r1, .int .i64 r2]) ∧ Below w.heap.size w w' := by
  have hu40 := Tryd.underlying40
  have HB := zq (Below.refl w.heap.size w)
  have H : ((decimal_Norm.f k a0 0).bind fun bt311 => (some (bt311.1, bt311.2.1))) = some (r1, r2) := h
  clear h
  replace H := Option.bind_eq_some_iff.mp H
  obtain ⟨⟨t311, t312, t313⟩, A20, H⟩ := H
  dsimp only at H
  have A2 := zq A20
  clear A20
  simp only [Option.some.injEq, Prod.mk.injEq] at H
  obtain ⟨rfl, rfl⟩ := H
  go_enter Tryd.func22, Tryd.ntmps22
  go_wp2_with (first | ((with_reducible refine gate_dst (N := 2) rfl ?_); refine bxw 2 40 #[.int .i64 0, .int .i64 0] ?_; intro gb310 hg w3 hbox hb; have BK310 := zq (hbox); have GE310 := zq ((J12 : w.heap.size ≤ gb310)); replace HB := zq (below_step J0 hb); clear hb hbox hg) | ((with_reducible refine gate_callee (f := 38) rfl ?_); refine goesL_ (some 8) rfl rfl Tryd.func38 J8 rfl #[.agg #[.int .i64 a0, .int .i64 0]] rfl J1 ?_; (with_reducible refine (decimal_Norm.calls k a0 0 t311 t312 t313 _ A2.out).mono ?_); rintro e w4 ⟨rfl, hb⟩; refine ⟨_, rfl, ?_⟩; replace BK310 := zq (blk_below (g := gb310) (o := .cells #[.int .i64 0, .int .i64 0] 40 (0, 0)) (zk BK310.out) hb); replace HB := zq (below_step (zs1 GE310.out) hb); (try clear hb)) | ((with_reducible refine gate_dst (N := 3) rfl ?_); refine bxw 3 40 #[.int .i64 0, .int .i64 0] ?_; intro gb314 hg w5 hbox hb; have BK314 := zq (hbox); have GE314 := zq ((by rw [hg]; exact (below_size (zs1 GE310.out)) : w.heap.size ≤ gb314)); replace HB := zq (below_step (zs1 GE310.out) hb); have NB310_314 := zq ((by rw [hg]; exact Nat.ne_of_lt (blk_lt (g := gb310) (o := .cells #[.int .i64 0, .int .i64 0] 40 (0, 0)) (zk BK310.out)) : gb310 ≠ gb314)); have NB314_310 := zq ((by rw [hg]; exact Nat.ne_of_gt (blk_lt (g := gb310) (o := .cells #[.int .i64 0, .int .i64 0] 40 (0, 0)) (zk BK310.out)) : gb314 ≠ gb310)); replace BK310 := zq (blk_below (g := gb310) (o := .cells #[.int .i64 0, .int .i64 0] 40 (0, 0)) (zk BK310.out) hb); clear hb hbox hg; have hnb6 := NB314_310.out; have hnc6 := NB310_314.out; obtain ⟨hcz7_0, hcz7_1, hfz7_0, hfz7_1⟩ := cz2 BK314.out; obtain ⟨hcz8_0, hcz8_1, hfz8_0, hfz8_1⟩ := cz2 BK310.out))
  refine bodyPost_ret (results_cell_row rfl _ _ gb310 40 #[.int .i64 t311, .int .i64 t312] (0, 0) _ rfl (by (with_reducible repeat (first | refine blk_drewN ?_ _ | refine blk_drew ?_ | refine blk_alloc ?_ _)); refine blk_put (cs := #[.int .i64 t311, .int .i64 0]) ?_ 1 _ rfl; (with_reducible repeat (first | refine blk_drewN ?_ _ | refine blk_drew ?_ | refine blk_alloc ?_ _)); refine blk_put (cs := #[.int .i64 0, .int .i64 0]) ?_ 0 _ rfl; (with_reducible repeat (first | refine blk_drewN ?_ _ | refine blk_drew ?_ | refine blk_alloc ?_ _)); refine blk_far ?_ NB310_314.out _; (with_reducible repeat (first | refine blk_drewN ?_ _ | refine blk_drew ?_ | refine blk_alloc ?_ _)); refine blk_far ?_ NB310_314.out _; (with_reducible repeat (first | refine blk_drewN ?_ _ | refine blk_drew ?_ | refine blk_alloc ?_ _)); exact BK310.out) Tryd.underlying40 rfl J8) rfl ?_
  exact ⟨J2, by repeat (first | (with_reducible first | exact HB.out | apply below_alloc | apply pw_below_drewN | apply below_drew1 | refine below_set ?_ GE310.out | refine below_set ?_ GE314.out) | exact HB.out)⟩
def tight_numbers.l0 : Nat → List (S40) → List Int → Int → Int → Option ((List (S40)))
  | 0, _, _, _, _ => none
  | k + 1, x3, x12, x13, x14 => if x14 < x13 then (if 0 ≤ x14 then (if x14 < (x12.length : Int) then ((decimal_Of.f k (rd x12 x14)).bind fun bt317 => (if x3.length < 8796093022208 then (tight_numbers.l0 k (x3 ++ [(⟨bt317.1, bt317.2⟩ : S40)]) x12 x13 (wrap64 (x14 + 1))) else (none))) else (none)) else (none)) else (some x3)
def tight_numbers.f (k : Nat) (a0_0 : Int) (l0_1 : List Int) (l0_2 : List Int) (l0_3 : List (S40)) : Option ((List (S40))) := if a0_0 = 4 then (some l0_3) else (tight_numbers.l0 k ([] : List (S40)) l0_2 (l0_2.length : Int) 0)
theorem tight_numbers.mono_l : ∀ k, (∀ y0 y1 y2 y3, LeO (tight_numbers.l0 k y0 y1 y2 y3) (tight_numbers.l0 (k + 1) y0 y1 y2 y3))
  | 0 => fun _ _ _ _ r h => by simp [tight_numbers.l0] at h
  | k + 1 => by
    have ih0 := tight_numbers.mono_l k
    · intro y0 y1 y2 y3
      unfold tight_numbers.l0
      have im0 := @decimal_Of.mono
      exact mz3
theorem tight_numbers.mono : ∀ a0 a1 a2 a3 k, LeO (tight_numbers.f k a0 a1 a2 a3) (tight_numbers.f (k + 1) a0 a1 a2 a3) := by
  intro a0 a1 a2 a3 k
  have ih0 := tight_numbers.mono_l k
  unfold tight_numbers.f
  have im0 := @decimal_Of.mono
  exact mz3
set_option maxHeartbeats 8000000 in
set_option maxRecDepth 100000 in
theorem tight_numbers.calls (k : Nat) (a0_0 : Int) (A0_1 : Option Addr) (c0_1 : Nat) (l0_1 : List Int) (A0_2 : Option Addr) (c0_2 : Nat) (l0_2 : List Int) (P0_3_ : Nat → Prop) (A0_3 : Option Addr) (c0_3 : Nat) (l0_3 : List (S40)) (r : List (S40)) (w : World) (hr0_1 : Kd.C (Kd.int .i64) w A0_1 l0_1.length l0_1) (hc0_1 : l0_1.length ≤ c0_1) (hr0_2 : Kd.C (Kd.int .i64) w A0_2 l0_2.length l0_2) (hc0_2 : l0_2.length ≤ c0_2) (hs0_3 : Kd.V k40 40 w w.heap.size (fun k_ => P0_3_ k_) (.slice A0_3 l0_3.length c0_3) l0_3) (h : tight_numbers.f k a0_0 l0_1 l0_2 l0_3 = some r) :
    Calls Tryd.prog 63 #[.agg #[.int .i64 a0_0, .slice A0_1 l0_1.length c0_1, .slice A0_2 l0_2.length c0_2, .slice A0_3 l0_3.length c0_3]] w fun e w' => ∃ v0_ : Value, e = .returned (v0_) ∧ Kd.V k40 40 w' w.heap.size (fun k_ => (P0_3_ k_ ∨ w.heap.size ≤ k_)) v0_ r ∧ Below w.heap.size w w' := by
  have hu32 := Tryd.underlying32
  have HR0_1 := zq hr0_1
  have HC0_1 := zq hc0_1
  clear hr0_1 hc0_1
  have HR0_2 := zq hr0_2
  have HC0_2 := zq hc0_2
  clear hr0_2 hc0_2
  have HO0_3 := zq (show Kd.V k40 40 w w.heap.size (fun k_ => (P0_3_ k_ ∨ w.heap.size ≤ k_)) (.slice A0_3 l0_3.length c0_3) l0_3 from Kd.V_mono hs0_3 (fun k_ hk => .inl hk))
  have HB := zq (Below.refl w.heap.size w)
  have H : (if a0_0 = 4 then (some l0_3) else (tight_numbers.l0 k ([] : List (S40)) l0_2 (l0_2.length : Int) 0)) = some r := h
  clear h
  by_cases c2 : a0_0 = 4
  · rw [if_pos c2] at H
    have c2b0 : (a0_0 == 4) = true := beq_iff_eq.mpr c2
    have c2b1 : (a0_0 != 4) = false := bne_eq_false_iff_eq.mpr c2
    clear c2
    obtain rfl := Option.some.inj H
    go_enter Tryd.func63, Tryd.ntmps63
    go_wp2_with (first | ((with_reducible refine gate_dst (N := 1) rfl ?_); refine bxw 1 32 #[.int .i64 a0_0, .slice A0_1 l0_1.length c0_1, .slice A0_2 l0_2.length c0_2, .slice A0_3 l0_3.length c0_3] ?_; intro gb315 hg w3 hbox hb; replace HO0_3 := zq (Kd.V_below (Kd.V_elderB (zv HO0_3.out) gb315 (Nat.le_of_eq hg.symm)) hb); have BK315 := zq (hbox); have GE315 := zq ((J12 : w.heap.size ≤ gb315)); replace HB := zq (below_step J0 hb); clear hb hbox hg; obtain ⟨hcz4_0, hcz4_1, hcz4_2, hcz4_3, hfz4_0, hfz4_1, hfz4_2, hfz4_3⟩ := cz4 BK315.out))
    go_ret
    exact ⟨_, J2, by (with_reducible repeat (first | apply Kd.V_alloc | apply Kd.V_drewN | apply Kd.V_drew)); exact Kd.V_mono HO0_3.out (fun _ hk => hk.1), J57⟩
  rw [if_neg c2] at H
  have c2b0 : (a0_0 == 4) = false := beq_eq_false_iff_ne.mpr c2
  have c2b1 : (a0_0 != 4) = true := bne_iff_ne.mpr c2
  have H' := zq H
  clear H
  go_enter Tryd.func63, Tryd.ntmps63
  go_wp2_with (first | ((with_reducible refine gate_dst (N := 1) rfl ?_); refine bxw 1 32 #[.int .i64 a0_0, .slice A0_1 l0_1.length c0_1, .slice A0_2 l0_2.length c0_2, .slice A0_3 l0_3.length c0_3] ?_; intro gb315 hg w5 hbox hb; replace HO0_3 := zq (Kd.V_below (Kd.V_elderB (zv HO0_3.out) gb315 (Nat.le_of_eq hg.symm)) hb); have BK315 := zq (hbox); have GE315 := zq ((J12 : w.heap.size ≤ gb315)); replace HB := zq (below_step J0 hb); clear hb hbox hg; obtain ⟨hcz6_0, hcz6_1, hcz6_2, hcz6_3, hfz6_0, hfz6_1, hfz6_2, hfz6_3⟩ := cz4 BK315.out))
  go_loopg [3, 14] k (fun kq v3 v14 w' => ∃ (x3_1 : List (S40)) (x14_1 : Int), v14 = .int .i64 x14_1 ∧ Aside0 (tight_numbers.l0 kq x3_1 l0_2 (l0_2.length : Int) x14_1 = some r) ∧ Aside0 (kq ≤ k) ∧ Aside0 (Kd.R k40 40 w' w.heap.size (fun k_ => (w.heap.size ≤ k_)) v3 x3_1) ∧ Aside0 (Kd.V k40 40 w' w.heap.size (fun k_ => (P0_3_ k_ ∨ w.heap.size ≤ k_) ∧ some k_ ≠ (v3 : Value).ownBlock ∧ k_ ≠ gb315) (.slice A0_3 l0_3.length c0_3) l0_3) ∧ Aside0 (w'.heap[gb315]? = some (.cells #[.int .i64 a0_0, (.slice A0_1 l0_1.length c0_1), (.slice A0_2 l0_2.length c0_2), (.slice A0_3 l0_3.length c0_3)] 32 (0, 0))) ∧ Aside0 (Below w.heap.size w w'))
  case atStart => exact ⟨(([] : List (S40))), (0), J4, H', ⟨Nat.le_refl _⟩, ⟨J9⟩, ⟨by (with_reducible repeat (first | apply Kd.V_alloc | apply Kd.V_drewN | apply Kd.V_drew)); exact Kd.V_mono HO0_3.out (fun _ hk => ⟨hk.1, ⟨(by simp [Value.ownBlock]), hk.2⟩⟩)⟩, ⟨J133⟩, ⟨J57⟩⟩
  case round =>
    clear H'
    try clear c2
    try clear c2b0
    try clear c2b1
    try clear p2
    try clear c6
    try clear hcz4_0
    try clear hcz4_1
    try clear hcz4_2
    try clear hcz4_3
    try clear hcz6_0
    try clear hcz6_1
    try clear hcz6_2
    try clear hcz6_3
    try clear hfz4_0
    try clear hfz4_1
    try clear hfz4_2
    try clear hfz4_3
    try clear hfz6_0
    try clear hfz6_1
    try clear hfz6_2
    try clear hfz6_3
    obtain ⟨x3_1, x14_1, rfl, HA, HK1, HO_3, HO_316003, BK315, HB⟩ := hrel
    cases gk with
    | zero => exact absurd HA.out (by simp [tight_numbers.l0])
    | succ k1 =>
      have H := HA.out
      clear HA
      simp only [tight_numbers.l0] at H
      by_cases c7 : x14_1 < (l0_2.length : Int)
      rotate_left
      · rw [if_neg c7] at H
        have c7b0 := decide_eq_false c7
        clear c7
        obtain rfl := Option.some.inj H
        go_wp2
        go_ret
        exact ⟨_, J2, Kd.V_mono (Kd.R_V (zr HO_3.out)) (fun k_ hk => by first | exact ⟨(.inr (hk.1)), hk.2⟩ | exact (.inr (hk))), J57⟩
      rw [if_pos c7] at H
      have c7b0 := decide_eq_true c7
      clear c7
      by_cases c8 : 0 ≤ x14_1
      rotate_left
      · rw [if_neg c8] at H
        exact absurd H J32
      rw [if_pos c8] at H
      have c8b0 := decide_eq_true c8
      clear c8
      by_cases c9 : x14_1 < (l0_2.length : Int)
      rotate_left
      · rw [if_neg c9] at H
        exact absurd H J32
      rw [if_pos c9] at H
      have c9b0 := decide_eq_true c9
      clear c9
      replace H := Option.bind_eq_some_iff.mp H
      obtain ⟨⟨t317, t318⟩, A100, H⟩ := H
      dsimp only at H
      have A10 := zq A100
      clear A100
      by_cases c11 : x3_1.length < 8796093022208
      rotate_left
      · rw [if_neg c11] at H
        exact absurd H J32
      rw [if_pos c11] at H
      have LMc11 := zq c11
      clear c11
      obtain ⟨y319, hy319⟩ : ∃ y_ : List (S40), y_ = (x3_1 ++ [(⟨t317, t318⟩ : S40)]) := ⟨_, rfl⟩
      replace H : (tight_numbers.l0 k1 y319 l0_2 (l0_2.length : Int) (wrap64 (x14_1 + 1))) = some r := by first | (rw [hy319]; with_reducible exact H) | (have H2_ := (Option.bind_some _ _).symm.trans H; rw [hy319]; with_reducible exact H2_) | (have H2_ := (Option.bind_some _ _).symm.trans H; with_reducible exact H2_) | with_reducible exact H | (rw [hy319]; exact H) | exact H
      have Ny319 := zq hy319
      clear hy319
      have H' := zq H
      clear H
      have p316 : 0 ≤ (x14_1 : Int) := of_decide_eq_true J3
      have q316 : x14_1 < (l0_2.length : Int) := of_decide_eq_true J3
      obtain ⟨ad316, e316, hx316_0⟩ := Kd.at_int HR0_2.out x14_1 p316 q316
      cases e316
      replace hx316_0 := (HB.out.cell (World.block_lt_of_cell? w _ hx316_0)).trans hx316_0
      replace p316 := eq_true p316
      replace q316 := eq_true q316
      go_wp2_with (first | ((with_reducible refine gate_callee (f := 22) rfl ?_); refine goesL_ (some 20) rfl rfl Tryd.func22 J8 rfl #[.int .i64 (rd l0_2 x14_1)] rfl J1 ?_; (with_reducible refine (decimal_Of.calls k1 (rd l0_2 x14_1) t317 t318 _ A10.out).mono ?_); rintro e w12 ⟨rfl, hb⟩; refine ⟨_, rfl, ?_⟩; replace HO_3 := zq (Kd.R_below (zr HO_3.out) hb); replace HO_316003 := zq (Kd.V_below (zv HO_316003.out) hb); replace BK315 := zq (blk_below (zk BK315.out) hb); replace HB := zq (below_step (zs1 GE315.out) hb); (try clear hb); (try clear hk)) | ((with_reducible refine gate_builtin (b := .append) (xs := #[.tmp 18, .tmp 21]) rfl ?_); at_builtin; refine Kd.R_append k40 (w0 := w) w.heap.size rfl (.tmp 18) (.tmp 21) 30 40 (.agg #[(.int .i64 0), (.int .i64 0)]) 16 rfl Tryd.underlying30 info40 rfl J18 J26 u3 x3_1 (⟨t317, t318⟩ : S40) [.int .i64 t317, .int .i64 t318] (fun k_ => (w.heap.size ≤ k_)) (fun _ => False) rfl rfl ?aP (fun _ hk => hk.elim) ?aF ?aO ?aB ?aS ?aL ?_; (case aP => exact k40_mkM _ _ _ (⟨t317, t318⟩ : S40)); (case aB => exact (zs1 GE315.out)); (case aF => exact (fun k_ hk => (Nat.le_trans (below_size (zs1 GE315.out)) hk))); (case aO => exact (zr HO_3.out)); (case aS => exact (below_size (zs1 GE315.out))); (case aL => have := LMc11.out; omega); intro v320 w13 ho hb hg hat; rw [← Ny319.out] at ho; replace HO_316003 := zq (Kd.V_afterv (ok := (fun k_ => (P0_3_ k_ ∨ w.heap.size ≤ k_) ∧ k_ ≠ gb315)) (by (with_reducible repeat (first | apply Kd.V_alloc | apply Kd.V_drewN | apply Kd.V_drew)); exact Kd.V_mono HO_316003.out (fun _ hk => ⟨⟨hk.1, hk.2.2⟩, hk.2.1⟩)) hg hat); replace BK315 := zq (blk_grown (g := gb315) (o := .cells #[.int .i64 a0_0, .slice A0_1 l0_1.length c0_1, .slice (some ad316) l0_2.length c0_2, .slice A0_3 l0_3.length c0_3] 32 (0, 0)) (zk BK315.out) hg (Kd.R_ne HO_3.out BK315.out J18)); replace HB := zq (hb); have HO321 := zq (ho); clear HO_3; clear ho hb hg hat))
      go_roundg k1
      case measure => have := HK1.out; omega
      case rel => exact ⟨(y319), (wrap64 (x14_1 + 1)), J4, H', ⟨J73⟩, ⟨by (with_reducible repeat (first | apply Kd.R_alloc | apply Kd.R_drewN | apply Kd.R_drew)); exact HO321.out⟩, ⟨by (with_reducible repeat (first | apply Kd.V_alloc | apply Kd.V_drewN | apply Kd.V_drew)); exact Kd.V_mono HO_316003.out (fun _ hk => ⟨hk.1.1, ⟨hk.2, hk.1.2⟩⟩)⟩, ⟨J133⟩, ⟨J57⟩⟩
end Go.Proofs.YtfjhiiaahbjaiaaDoor.HSystemSigns
