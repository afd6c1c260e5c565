/- What the Go functions of this claim answer, told as functions of numbers and lists, and that other memory stays as it was: words and walks, shortened by a program. -/
import Derived.Test.YtfjhiiaahbjaiaaDoorSSystemNumbersx0
import Derived.Test.YtfjhiiaahbjaiaaDoorSSystemNumbersx1
import Derived.Test.YtfjhiiaahbjaiaaDoorSSystemNumbersx8
import Derived.Test.YtfjhiiaahbjaiaaDoorSSystemNumbersx12
import Derived.Test.YtfjhiiaahbjaiaaDoorSSystemNumbersx14
namespace Go.Proofs.YtfjhiiaahbjaiaaDoor.HSystemSigns
open Go.RowKit Go.Proofs.YtfjhiiaahbjaiaaDoorW.PrintWords Go.Proofs.YtfjhiiaahbjaiaaDoorW.PrintLast Go.Proofs.YtfjhiiaahbjaiaaDoorW.PrintMore
attribute [local go_sem] max2_int min2_int max_two min_two max_three min_three max_four min_four
set_option linter.unusedVariables false
set_option linter.unusedSimpArgs false
attribute [local go_sem high] eqA40
def tight_Make.f (k : Nat) (l0 : List (S32)) : Option ((List (S32)) × Bool) := (array_Right.f k l0).bind fun t345 => (if t345 = true then ((tight_form.f k l0).bind fun t346 => (some (t346, true))) else (some (([] : List (S32)), false)))
theorem tight_Make.mono : ∀ a0 k, LeO (tight_Make.f k a0) (tight_Make.f (k + 1) a0) := by
  intro a0 k
  unfold tight_Make.f
  have im0 := @array_Right.mono
  have im1 := @tight_form.mono
  exact mz3
set_option maxHeartbeats 8000000 in
set_option maxRecDepth 100000 in
theorem tight_Make.calls (k : Nat) (P0_ : Nat → Prop) (A0 : Option Addr) (c0 : Nat) (l0 : List (S32)) (r1 : List (S32)) (r2 : Bool) (w : World) (hs0 : Kd.V k32 32 w w.heap.size (fun k_ => P0_ k_) (.slice A0 l0.length c0) l0) (h : tight_Make.f k l0 = some (r1, r2)) :
    Calls Tryd.prog 20 #[.slice A0 l0.length c0] w fun e w' => ∃ v0_ : Value, e = .returned (.tuple #[v0_, .bool r2]) ∧ Kd.N k32 32 w' w.heap.size (fun k_ => (P0_ k_ ∨ w.heap.size ≤ k_)) v0_ r1 ∧ Below w.heap.size w w' := by
  have HO0 := zq (show Kd.V k32 32 w w.heap.size (fun k_ => (P0_ k_ ∨ w.heap.size ≤ k_)) (.slice A0 l0.length c0) l0 from Kd.V_mono hs0 (fun k_ hk => .inl hk))
  have HB := zq (Below.refl w.heap.size w)
  have H : ((array_Right.f k l0).bind fun t345 => (if t345 = true then ((tight_form.f k l0).bind fun t346 => (some (t346, true))) else (some (([] : List (S32)), false)))) = some (r1, r2) := h
  clear h
  replace H := Option.bind_eq_some_iff.mp H
  obtain ⟨t345, A20, H⟩ := H
  have A2 := zq A20
  clear A20
  by_cases c3 : t345 = true
  rotate_left
  · replace c3 := Bool.eq_false_iff.mpr c3
    subst c3
    rw [if_neg (show ¬ (false = true) by decide)] at H
    simp only [Option.some.injEq, Prod.mk.injEq] at H
    obtain ⟨rfl, rfl⟩ := H
    go_enter Tryd.func20, Tryd.ntmps20
    go_wp2_with (first | ((first | ((with_reducible refine gate_callee (f := 32) rfl ?_); refine goesL_ (some 5) rfl rfl Tryd.func32 J8 rfl #[.slice A0 l0.length c0] rfl J1 ?_) | go_at_call 32); (with_reducible refine (array_Right.calls k _ _ l0 false _ ?side1 ?side2 A2.out).mono ?_); (case side1 => exact zc ((Kd.V_reads' HO0.out).2.2)); (case side2 => exact (Kd.V_reads' HO0.out).2.1); rintro e w7 ⟨rfl, hb⟩; (try refine ⟨_, rfl, ?_⟩); replace HB := zq (below_step J0 hb); (try clear hb); (try clear hk)))
    go_ret2
    exact ⟨_, J2, J83, J0⟩
  subst c3
  rw [if_pos rfl] at H
  replace H := Option.bind_eq_some_iff.mp H
  obtain ⟨t346, A40, H⟩ := H
  have A4 := zq A40
  clear A40
  simp only [Option.some.injEq, Prod.mk.injEq] at H
  obtain ⟨rfl, rfl⟩ := H
  go_enter Tryd.func20, Tryd.ntmps20
  go_wp2_with (first | ((first | ((with_reducible refine gate_callee (f := 32) rfl ?_); refine goesL_ (some 5) rfl rfl Tryd.func32 J8 rfl #[.slice A0 l0.length c0] rfl J1 ?_) | go_at_call 32); (with_reducible refine (array_Right.calls k _ _ l0 true _ ?side1 ?side2 A2.out).mono ?_); (case side1 => exact zc ((Kd.V_reads' HO0.out).2.2)); (case side2 => exact (Kd.V_reads' HO0.out).2.1); rintro e w5 ⟨rfl, hb⟩; (try refine ⟨_, rfl, ?_⟩); replace HO0 := zq (Kd.V_below (zv HO0.out) hb); replace HB := zq (below_step J0 hb); (try clear hb); (try clear hk)) | ((first | ((with_reducible refine gate_callee (f := 33) rfl ?_); refine goesL_ (some 8) rfl rfl Tryd.func33 J8 rfl #[.slice A0 l0.length c0] rfl J1 ?_) | go_at_call 33); (with_reducible refine (tight_form.calls k (fun k_ => (P0_ k_ ∨ w.heap.size ≤ k_)) _ _ l0 t346 _ ?side1 A4.out).mono ?_); (case side1 => exact HO0.out); rintro e w6 ⟨v347, rfl, ho0, hb⟩; (try refine ⟨_, rfl, ?_⟩); replace HO0 := zq (Kd.V_elder' (zv HO0.out) (Kd.N_base ho0) hb); have HO348 := zq (Kd.N_lower (Kd.N_mono (ok' := fun k_ => (P0_ k_ ∨ w.heap.size ≤ k_)) ho0 (fun k_ hk_ => Or.elim hk_ (fun hs_ => hs_) (fun hn_ => (.inr (Nat.le_trans (below_size J0) hn_))))) (below_size J0)); replace HB := zq (below_step J0 hb); (try clear hb); (try clear hk); (try clear ho0)))
  go_ret2
  exact ⟨_, J2, by (with_reducible repeat (first | apply Kd.N_alloc | apply Kd.N_drewN | apply Kd.N_drew)); exact HO348.out, J0⟩
def slices_Equal_int_int.l0 : Nat → List Int → List Int → Int → Int → Option (Bool)
  | 0, _, _, _, _ => none
  | k + 1, x0, x1, x12, x13 => if x13 < x12 then (if 0 ≤ x13 then (if x13 < (x0.length : Int) then (if x13 < (x1.length : Int) then (if (rd x0 x13) = (rd x1 x13) then (slices_Equal_int_int.l0 k x0 x1 x12 (wrap64 (x13 + 1))) else (some false)) else (none)) else (none)) else (none)) else (some true)
def slices_Equal_int_int.f (k : Nat) (l0 : List Int) (l1 : List Int) : Option (Bool) := if (l0.length : Int) = (l1.length : Int) then (slices_Equal_int_int.l0 k l0 l1 (l0.length : Int) 0) else (some false)
theorem slices_Equal_int_int.mono_l : ∀ k, (∀ y0 y1 y2 y3, LeO (slices_Equal_int_int.l0 k y0 y1 y2 y3) (slices_Equal_int_int.l0 (k + 1) y0 y1 y2 y3))
  | 0 => fun _ _ _ _ r h => by simp [slices_Equal_int_int.l0] at h
  | k + 1 => by
    have ih0 := slices_Equal_int_int.mono_l k
    · intro y0 y1 y2 y3
      unfold slices_Equal_int_int.l0
      exact mz0
theorem slices_Equal_int_int.mono : ∀ a0 a1 k, LeO (slices_Equal_int_int.f k a0 a1) (slices_Equal_int_int.f (k + 1) a0 a1) := by
  intro a0 a1 k
  have ih0 := slices_Equal_int_int.mono_l k
  unfold slices_Equal_int_int.f
  exact mz0
set_option maxHeartbeats 8000000 in
set_option maxRecDepth 100000 in
theorem slices_Equal_int_int.calls (k : Nat) (A0 : Option Addr) (c0 : Nat) (l0 : List Int) (A1 : Option Addr) (c1 : Nat) (l1 : List Int) (r : Bool) (w : World) (hr0 : Kd.C (Kd.int .i64) w A0 l0.length l0) (hc0 : l0.length ≤ c0) (hr1 : Kd.C (Kd.int .i64) w A1 l1.length l1) (hc1 : l1.length ≤ c1) (h : slices_Equal_int_int.f k l0 l1 = some r) :
    Calls Tryd.prog 36 #[.slice A0 l0.length c0, .slice A1 l1.length c1] w fun e w' => e = .returned (.bool r) ∧ Drawn0 w w' := by
  have HR0 := zq hr0
  have HC0 := zq hc0
  clear hr0 hc0
  have HR1 := zq hr1
  have HC1 := zq hc1
  clear hr1 hc1
  have H : (if (l0.length : Int) = (l1.length : Int) then (slices_Equal_int_int.l0 k l0 l1 (l0.length : Int) 0) else (some false)) = some r := h
  clear h
  by_cases c3 : (l0.length : Int) = (l1.length : Int)
  rotate_left
  · rw [if_neg c3] at H
    have c3b0 : ((l0.length : Int) == (l1.length : Int)) = false := beq_eq_false_iff_ne.mpr c3
    have c3b1 : ((l0.length : Int) != (l1.length : Int)) = true := bne_iff_ne.mpr c3
    have c3b2 : (l0.length == l1.length) = false := J42
    obtain rfl := Option.some.inj H
    go_enter Tryd.func36, Tryd.ntmps36
    go_wp2
    repeat (go_quiet (fail); try go_wp2)
    go_ret
    exact ⟨J4, J7⟩
  rw [if_pos c3] at H
  have c3b0 : ((l0.length : Int) == (l1.length : Int)) = true := beq_iff_eq.mpr c3
  have c3b1 : ((l0.length : Int) != (l1.length : Int)) = false := bne_eq_false_iff_eq.mpr c3
  have c3b2 : (l0.length == l1.length) = true := J42
  clear c3
  have H' := zq H
  clear H
  go_enter Tryd.func36, Tryd.ntmps36
  go_wp2
  repeat (go_quiet (fail); try go_wp2)
  go_loopg [13] k (fun kq v13 w' => ∃ (x13_1 : Int), v13 = .int .i64 x13_1 ∧ Aside0 (slices_Equal_int_int.l0 kq l0 l1 (l0.length : Int) x13_1 = some r) ∧ Aside0 (kq ≤ k) ∧ Drawn0 w w')
  case atStart => exact ⟨(0), J4, H', ⟨Nat.le_refl _⟩, J7⟩
  case round =>
    clear H'
    try clear c1
    try clear p2
    try clear c3
    try clear c3b0
    try clear c3b1
    try clear c3b2
    obtain ⟨x13_1, rfl, HA, HK1, ⟨m1, rfl⟩⟩ := hrel
    cases gk with
    | zero => exact absurd HA.out (by simp [slices_Equal_int_int.l0])
    | succ k1 =>
      have H := HA.out
      clear HA
      simp only [slices_Equal_int_int.l0] at H
      by_cases c4 : x13_1 < (l0.length : Int)
      rotate_left
      · rw [if_neg c4] at H
        have c4b0 := decide_eq_false c4
        clear c4
        obtain rfl := Option.some.inj H
        go_wp2
        repeat (go_quiet (fail); try go_wp2)
        go_ret
        exact ⟨J4, J7⟩
      rw [if_pos c4] at H
      have c4b0 := decide_eq_true c4
      clear c4
      by_cases c5 : 0 ≤ x13_1
      rotate_left
      · rw [if_neg c5] at H
        exact absurd H J32
      rw [if_pos c5] at H
      have c5b0 := decide_eq_true c5
      clear c5
      by_cases c6 : x13_1 < (l0.length : Int)
      rotate_left
      · rw [if_neg c6] at H
        exact absurd H J32
      rw [if_pos c6] at H
      have c6b0 := decide_eq_true c6
      clear c6
      by_cases c7 : x13_1 < (l1.length : Int)
      rotate_left
      · rw [if_neg c7] at H
        exact absurd H J32
      rw [if_pos c7] at H
      have c7b0 := decide_eq_true c7
      clear c7
      by_cases c8 : (rd l0 x13_1) = (rd l1 x13_1)
      rotate_left
      · rw [if_neg c8] at H
        have c8b0 : ((rd l0 x13_1) == (rd l1 x13_1)) = false := beq_eq_false_iff_ne.mpr c8
        have c8b1 : ((rd l0 x13_1) != (rd l1 x13_1)) = true := bne_iff_ne.mpr c8
        obtain rfl := Option.some.inj H
        have p349 : 0 ≤ (x13_1 : Int) := of_decide_eq_true J3
        have q349 : x13_1 < (l0.length : Int) := of_decide_eq_true J3
        obtain ⟨ad349, e349, hx349_0⟩ := Kd.at_int HR0.out x13_1 p349 q349
        cases e349
        replace p349 := eq_true p349
        replace q349 := eq_true q349
        have p350 : 0 ≤ (x13_1 : Int) := of_decide_eq_true J3
        have q350 : x13_1 < (l1.length : Int) := of_decide_eq_true J3
        obtain ⟨ad350, e350, hx350_0⟩ := Kd.at_int HR1.out x13_1 p350 q350
        cases e350
        replace p350 := eq_true p350
        replace q350 := eq_true q350
        go_wp2
        repeat (go_quiet (fail); try go_wp2)
        go_ret
        exact ⟨J4, J7⟩
      rw [if_pos c8] at H
      have c8b0 : ((rd l0 x13_1) == (rd l1 x13_1)) = true := beq_iff_eq.mpr c8
      have c8b1 : ((rd l0 x13_1) != (rd l1 x13_1)) = false := bne_eq_false_iff_eq.mpr c8
      clear c8
      have H' := zq H
      clear H
      have p349 : 0 ≤ (x13_1 : Int) := of_decide_eq_true J3
      have q349 : x13_1 < (l0.length : Int) := of_decide_eq_true J3
      obtain ⟨ad349, e349, hx349_0⟩ := Kd.at_int HR0.out x13_1 p349 q349
      cases e349
      replace p349 := eq_true p349
      replace q349 := eq_true q349
      have p350 : 0 ≤ (x13_1 : Int) := of_decide_eq_true J3
      have q350 : x13_1 < (l1.length : Int) := of_decide_eq_true J3
      obtain ⟨ad350, e350, hx350_0⟩ := Kd.at_int HR1.out x13_1 p350 q350
      cases e350
      replace p350 := eq_true p350
      replace q350 := eq_true q350
      go_wp2
      repeat (go_quiet (fail); try go_wp2)
      go_roundg k1
      case measure => have := HK1.out; omega
      case rel => exact ⟨(wrap64 (x13_1 + 1)), J4, H', ⟨J73⟩, J7⟩
def api_Dec_37.l0 : Nat → List (S40) → List (S40) → Int → Int → Option (Bool)
  | 0, _, _, _, _ => none
  | k + 1, x0, x1, x12, x13 => if x13 < x12 then (if 0 ≤ x13 then (if x13 < (x0.length : Int) then (if x13 < (x1.length : Int) then (if (!(((rd_T40 x0 x13).f0) == ((rd_T40 x1 x13).f0)) || (!(((rd_T40 x0 x13).f1) == ((rd_T40 x1 x13).f1)))) = true then (some false) else (api_Dec_37.l0 k x0 x1 x12 (wrap64 (x13 + 1)))) else (none)) else (none)) else (none)) else (some true)
def api_Dec_37.f (k : Nat) (l0 : List (S40)) (l1 : List (S40)) : Option (Bool) := if (l0.length : Int) = (l1.length : Int) then (api_Dec_37.l0 k l0 l1 (l0.length : Int) 0) else (some false)
theorem api_Dec_37.mono_l : ∀ k, (∀ y0 y1 y2 y3, LeO (api_Dec_37.l0 k y0 y1 y2 y3) (api_Dec_37.l0 (k + 1) y0 y1 y2 y3))
  | 0 => fun _ _ _ _ r h => by simp [api_Dec_37.l0] at h
  | k + 1 => by
    have ih0 := api_Dec_37.mono_l k
    · intro y0 y1 y2 y3
      unfold api_Dec_37.l0
      exact mz0
theorem api_Dec_37.mono : ∀ a0 a1 k, LeO (api_Dec_37.f k a0 a1) (api_Dec_37.f (k + 1) a0 a1) := by
  intro a0 a1 k
  have ih0 := api_Dec_37.mono_l k
  unfold api_Dec_37.f
  exact mz0
set_option maxHeartbeats 8000000 in
set_option maxRecDepth 100000 in
theorem api_Dec_37.calls (k : Nat) (A0 : Option Addr) (c0 : Nat) (l0 : List (S40)) (A1 : Option Addr) (c1 : Nat) (l1 : List (S40)) (r : Bool) (w : World) (hr0 : Kd.C k40 w A0 l0.length l0) (hc0 : l0.length ≤ c0) (hr1 : Kd.C k40 w A1 l1.length l1) (hc1 : l1.length ≤ c1) (h : api_Dec_37.f k l0 l1 = some r) :
    Calls Tryd.prog 37 #[.slice A0 l0.length c0, .slice A1 l1.length c1] w fun e w' => e = .returned (.bool r) ∧ Drawn0 w w' := by
  have hu40 := Tryd.underlying40
  have HR0 := zq hr0
  have HC0 := zq hc0
  clear hr0 hc0
  have HR1 := zq hr1
  have HC1 := zq hc1
  clear hr1 hc1
  have H : (if (l0.length : Int) = (l1.length : Int) then (api_Dec_37.l0 k l0 l1 (l0.length : Int) 0) else (some false)) = some r := h
  clear h
  by_cases c3 : (l0.length : Int) = (l1.length : Int)
  rotate_left
  · rw [if_neg c3] at H
    have c3b0 : ((l0.length : Int) == (l1.length : Int)) = false := beq_eq_false_iff_ne.mpr c3
    have c3b1 : ((l0.length : Int) != (l1.length : Int)) = true := bne_iff_ne.mpr c3
    have c3b2 : (l0.length == l1.length) = false := J42
    obtain rfl := Option.some.inj H
    go_enter Tryd.func37, Tryd.ntmps37
    go_wp2
    repeat (go_quiet (fail); try go_wp2)
    go_ret
    exact ⟨J4, J7⟩
  rw [if_pos c3] at H
  have c3b0 : ((l0.length : Int) == (l1.length : Int)) = true := beq_iff_eq.mpr c3
  have c3b1 : ((l0.length : Int) != (l1.length : Int)) = false := bne_eq_false_iff_eq.mpr c3
  have c3b2 : (l0.length == l1.length) = true := J42
  clear c3
  have H' := zq H
  clear H
  go_enter Tryd.func37, Tryd.ntmps37
  go_wp2
  repeat (go_quiet (fail); try go_wp2)
  go_loopg [13] k (fun kq v13 w' => ∃ (x13_1 : Int), v13 = .int .i64 x13_1 ∧ Aside0 (api_Dec_37.l0 kq l0 l1 (l0.length : Int) x13_1 = some r) ∧ Aside0 (kq ≤ k) ∧ Drawn0 w w')
  case atStart => exact ⟨(0), J4, H', ⟨Nat.le_refl _⟩, J7⟩
  case round =>
    clear H'
    try clear c1
    try clear p2
    try clear c3
    try clear c3b0
    try clear c3b1
    try clear c3b2
    obtain ⟨x13_1, rfl, HA, HK1, ⟨m1, rfl⟩⟩ := hrel
    cases gk with
    | zero => exact absurd HA.out (by simp [api_Dec_37.l0])
    | succ k1 =>
      have H := HA.out
      clear HA
      simp only [api_Dec_37.l0] at H
      by_cases c4 : x13_1 < (l0.length : Int)
      rotate_left
      · rw [if_neg c4] at H
        have c4b0 := decide_eq_false c4
        clear c4
        obtain rfl := Option.some.inj H
        go_wp2
        repeat (go_quiet (fail); try go_wp2)
        go_ret
        exact ⟨J4, J7⟩
      rw [if_pos c4] at H
      have c4b0 := decide_eq_true c4
      clear c4
      by_cases c5 : 0 ≤ x13_1
      rotate_left
      · rw [if_neg c5] at H
        exact absurd H J32
      rw [if_pos c5] at H
      have c5b0 := decide_eq_true c5
      clear c5
      by_cases c6 : x13_1 < (l0.length : Int)
      rotate_left
      · rw [if_neg c6] at H
        exact absurd H J32
      rw [if_pos c6] at H
      have c6b0 := decide_eq_true c6
      clear c6
      by_cases c7 : x13_1 < (l1.length : Int)
      rotate_left
      · rw [if_neg c7] at H
        exact absurd H J32
      rw [if_pos c7] at H
      have c7b0 := decide_eq_true c7
      clear c7
      by_cases c8 : (!(((rd_T40 l0 x13_1).f0) == ((rd_T40 l1 x13_1).f0)) || (!(((rd_T40 l0 x13_1).f1) == ((rd_T40 l1 x13_1).f1)))) = true
      · rw [if_pos c8] at H
        have c8b0 : (!(((rd_T40 l0 x13_1).f0) == ((rd_T40 l1 x13_1).f0)) || (!(((rd_T40 l0 x13_1).f1) == ((rd_T40 l1 x13_1).f1)))) = true := c8
        clear c8
        obtain rfl := Option.some.inj H
        have p351 : 0 ≤ (x13_1 : Int) := of_decide_eq_true J3
        have q351 : x13_1 < (l0.length : Int) := of_decide_eq_true J3
        obtain ⟨ad351, e351, hx351_0, hx351_1⟩ := at_T40 HR0.out x13_1 p351 q351
        cases e351
        replace p351 := eq_true p351
        replace q351 := eq_true q351
        have p352 : 0 ≤ (x13_1 : Int) := of_decide_eq_true J3
        have q352 : x13_1 < (l1.length : Int) := of_decide_eq_true J3
        obtain ⟨ad352, e352, hx352_0, hx352_1⟩ := at_T40 HR1.out x13_1 p352 q352
        cases e352
        replace p352 := eq_true p352
        replace q352 := eq_true q352
        go_wp2
        repeat (go_quiet (fail); try go_wp2)
        go_ret
        exact ⟨J4, J7⟩
      rw [if_neg c8] at H
      have c8b0 : (!(((rd_T40 l0 x13_1).f0) == ((rd_T40 l1 x13_1).f0)) || (!(((rd_T40 l0 x13_1).f1) == ((rd_T40 l1 x13_1).f1)))) = false := by simpa using c8
      clear c8
      have H' := zq H
      clear H
      have p351 : 0 ≤ (x13_1 : Int) := of_decide_eq_true J3
      have q351 : x13_1 < (l0.length : Int) := of_decide_eq_true J3
      obtain ⟨ad351, e351, hx351_0, hx351_1⟩ := at_T40 HR0.out x13_1 p351 q351
      cases e351
      replace p351 := eq_true p351
      replace q351 := eq_true q351
      have p352 : 0 ≤ (x13_1 : Int) := of_decide_eq_true J3
      have q352 : x13_1 < (l1.length : Int) := of_decide_eq_true J3
      obtain ⟨ad352, e352, hx352_0, hx352_1⟩ := at_T40 HR1.out x13_1 p352 q352
      cases e352
      replace p352 := eq_true p352
      replace q352 := eq_true q352
      go_wp2
      repeat (go_quiet (fail); try go_wp2)
      go_roundg k1
      case measure => have := HK1.out; omega
      case rel => exact ⟨(wrap64 (x13_1 + 1)), J4, H', ⟨J73⟩, J7⟩
def array_Same_1.f (k : Nat) (a0_0 : Int) (l0_1 : List Int) (l0_2 : List Int) (l0_3 : List (S40)) (a1_0 : Int) (l1_1 : List Int) (l1_2 : List Int) (l1_3 : List (S40)) : Option (Bool) := if a0_0 = a1_0 then ((slices_Equal_int_int.f k l0_1 l1_1).bind fun t355 => (if t355 = true then ((slices_Equal_int_int.f k l0_2 l1_2).bind fun t356 => (if t356 = true then ((api_Dec_37.f k l0_3 l1_3).bind fun t357 => (some t357)) else (some false))) else (some false))) else (some false)
theorem array_Same_1.mono : ∀ a0 a1 a2 a3 a4 a5 a6 a7 k, LeO (array_Same_1.f k a0 a1 a2 a3 a4 a5 a6 a7) (array_Same_1.f (k + 1) a0 a1 a2 a3 a4 a5 a6 a7) := by
  intro a0 a1 a2 a3 a4 a5 a6 a7 k
  unfold array_Same_1.f
  have im0 := @api_Dec_37.mono
  have im1 := @slices_Equal_int_int.mono
  exact mz3
set_option maxHeartbeats 8000000 in
set_option maxRecDepth 100000 in
theorem array_Same_1.calls (k : Nat) (a0_0 : Int) (A0_1 : Option Addr) (c0_1 : Nat) (l0_1 : List Int) (A0_2 : Option Addr) (c0_2 : Nat) (l0_2 : List Int) (A0_3 : Option Addr) (c0_3 : Nat) (l0_3 : List (S40)) (a1_0 : Int) (A1_1 : Option Addr) (c1_1 : Nat) (l1_1 : List Int) (A1_2 : Option Addr) (c1_2 : Nat) (l1_2 : List Int) (A1_3 : Option Addr) (c1_3 : Nat) (l1_3 : List (S40)) (r : Bool) (w : World) (hr0_1 : Kd.C (Kd.int .i64) w A0_1 l0_1.length l0_1) (hc0_1 : l0_1.length ≤ c0_1) (hr0_2 : Kd.C (Kd.int .i64) w A0_2 l0_2.length l0_2) (hc0_2 : l0_2.length ≤ c0_2) (hr0_3 : Kd.C k40 w A0_3 l0_3.length l0_3) (hc0_3 : l0_3.length ≤ c0_3) (hr1_1 : Kd.C (Kd.int .i64) w A1_1 l1_1.length l1_1) (hc1_1 : l1_1.length ≤ c1_1) (hr1_2 : Kd.C (Kd.int .i64) w A1_2 l1_2.length l1_2) (hc1_2 : l1_2.length ≤ c1_2) (hr1_3 : Kd.C k40 w A1_3 l1_3.length l1_3) (hc1_3 : l1_3.length ≤ c1_3) (h : array_Same_1.f k a0_0 l0_1 l0_2 l0_3 a1_0 l1_1 l1_2 l1_3 = some r) :
    Calls Tryd.prog 35 #[.agg #[.int .i64 a0_0, .slice A0_1 l0_1.length c0_1, .slice A0_2 l0_2.length c0_2, .slice A0_3 l0_3.length c0_3], .agg #[.int .i64 a1_0, .slice A1_1 l1_1.length c1_1, .slice A1_2 l1_2.length c1_2, .slice A1_3 l1_3.length c1_3]] w fun e w' => e = .returned (.bool r) ∧ Below w.heap.size w w' := by
  have hu32 := Tryd.underlying32
  have HR0_1 := zq hr0_1
  have HC0_1 := zq hc0_1
  clear hr0_1 hc0_1
  have HR0_2 := zq hr0_2
  have HC0_2 := zq hc0_2
  clear hr0_2 hc0_2
  have HR0_3 := zq hr0_3
  have HC0_3 := zq hc0_3
  clear hr0_3 hc0_3
  have HR1_1 := zq hr1_1
  have HC1_1 := zq hc1_1
  clear hr1_1 hc1_1
  have HR1_2 := zq hr1_2
  have HC1_2 := zq hc1_2
  clear hr1_2 hc1_2
  have HR1_3 := zq hr1_3
  have HC1_3 := zq hc1_3
  clear hr1_3 hc1_3
  have HB := zq (Below.refl w.heap.size w)
  have H : (if a0_0 = a1_0 then ((slices_Equal_int_int.f k l0_1 l1_1).bind fun t355 => (if t355 = true then ((slices_Equal_int_int.f k l0_2 l1_2).bind fun t356 => (if t356 = true then ((api_Dec_37.f k l0_3 l1_3).bind fun t357 => (some t357)) else (some false))) else (some false))) else (some false)) = some r := h
  clear h
  by_cases c3 : a0_0 = a1_0
  rotate_left
  · rw [if_neg c3] at H
    have c3b0 : (a0_0 == a1_0) = false := beq_eq_false_iff_ne.mpr c3
    have c3b1 : (a0_0 != a1_0) = true := bne_iff_ne.mpr c3
    obtain rfl := Option.some.inj H
    go_enter Tryd.func35, Tryd.ntmps35
    go_wp2_with (first | ((with_reducible refine gate_dst (N := 2) rfl ?_); refine bxw 2 32 #[.int .i64 a0_0, .slice A0_1 l0_1.length c0_1, .slice A0_2 l0_2.length c0_2, .slice A0_3 l0_3.length c0_3] ?_; intro gb353 hg w24 hbox hb; have BK353 := zq (hbox); have GE353 := zq ((J12 : w.heap.size ≤ gb353)); replace HB := zq (below_step J0 hb); clear hb hbox hg) | ((with_reducible refine gate_dst (N := 3) rfl ?_); refine bxw 3 32 #[.int .i64 a1_0, .slice A1_1 l1_1.length c1_1, .slice A1_2 l1_2.length c1_2, .slice A1_3 l1_3.length c1_3] ?_; intro gb354 hg w25 hbox hb; have BK354 := zq (hbox); have GE354 := zq ((J121 : w.heap.size ≤ gb354)); replace HB := zq (below_step (zs1 GE353.out) hb); have NB353_354 := zq ((J48 : gb353 ≠ gb354)); have NB354_353 := zq ((J49 : gb354 ≠ gb353)); replace BK353 := zq (blk_below (g := gb353) (o := .cells #[.int .i64 a0_0, .slice A0_1 l0_1.length c0_1, .slice A0_2 l0_2.length c0_2, .slice A0_3 l0_3.length c0_3] 32 (0, 0)) (zk BK353.out) hb); clear hb hbox hg; have hnb26 := NB353_354.out; have hnc26 := NB354_353.out; obtain ⟨hcz27_0, hcz27_1, hcz27_2, hcz27_3, hfz27_0, hfz27_1, hfz27_2, hfz27_3⟩ := cz4 BK353.out; obtain ⟨hcz28_0, hcz28_1, hcz28_2, hcz28_3, hfz28_0, hfz28_1, hfz28_2, hfz28_3⟩ := cz4 BK354.out))
    go_ret
    exact ⟨J2, J50⟩
  rw [if_pos c3] at H
  have c3b0 : (a0_0 == a1_0) = true := beq_iff_eq.mpr c3
  have c3b1 : (a0_0 != a1_0) = false := bne_eq_false_iff_eq.mpr c3
  clear c3
  replace H := Option.bind_eq_some_iff.mp H
  obtain ⟨t355, A40, H⟩ := H
  have A4 := zq A40
  clear A40
  by_cases c5 : t355 = true
  rotate_left
  · replace c5 := Bool.eq_false_iff.mpr c5
    subst c5
    rw [if_neg (show ¬ (false = true) by decide)] at H
    obtain rfl := Option.some.inj H
    go_enter Tryd.func35, Tryd.ntmps35
    go_wp2_with (first | ((with_reducible refine gate_dst (N := 2) rfl ?_); refine bxw 2 32 #[.int .i64 a0_0, .slice A0_1 l0_1.length c0_1, .slice A0_2 l0_2.length c0_2, .slice A0_3 l0_3.length c0_3] ?_; intro gb353 hg w19 hbox hb; have BK353 := zq (hbox); have GE353 := zq ((J12 : w.heap.size ≤ gb353)); replace HB := zq (below_step J0 hb); clear hb hbox hg) | ((with_reducible refine gate_dst (N := 3) rfl ?_); refine bxw 3 32 #[.int .i64 a1_0, .slice A1_1 l1_1.length c1_1, .slice A1_2 l1_2.length c1_2, .slice A1_3 l1_3.length c1_3] ?_; intro gb354 hg w20 hbox hb; have BK354 := zq (hbox); have GE354 := zq ((J121 : w.heap.size ≤ gb354)); replace HB := zq (below_step (zs1 GE353.out) hb); have NB353_354 := zq ((J48 : gb353 ≠ gb354)); have NB354_353 := zq ((J49 : gb354 ≠ gb353)); replace BK353 := zq (blk_below (g := gb353) (o := .cells #[.int .i64 a0_0, .slice A0_1 l0_1.length c0_1, .slice A0_2 l0_2.length c0_2, .slice A0_3 l0_3.length c0_3] 32 (0, 0)) (zk BK353.out) hb); clear hb hbox hg; have hnb21 := NB353_354.out; have hnc21 := NB354_353.out; obtain ⟨hcz22_0, hcz22_1, hcz22_2, hcz22_3, hfz22_0, hfz22_1, hfz22_2, hfz22_3⟩ := cz4 BK353.out; obtain ⟨hcz23_0, hcz23_1, hcz23_2, hcz23_3, hfz23_0, hfz23_1, hfz23_2, hfz23_3⟩ := cz4 BK354.out) | (go_at_call 36; (with_reducible refine (slices_Equal_int_int.calls k _ _ l0_1 _ _ l1_1 false _ ?side1 ?side2 ?side3 ?side4 A4.out).mono ?_); (case side1 => exact zc (Kd.C_below HR0_1.out HB.out)); (case side2 => exact HC0_1.out); (case side3 => exact zc (Kd.C_below HR1_1.out HB.out)); (case side4 => exact HC1_1.out); rintro e w' ⟨rfl, ⟨nd, rfl⟩⟩))
    go_ret
    exact ⟨J2, J50⟩
  subst c5
  rw [if_pos rfl] at H
  replace H := Option.bind_eq_some_iff.mp H
  obtain ⟨t356, A60, H⟩ := H
  have A6 := zq A60
  clear A60
  by_cases c7 : t356 = true
  rotate_left
  · replace c7 := Bool.eq_false_iff.mpr c7
    subst c7
    rw [if_neg (show ¬ (false = true) by decide)] at H
    obtain rfl := Option.some.inj H
    go_enter Tryd.func35, Tryd.ntmps35
    go_wp2_with (first | ((with_reducible refine gate_dst (N := 2) rfl ?_); refine bxw 2 32 #[.int .i64 a0_0, .slice A0_1 l0_1.length c0_1, .slice A0_2 l0_2.length c0_2, .slice A0_3 l0_3.length c0_3] ?_; intro gb353 hg w14 hbox hb; have BK353 := zq (hbox); have GE353 := zq ((J12 : w.heap.size ≤ gb353)); replace HB := zq (below_step J0 hb); clear hb hbox hg) | ((with_reducible refine gate_dst (N := 3) rfl ?_); refine bxw 3 32 #[.int .i64 a1_0, .slice A1_1 l1_1.length c1_1, .slice A1_2 l1_2.length c1_2, .slice A1_3 l1_3.length c1_3] ?_; intro gb354 hg w15 hbox hb; have BK354 := zq (hbox); have GE354 := zq ((J121 : w.heap.size ≤ gb354)); replace HB := zq (below_step (zs1 GE353.out) hb); have NB353_354 := zq ((J48 : gb353 ≠ gb354)); have NB354_353 := zq ((J49 : gb354 ≠ gb353)); replace BK353 := zq (blk_below (g := gb353) (o := .cells #[.int .i64 a0_0, .slice A0_1 l0_1.length c0_1, .slice A0_2 l0_2.length c0_2, .slice A0_3 l0_3.length c0_3] 32 (0, 0)) (zk BK353.out) hb); clear hb hbox hg; have hnb16 := NB353_354.out; have hnc16 := NB354_353.out; obtain ⟨hcz17_0, hcz17_1, hcz17_2, hcz17_3, hfz17_0, hfz17_1, hfz17_2, hfz17_3⟩ := cz4 BK353.out; obtain ⟨hcz18_0, hcz18_1, hcz18_2, hcz18_3, hfz18_0, hfz18_1, hfz18_2, hfz18_3⟩ := cz4 BK354.out) | (go_at_call 36; (with_reducible refine (slices_Equal_int_int.calls k _ _ l0_1 _ _ l1_1 true _ ?side1 ?side2 ?side3 ?side4 A4.out).mono ?_); (case side1 => exact zc (Kd.C_below HR0_1.out HB.out)); (case side2 => exact HC0_1.out); (case side3 => exact zc (Kd.C_below HR1_1.out HB.out)); (case side4 => exact HC1_1.out); rintro e w' ⟨rfl, ⟨nd, rfl⟩⟩) | (go_at_call 36; (with_reducible refine (slices_Equal_int_int.calls k _ _ l0_2 _ _ l1_2 false _ ?side1 ?side2 ?side3 ?side4 A6.out).mono ?_); (case side1 => repeat (first | exact (Kd.C_below HR0_2.out (zs2 GE353.out GE354.out)) | (with_reducible refine Kd.C_alloc ?_ _) | (with_reducible refine Kd.C_drewN ?_ _) | (with_reducible refine Kd.C_drew ?_))); (case side2 => exact HC0_2.out); (case side3 => repeat (first | exact (Kd.C_below HR1_2.out (zs2 GE353.out GE354.out)) | (with_reducible refine Kd.C_alloc ?_ _) | (with_reducible refine Kd.C_drewN ?_ _) | (with_reducible refine Kd.C_drew ?_))); (case side4 => exact HC1_2.out); rintro e w' ⟨rfl, ⟨nd, rfl⟩⟩))
    go_ret
    exact ⟨J2, J50⟩
  subst c7
  rw [if_pos rfl] at H
  replace H := Option.bind_eq_some_iff.mp H
  obtain ⟨t357, A80, H⟩ := H
  have A8 := zq A80
  clear A80
  obtain rfl := Option.some.inj H
  go_enter Tryd.func35, Tryd.ntmps35
  go_wp2_with (first | ((with_reducible refine gate_dst (N := 2) rfl ?_); refine bxw 2 32 #[.int .i64 a0_0, .slice A0_1 l0_1.length c0_1, .slice A0_2 l0_2.length c0_2, .slice A0_3 l0_3.length c0_3] ?_; intro gb353 hg w9 hbox hb; have BK353 := zq (hbox); have GE353 := zq ((J12 : w.heap.size ≤ gb353)); replace HB := zq (below_step J0 hb); clear hb hbox hg) | ((with_reducible refine gate_dst (N := 3) rfl ?_); refine bxw 3 32 #[.int .i64 a1_0, .slice A1_1 l1_1.length c1_1, .slice A1_2 l1_2.length c1_2, .slice A1_3 l1_3.length c1_3] ?_; intro gb354 hg w10 hbox hb; have BK354 := zq (hbox); have GE354 := zq ((J121 : w.heap.size ≤ gb354)); replace HB := zq (below_step (zs1 GE353.out) hb); have NB353_354 := zq ((J48 : gb353 ≠ gb354)); have NB354_353 := zq ((J49 : gb354 ≠ gb353)); replace BK353 := zq (blk_below (g := gb353) (o := .cells #[.int .i64 a0_0, .slice A0_1 l0_1.length c0_1, .slice A0_2 l0_2.length c0_2, .slice A0_3 l0_3.length c0_3] 32 (0, 0)) (zk BK353.out) hb); clear hb hbox hg; have hnb11 := NB353_354.out; have hnc11 := NB354_353.out; obtain ⟨hcz12_0, hcz12_1, hcz12_2, hcz12_3, hfz12_0, hfz12_1, hfz12_2, hfz12_3⟩ := cz4 BK353.out; obtain ⟨hcz13_0, hcz13_1, hcz13_2, hcz13_3, hfz13_0, hfz13_1, hfz13_2, hfz13_3⟩ := cz4 BK354.out) | (go_at_call 36; (with_reducible refine (slices_Equal_int_int.calls k _ _ l0_1 _ _ l1_1 true _ ?side1 ?side2 ?side3 ?side4 A4.out).mono ?_); (case side1 => exact zc (Kd.C_below HR0_1.out HB.out)); (case side2 => exact HC0_1.out); (case side3 => exact zc (Kd.C_below HR1_1.out HB.out)); (case side4 => exact HC1_1.out); rintro e w' ⟨rfl, ⟨nd, rfl⟩⟩) | (go_at_call 36; (with_reducible refine (slices_Equal_int_int.calls k _ _ l0_2 _ _ l1_2 true _ ?side1 ?side2 ?side3 ?side4 A6.out).mono ?_); (case side1 => repeat (first | exact (Kd.C_below HR0_2.out (zs2 GE353.out GE354.out)) | (with_reducible refine Kd.C_alloc ?_ _) | (with_reducible refine Kd.C_drewN ?_ _) | (with_reducible refine Kd.C_drew ?_))); (case side2 => exact HC0_2.out); (case side3 => repeat (first | exact (Kd.C_below HR1_2.out (zs2 GE353.out GE354.out)) | (with_reducible refine Kd.C_alloc ?_ _) | (with_reducible refine Kd.C_drewN ?_ _) | (with_reducible refine Kd.C_drew ?_))); (case side4 => exact HC1_2.out); rintro e w' ⟨rfl, ⟨nd, rfl⟩⟩) | (go_at_call 37; (with_reducible refine (api_Dec_37.calls k _ _ l0_3 _ _ l1_3 t357 _ ?side1 ?side2 ?side3 ?side4 A8.out).mono ?_); (case side1 => repeat (first | exact (Kd.C_below HR0_3.out (zs2 GE353.out GE354.out)) | (with_reducible refine Kd.C_alloc ?_ _) | (with_reducible refine Kd.C_drewN ?_ _) | (with_reducible refine Kd.C_drew ?_))); (case side2 => exact HC0_3.out); (case side3 => repeat (first | exact (Kd.C_below HR1_3.out (zs2 GE353.out GE354.out)) | (with_reducible refine Kd.C_alloc ?_ _) | (with_reducible refine Kd.C_drewN ?_ _) | (with_reducible refine Kd.C_drew ?_))); (case side4 => exact HC1_3.out); rintro e w' ⟨rfl, ⟨nd, rfl⟩⟩))
  go_ret
  exact ⟨J2, J50⟩
def api_Node_34.l0 : Nat → List (S32) → List (S32) → Int → Int → Option (Bool)
  | 0, _, _, _, _ => none
  | k + 1, x1, x15, x16, x17 => if x17 < x16 then (if 0 ≤ x17 then (if x17 < (x15.length : Int) then (if x17 < (x1.length : Int) then ((array_Same_1.f k ((rd_T32 x15 x17).f0) ((rd_T32 x15 x17).f1) ((rd_T32 x15 x17).f2) ((rd_T32 x15 x17).f3) ((rd_T32 x1 x17).f0) ((rd_T32 x1 x17).f1) ((rd_T32 x1 x17).f2) ((rd_T32 x1 x17).f3)).bind fun t362 => (if t362 = true then (api_Node_34.l0 k x1 x15 x16 (wrap64 (x17 + 1))) else (some false))) else (none)) else (none)) else (none)) else (some true)
def api_Node_34.f (k : Nat) (l0 : List (S32)) (l1 : List (S32)) : Option (Bool) := if (l0.length : Int) = (l1.length : Int) then (api_Node_34.l0 k l1 l0 (l0.length : Int) 0) else (some false)
theorem api_Node_34.mono_l : ∀ k, (∀ y0 y1 y2 y3, LeO (api_Node_34.l0 k y0 y1 y2 y3) (api_Node_34.l0 (k + 1) y0 y1 y2 y3))
  | 0 => fun _ _ _ _ r h => by simp [api_Node_34.l0] at h
  | k + 1 => by
    have ih0 := api_Node_34.mono_l k
    · intro y0 y1 y2 y3
      unfold api_Node_34.l0
      have im0 := @array_Same_1.mono
      exact mz3
theorem api_Node_34.mono : ∀ a0 a1 k, LeO (api_Node_34.f k a0 a1) (api_Node_34.f (k + 1) a0 a1) := by
  intro a0 a1 k
  have ih0 := api_Node_34.mono_l k
  unfold api_Node_34.f
  have im0 := @array_Same_1.mono
  exact mz3
set_option maxHeartbeats 8000000 in
set_option maxRecDepth 100000 in
theorem api_Node_34.calls (k : Nat) (A0 : Option Addr) (c0 : Nat) (l0 : List (S32)) (A1 : Option Addr) (c1 : Nat) (l1 : List (S32)) (r : Bool) (w : World) (hr0 : Kd.C k32 w A0 l0.length l0) (hc0 : l0.length ≤ c0) (hr1 : Kd.C k32 w A1 l1.length l1) (hc1 : l1.length ≤ c1) (h : api_Node_34.f k l0 l1 = some r) :
    Calls Tryd.prog 34 #[.slice A0 l0.length c0, .slice A1 l1.length c1, .func (.func 35) #[] #[]] w fun e w' => e = .returned (.bool r) ∧ Below w.heap.size w w' := by
  have hu32 := Tryd.underlying32
  have HR0 := zq hr0
  have HC0 := zq hc0
  clear hr0 hc0
  have HR1 := zq hr1
  have HC1 := zq hc1
  clear hr1 hc1
  have HB := zq (Below.refl w.heap.size w)
  have H : (if (l0.length : Int) = (l1.length : Int) then (api_Node_34.l0 k l1 l0 (l0.length : Int) 0) else (some false)) = some r := h
  clear h
  by_cases c3 : (l0.length : Int) = (l1.length : Int)
  rotate_left
  · rw [if_neg c3] at H
    have c3b0 : ((l0.length : Int) == (l1.length : Int)) = false := beq_eq_false_iff_ne.mpr c3
    have c3b1 : ((l0.length : Int) != (l1.length : Int)) = true := bne_iff_ne.mpr c3
    have c3b2 : (l0.length == l1.length) = false := J42
    obtain rfl := Option.some.inj H
    go_enter Tryd.func34, Tryd.ntmps34
    go_wp2
    go_ret
    exact ⟨J2, J0⟩
  rw [if_pos c3] at H
  have c3b0 : ((l0.length : Int) == (l1.length : Int)) = true := beq_iff_eq.mpr c3
  have c3b1 : ((l0.length : Int) != (l1.length : Int)) = false := bne_eq_false_iff_eq.mpr c3
  have c3b2 : (l0.length == l1.length) = true := J42
  clear c3
  have H' := zq H
  clear H
  go_enter Tryd.func34, Tryd.ntmps34
  go_wp2
  go_loopg [17] k (fun kq v17 w' => ∃ (x17_1 : Int), v17 = .int .i64 x17_1 ∧ Aside0 (api_Node_34.l0 kq l1 l0 (l0.length : Int) x17_1 = some r) ∧ Aside0 (kq ≤ k) ∧ Aside0 (Below w.heap.size w w'))
  case atStart => exact ⟨(0), J4, H', ⟨Nat.le_refl _⟩, ⟨J0⟩⟩
  case round =>
    clear H'
    try clear c1
    try clear p2
    try clear c3
    try clear c3b0
    try clear c3b1
    try clear c3b2
    obtain ⟨x17_1, rfl, HA, HK1, HB⟩ := hrel
    cases gk with
    | zero => exact absurd HA.out (by simp [api_Node_34.l0])
    | succ k1 =>
      have H := HA.out
      clear HA
      simp only [api_Node_34.l0] at H
      by_cases c4 : x17_1 < (l0.length : Int)
      rotate_left
      · rw [if_neg c4] at H
        have c4b0 := decide_eq_false c4
        clear c4
        obtain rfl := Option.some.inj H
        go_wp2
        go_ret
        exact ⟨J2, J0⟩
      rw [if_pos c4] at H
      have c4b0 := decide_eq_true c4
      clear c4
      by_cases c5 : 0 ≤ x17_1
      rotate_left
      · rw [if_neg c5] at H
        exact absurd H J32
      rw [if_pos c5] at H
      have c5b0 := decide_eq_true c5
      clear c5
      by_cases c6 : x17_1 < (l0.length : Int)
      rotate_left
      · rw [if_neg c6] at H
        exact absurd H J32
      rw [if_pos c6] at H
      have c6b0 := decide_eq_true c6
      clear c6
      by_cases c7 : x17_1 < (l1.length : Int)
      rotate_left
      · rw [if_neg c7] at H
        exact absurd H J32
      rw [if_pos c7] at H
      have c7b0 := decide_eq_true c7
      clear c7
      replace H := Option.bind_eq_some_iff.mp H
      obtain ⟨t362, A80, H⟩ := H
      have A8 := zq A80
      clear A80
      by_cases c9 : t362 = true
      rotate_left
      · replace c9 := Bool.eq_false_iff.mpr c9
        subst c9
        rw [if_neg (show ¬ (false = true) by decide)] at H
        obtain rfl := Option.some.inj H
        have p358 : 0 ≤ (x17_1 : Int) := of_decide_eq_true J3
        have q358 : x17_1 < (l0.length : Int) := of_decide_eq_true J3
        obtain ⟨ad358, A358_1, c358_1, A358_2, c358_2, A358_3, c358_3, e358, hx358_0, hx358_1, hx358_2, hx358_3, hl358_1, hi358_1, hl358_2, hi358_2, hl358_3, hi358_3⟩ := at_T32 HR0.out x17_1 p358 q358
        cases e358
        replace hx358_0 := (HB.out.cell (World.block_lt_of_cell? w _ hx358_0)).trans hx358_0
        replace hx358_1 := (HB.out.cell (World.block_lt_of_cell? w _ hx358_1)).trans hx358_1
        replace hx358_2 := (HB.out.cell (World.block_lt_of_cell? w _ hx358_2)).trans hx358_2
        replace hx358_3 := (HB.out.cell (World.block_lt_of_cell? w _ hx358_3)).trans hx358_3
        have HR358_1 := zq hi358_1
        have HC358_1 := zq hl358_1
        clear hi358_1 hl358_1
        have HR358_2 := zq hi358_2
        have HC358_2 := zq hl358_2
        clear hi358_2 hl358_2
        have HR358_3 := zq hi358_3
        have HC358_3 := zq hl358_3
        clear hi358_3 hl358_3
        replace p358 := eq_true p358
        replace q358 := eq_true q358
        go_wp2_with (first | ((with_reducible refine gate_dst (N := 8) rfl ?_); refine bxw 8 32 #[.int .i64 0, .slice none 0 0, .slice none 0 0, .slice none 0 0] ?_; intro gb359 hg w17 hbox hb; have BK359 := zq (hbox); have GW359 := zq ((J12 : w.heap.size ≤ gb359)); have GE359 := zq ((J12 : w.heap.size ≤ gb359)); replace HB := zq (below_step J0 hb); clear hb hbox hg; obtain ⟨hcz18_0, hcz18_1, hcz18_2, hcz18_3, hfz18_0, hfz18_1, hfz18_2, hfz18_3⟩ := cz4 BK359.out; have p360 : 0 ≤ (x17_1 : Int) := of_decide_eq_true J3; have q360 : x17_1 < (l1.length : Int) := of_decide_eq_true J3; obtain ⟨ad360, A360_1, c360_1, A360_2, c360_2, A360_3, c360_3, e360, hx360_0, hx360_1, hx360_2, hx360_3, hl360_1, hi360_1, hl360_2, hi360_2, hl360_3, hi360_3⟩ := at_T32 HR1.out x17_1 p360 q360; cases e360; have hn360_0 : ad360.block ≠ gb359 := Nat.ne_of_lt (Nat.lt_of_lt_of_le J41 GW359.out); have hn360_1 : ad360.block ≠ gb359 := Nat.ne_of_lt (Nat.lt_of_lt_of_le J41 GW359.out); have hn360_2 : ad360.block ≠ gb359 := Nat.ne_of_lt (Nat.lt_of_lt_of_le J41 GW359.out); have hn360_3 : ad360.block ≠ gb359 := Nat.ne_of_lt (Nat.lt_of_lt_of_le J41 GW359.out); replace hx360_0 := (HB.out.cell (World.block_lt_of_cell? w _ hx360_0)).trans hx360_0; replace hx360_1 := (HB.out.cell (World.block_lt_of_cell? w _ hx360_1)).trans hx360_1; replace hx360_2 := (HB.out.cell (World.block_lt_of_cell? w _ hx360_2)).trans hx360_2; replace hx360_3 := (HB.out.cell (World.block_lt_of_cell? w _ hx360_3)).trans hx360_3; have HR360_1 := zq hi360_1; have HC360_1 := zq hl360_1; clear hi360_1 hl360_1; have HR360_2 := zq hi360_2; have HC360_2 := zq hl360_2; clear hi360_2 hl360_2; have HR360_3 := zq hi360_3; have HC360_3 := zq hl360_3; clear hi360_3 hl360_3; replace hx360_0 := (cell_far (p := ⟨gb359, 0, none⟩) (zb hn360_0) (.int .i64 ((rd_T32 l0 x17_1).f0))).trans hx360_0; replace hx360_1 := (cell_far (p := ⟨gb359, 0, none⟩) (zb hn360_0) (.int .i64 ((rd_T32 l0 x17_1).f0))).trans hx360_1; replace hx360_2 := (cell_far (p := ⟨gb359, 0, none⟩) (zb hn360_0) (.int .i64 ((rd_T32 l0 x17_1).f0))).trans hx360_2; replace hx360_3 := (cell_far (p := ⟨gb359, 0, none⟩) (zb hn360_0) (.int .i64 ((rd_T32 l0 x17_1).f0))).trans hx360_3; replace hx360_0 := (cell_far (p := ⟨gb359, 1, none⟩) (zb hn360_1) (.slice A358_1 ((rd_T32 l0 x17_1).f1).length c358_1)).trans hx360_0; replace hx360_1 := (cell_far (p := ⟨gb359, 1, none⟩) (zb hn360_1) (.slice A358_1 ((rd_T32 l0 x17_1).f1).length c358_1)).trans hx360_1; replace hx360_2 := (cell_far (p := ⟨gb359, 1, none⟩) (zb hn360_1) (.slice A358_1 ((rd_T32 l0 x17_1).f1).length c358_1)).trans hx360_2; replace hx360_3 := (cell_far (p := ⟨gb359, 1, none⟩) (zb hn360_1) (.slice A358_1 ((rd_T32 l0 x17_1).f1).length c358_1)).trans hx360_3; replace hx360_0 := (cell_far (p := ⟨gb359, 2, none⟩) (zb hn360_2) (.slice A358_2 ((rd_T32 l0 x17_1).f2).length c358_2)).trans hx360_0; replace hx360_1 := (cell_far (p := ⟨gb359, 2, none⟩) (zb hn360_2) (.slice A358_2 ((rd_T32 l0 x17_1).f2).length c358_2)).trans hx360_1; replace hx360_2 := (cell_far (p := ⟨gb359, 2, none⟩) (zb hn360_2) (.slice A358_2 ((rd_T32 l0 x17_1).f2).length c358_2)).trans hx360_2; replace hx360_3 := (cell_far (p := ⟨gb359, 2, none⟩) (zb hn360_2) (.slice A358_2 ((rd_T32 l0 x17_1).f2).length c358_2)).trans hx360_3; replace hx360_0 := (cell_far (p := ⟨gb359, 3, none⟩) (zb hn360_3) (.slice A358_3 ((rd_T32 l0 x17_1).f3).length c358_3)).trans hx360_0; replace hx360_1 := (cell_far (p := ⟨gb359, 3, none⟩) (zb hn360_3) (.slice A358_3 ((rd_T32 l0 x17_1).f3).length c358_3)).trans hx360_1; replace hx360_2 := (cell_far (p := ⟨gb359, 3, none⟩) (zb hn360_3) (.slice A358_3 ((rd_T32 l0 x17_1).f3).length c358_3)).trans hx360_2; replace hx360_3 := (cell_far (p := ⟨gb359, 3, none⟩) (zb hn360_3) (.slice A358_3 ((rd_T32 l0 x17_1).f3).length c358_3)).trans hx360_3; clear hn360_0; clear hn360_1; clear hn360_2; clear hn360_3; replace p360 := eq_true p360; replace q360 := eq_true q360) | ((with_reducible refine gate_dst (N := 9) rfl ?_); refine bxw 9 32 #[.int .i64 0, .slice none 0 0, .slice none 0 0, .slice none 0 0] ?_; intro gb361 hg w19 hbox hb; have BK361 := zq (hbox); have GE361 := zq ((by rw [hg]; exact (below_size (zs1 GE359.out)) : w.heap.size ≤ gb361)); replace HB := zq (below_step (zs1 GE359.out) hb); have NB359_361 := zq ((J88 : gb359 ≠ gb361)); have NB361_359 := zq ((J89 : gb361 ≠ gb359)); replace BK359 := zq (blk_below (g := gb359) (o := .cells #[.int .i64 ((rd_T32 l0 x17_1).f0), .slice A358_1 ((rd_T32 l0 x17_1).f1).length c358_1, .slice A358_2 ((rd_T32 l0 x17_1).f2).length c358_2, .slice A358_3 ((rd_T32 l0 x17_1).f3).length c358_3] 32 (0, 0)) J6 hb); clear hb hbox hg; have hnb20 := NB361_359.out; have hnc20 := NB359_361.out; obtain ⟨hcz21_0, hcz21_1, hcz21_2, hcz21_3, hfz21_0, hfz21_1, hfz21_2, hfz21_3⟩ := cz4 BK361.out; obtain ⟨hcz22_0, hcz22_1, hcz22_2, hcz22_3, hfz22_0, hfz22_1, hfz22_2, hfz22_3⟩ := cz4 BK359.out) | ((with_reducible refine gate_dst (N := 29) rfl ?_); refine goesLv_ (some 29) rfl rfl Tryd.func35 J8 rfl #[.agg #[.int .i64 ((rd_T32 l0 x17_1).f0), .slice A358_1 ((rd_T32 l0 x17_1).f1).length c358_1, .slice A358_2 ((rd_T32 l0 x17_1).f2).length c358_2, .slice A358_3 ((rd_T32 l0 x17_1).f3).length c358_3], .agg #[.int .i64 ((rd_T32 l1 x17_1).f0), .slice A360_1 ((rd_T32 l1 x17_1).f1).length c360_1, .slice A360_2 ((rd_T32 l1 x17_1).f2).length c360_2, .slice A360_3 ((rd_T32 l1 x17_1).f3).length c360_3]] (.tmp 26) rfl rfl J1 ?_; (with_reducible refine (array_Same_1.calls k1 ((rd_T32 l0 x17_1).f0) _ _ ((rd_T32 l0 x17_1).f1) _ _ ((rd_T32 l0 x17_1).f2) _ _ ((rd_T32 l0 x17_1).f3) ((rd_T32 l1 x17_1).f0) _ _ ((rd_T32 l1 x17_1).f1) _ _ ((rd_T32 l1 x17_1).f2) _ _ ((rd_T32 l1 x17_1).f3) false _ ?side1 ?side2 ?side3 ?side4 ?side5 ?side6 ?side7 ?side8 ?side9 ?side10 ?side11 ?side12 A8.out).mono ?_); (case side1 => exact Kd.C_below HR358_1.out (zs2 GE359.out GE361.out)); (case side2 => exact HC358_1.out); (case side3 => exact Kd.C_below HR358_2.out (zs2 GE359.out GE361.out)); (case side4 => exact HC358_2.out); (case side5 => exact Kd.C_below HR358_3.out (zs2 GE359.out GE361.out)); (case side6 => exact HC358_3.out); (case side7 => exact Kd.C_below HR360_1.out (zs2 GE359.out GE361.out)); (case side8 => exact HC360_1.out); (case side9 => exact Kd.C_below HR360_2.out (zs2 GE359.out GE361.out)); (case side10 => exact HC360_2.out); (case side11 => exact Kd.C_below HR360_3.out (zs2 GE359.out GE361.out)); (case side12 => exact HC360_3.out); rintro e w23 ⟨rfl, hb⟩; refine ⟨_, rfl, ?_⟩; replace HB := zq (below_step (zs2 GE359.out GE361.out) hb); (try clear hb)))
        go_ret
        exact ⟨J2, J108⟩
      subst c9
      rw [if_pos rfl] at H
      have H' := zq H
      clear H
      have p358 : 0 ≤ (x17_1 : Int) := of_decide_eq_true J3
      have q358 : x17_1 < (l0.length : Int) := of_decide_eq_true J3
      obtain ⟨ad358, A358_1, c358_1, A358_2, c358_2, A358_3, c358_3, e358, hx358_0, hx358_1, hx358_2, hx358_3, hl358_1, hi358_1, hl358_2, hi358_2, hl358_3, hi358_3⟩ := at_T32 HR0.out x17_1 p358 q358
      cases e358
      replace hx358_0 := (HB.out.cell (World.block_lt_of_cell? w _ hx358_0)).trans hx358_0
      replace hx358_1 := (HB.out.cell (World.block_lt_of_cell? w _ hx358_1)).trans hx358_1
      replace hx358_2 := (HB.out.cell (World.block_lt_of_cell? w _ hx358_2)).trans hx358_2
      replace hx358_3 := (HB.out.cell (World.block_lt_of_cell? w _ hx358_3)).trans hx358_3
      have HR358_1 := zq hi358_1
      have HC358_1 := zq hl358_1
      clear hi358_1 hl358_1
      have HR358_2 := zq hi358_2
      have HC358_2 := zq hl358_2
      clear hi358_2 hl358_2
      have HR358_3 := zq hi358_3
      have HC358_3 := zq hl358_3
      clear hi358_3 hl358_3
      replace p358 := eq_true p358
      replace q358 := eq_true q358
      go_wp2_with (first | ((with_reducible refine gate_dst (N := 8) rfl ?_); refine bxw 8 32 #[.int .i64 0, .slice none 0 0, .slice none 0 0, .slice none 0 0] ?_; intro gb359 hg w10 hbox hb; have BK359 := zq (hbox); have GW359 := zq ((J12 : w.heap.size ≤ gb359)); have GE359 := zq ((J12 : w.heap.size ≤ gb359)); replace HB := zq (below_step J0 hb); clear hb hbox hg; obtain ⟨hcz11_0, hcz11_1, hcz11_2, hcz11_3, hfz11_0, hfz11_1, hfz11_2, hfz11_3⟩ := cz4 BK359.out; have p360 : 0 ≤ (x17_1 : Int) := of_decide_eq_true J3; have q360 : x17_1 < (l1.length : Int) := of_decide_eq_true J3; obtain ⟨ad360, A360_1, c360_1, A360_2, c360_2, A360_3, c360_3, e360, hx360_0, hx360_1, hx360_2, hx360_3, hl360_1, hi360_1, hl360_2, hi360_2, hl360_3, hi360_3⟩ := at_T32 HR1.out x17_1 p360 q360; cases e360; have hn360_0 : ad360.block ≠ gb359 := Nat.ne_of_lt (Nat.lt_of_lt_of_le J41 GW359.out); have hn360_1 : ad360.block ≠ gb359 := Nat.ne_of_lt (Nat.lt_of_lt_of_le J41 GW359.out); have hn360_2 : ad360.block ≠ gb359 := Nat.ne_of_lt (Nat.lt_of_lt_of_le J41 GW359.out); have hn360_3 : ad360.block ≠ gb359 := Nat.ne_of_lt (Nat.lt_of_lt_of_le J41 GW359.out); replace hx360_0 := (HB.out.cell (World.block_lt_of_cell? w _ hx360_0)).trans hx360_0; replace hx360_1 := (HB.out.cell (World.block_lt_of_cell? w _ hx360_1)).trans hx360_1; replace hx360_2 := (HB.out.cell (World.block_lt_of_cell? w _ hx360_2)).trans hx360_2; replace hx360_3 := (HB.out.cell (World.block_lt_of_cell? w _ hx360_3)).trans hx360_3; have HR360_1 := zq hi360_1; have HC360_1 := zq hl360_1; clear hi360_1 hl360_1; have HR360_2 := zq hi360_2; have HC360_2 := zq hl360_2; clear hi360_2 hl360_2; have HR360_3 := zq hi360_3; have HC360_3 := zq hl360_3; clear hi360_3 hl360_3; replace hx360_0 := (cell_far (p := ⟨gb359, 0, none⟩) (zb hn360_0) (.int .i64 ((rd_T32 l0 x17_1).f0))).trans hx360_0; replace hx360_1 := (cell_far (p := ⟨gb359, 0, none⟩) (zb hn360_0) (.int .i64 ((rd_T32 l0 x17_1).f0))).trans hx360_1; replace hx360_2 := (cell_far (p := ⟨gb359, 0, none⟩) (zb hn360_0) (.int .i64 ((rd_T32 l0 x17_1).f0))).trans hx360_2; replace hx360_3 := (cell_far (p := ⟨gb359, 0, none⟩) (zb hn360_0) (.int .i64 ((rd_T32 l0 x17_1).f0))).trans hx360_3; replace hx360_0 := (cell_far (p := ⟨gb359, 1, none⟩) (zb hn360_1) (.slice A358_1 ((rd_T32 l0 x17_1).f1).length c358_1)).trans hx360_0; replace hx360_1 := (cell_far (p := ⟨gb359, 1, none⟩) (zb hn360_1) (.slice A358_1 ((rd_T32 l0 x17_1).f1).length c358_1)).trans hx360_1; replace hx360_2 := (cell_far (p := ⟨gb359, 1, none⟩) (zb hn360_1) (.slice A358_1 ((rd_T32 l0 x17_1).f1).length c358_1)).trans hx360_2; replace hx360_3 := (cell_far (p := ⟨gb359, 1, none⟩) (zb hn360_1) (.slice A358_1 ((rd_T32 l0 x17_1).f1).length c358_1)).trans hx360_3; replace hx360_0 := (cell_far (p := ⟨gb359, 2, none⟩) (zb hn360_2) (.slice A358_2 ((rd_T32 l0 x17_1).f2).length c358_2)).trans hx360_0; replace hx360_1 := (cell_far (p := ⟨gb359, 2, none⟩) (zb hn360_2) (.slice A358_2 ((rd_T32 l0 x17_1).f2).length c358_2)).trans hx360_1; replace hx360_2 := (cell_far (p := ⟨gb359, 2, none⟩) (zb hn360_2) (.slice A358_2 ((rd_T32 l0 x17_1).f2).length c358_2)).trans hx360_2; replace hx360_3 := (cell_far (p := ⟨gb359, 2, none⟩) (zb hn360_2) (.slice A358_2 ((rd_T32 l0 x17_1).f2).length c358_2)).trans hx360_3; replace hx360_0 := (cell_far (p := ⟨gb359, 3, none⟩) (zb hn360_3) (.slice A358_3 ((rd_T32 l0 x17_1).f3).length c358_3)).trans hx360_0; replace hx360_1 := (cell_far (p := ⟨gb359, 3, none⟩) (zb hn360_3) (.slice A358_3 ((rd_T32 l0 x17_1).f3).length c358_3)).trans hx360_1; replace hx360_2 := (cell_far (p := ⟨gb359, 3, none⟩) (zb hn360_3) (.slice A358_3 ((rd_T32 l0 x17_1).f3).length c358_3)).trans hx360_2; replace hx360_3 := (cell_far (p := ⟨gb359, 3, none⟩) (zb hn360_3) (.slice A358_3 ((rd_T32 l0 x17_1).f3).length c358_3)).trans hx360_3; clear hn360_0; clear hn360_1; clear hn360_2; clear hn360_3; replace p360 := eq_true p360; replace q360 := eq_true q360) | ((with_reducible refine gate_dst (N := 9) rfl ?_); refine bxw 9 32 #[.int .i64 0, .slice none 0 0, .slice none 0 0, .slice none 0 0] ?_; intro gb361 hg w12 hbox hb; have BK361 := zq (hbox); have GE361 := zq ((by rw [hg]; exact (below_size (zs1 GE359.out)) : w.heap.size ≤ gb361)); replace HB := zq (below_step (zs1 GE359.out) hb); have NB359_361 := zq ((J88 : gb359 ≠ gb361)); have NB361_359 := zq ((J89 : gb361 ≠ gb359)); replace BK359 := zq (blk_below (g := gb359) (o := .cells #[.int .i64 ((rd_T32 l0 x17_1).f0), .slice A358_1 ((rd_T32 l0 x17_1).f1).length c358_1, .slice A358_2 ((rd_T32 l0 x17_1).f2).length c358_2, .slice A358_3 ((rd_T32 l0 x17_1).f3).length c358_3] 32 (0, 0)) J6 hb); clear hb hbox hg; have hnb13 := NB361_359.out; have hnc13 := NB359_361.out; obtain ⟨hcz14_0, hcz14_1, hcz14_2, hcz14_3, hfz14_0, hfz14_1, hfz14_2, hfz14_3⟩ := cz4 BK361.out; obtain ⟨hcz15_0, hcz15_1, hcz15_2, hcz15_3, hfz15_0, hfz15_1, hfz15_2, hfz15_3⟩ := cz4 BK359.out) | ((with_reducible refine gate_dst (N := 29) rfl ?_); refine goesLv_ (some 29) rfl rfl Tryd.func35 J8 rfl #[.agg #[.int .i64 ((rd_T32 l0 x17_1).f0), .slice A358_1 ((rd_T32 l0 x17_1).f1).length c358_1, .slice A358_2 ((rd_T32 l0 x17_1).f2).length c358_2, .slice A358_3 ((rd_T32 l0 x17_1).f3).length c358_3], .agg #[.int .i64 ((rd_T32 l1 x17_1).f0), .slice A360_1 ((rd_T32 l1 x17_1).f1).length c360_1, .slice A360_2 ((rd_T32 l1 x17_1).f2).length c360_2, .slice A360_3 ((rd_T32 l1 x17_1).f3).length c360_3]] (.tmp 26) rfl rfl J1 ?_; (with_reducible refine (array_Same_1.calls k1 ((rd_T32 l0 x17_1).f0) _ _ ((rd_T32 l0 x17_1).f1) _ _ ((rd_T32 l0 x17_1).f2) _ _ ((rd_T32 l0 x17_1).f3) ((rd_T32 l1 x17_1).f0) _ _ ((rd_T32 l1 x17_1).f1) _ _ ((rd_T32 l1 x17_1).f2) _ _ ((rd_T32 l1 x17_1).f3) true _ ?side1 ?side2 ?side3 ?side4 ?side5 ?side6 ?side7 ?side8 ?side9 ?side10 ?side11 ?side12 A8.out).mono ?_); (case side1 => exact Kd.C_below HR358_1.out (zs2 GE359.out GE361.out)); (case side2 => exact HC358_1.out); (case side3 => exact Kd.C_below HR358_2.out (zs2 GE359.out GE361.out)); (case side4 => exact HC358_2.out); (case side5 => exact Kd.C_below HR358_3.out (zs2 GE359.out GE361.out)); (case side6 => exact HC358_3.out); (case side7 => exact Kd.C_below HR360_1.out (zs2 GE359.out GE361.out)); (case side8 => exact HC360_1.out); (case side9 => exact Kd.C_below HR360_2.out (zs2 GE359.out GE361.out)); (case side10 => exact HC360_2.out); (case side11 => exact Kd.C_below HR360_3.out (zs2 GE359.out GE361.out)); (case side12 => exact HC360_3.out); rintro e w16 ⟨rfl, hb⟩; refine ⟨_, rfl, ?_⟩; replace BK359 := zq (blk_below (g := gb359) (o := .cells #[.int .i64 ((rd_T32 l0 x17_1).f0), .slice A358_1 ((rd_T32 l0 x17_1).f1).length c358_1, .slice A358_2 ((rd_T32 l0 x17_1).f2).length c358_2, .slice A358_3 ((rd_T32 l0 x17_1).f3).length c358_3] 32 (0, 0)) (by (with_reducible repeat (first | refine blk_drewN ?_ _ | refine blk_drew ?_ | refine blk_alloc ?_ _)); refine blk_far ?_ NB359_361.out _; (with_reducible repeat (first | refine blk_drewN ?_ _ | refine blk_drew ?_ | refine blk_alloc ?_ _)); refine blk_far ?_ NB359_361.out _; (with_reducible repeat (first | refine blk_drewN ?_ _ | refine blk_drew ?_ | refine blk_alloc ?_ _)); refine blk_far ?_ NB359_361.out _; (with_reducible repeat (first | refine blk_drewN ?_ _ | refine blk_drew ?_ | refine blk_alloc ?_ _)); refine blk_far ?_ NB359_361.out _; (with_reducible repeat (first | refine blk_drewN ?_ _ | refine blk_drew ?_ | refine blk_alloc ?_ _)); exact BK359.out) hb); replace BK361 := zq (blk_below (g := gb361) (o := .cells #[.int .i64 ((rd_T32 l1 x17_1).f0), .slice A360_1 ((rd_T32 l1 x17_1).f1).length c360_1, .slice A360_2 ((rd_T32 l1 x17_1).f2).length c360_2, .slice A360_3 ((rd_T32 l1 x17_1).f3).length c360_3] 32 (0, 0)) (by (with_reducible repeat (first | refine blk_drewN ?_ _ | refine blk_drew ?_ | refine blk_alloc ?_ _)); refine blk_put (cs := #[.int .i64 ((rd_T32 l1 x17_1).f0), .slice A360_1 ((rd_T32 l1 x17_1).f1).length c360_1, .slice A360_2 ((rd_T32 l1 x17_1).f2).length c360_2, .slice none 0 0]) ?_ 3 _ rfl; (with_reducible repeat (first | refine blk_drewN ?_ _ | refine blk_drew ?_ | refine blk_alloc ?_ _)); refine blk_put (cs := #[.int .i64 ((rd_T32 l1 x17_1).f0), .slice A360_1 ((rd_T32 l1 x17_1).f1).length c360_1, .slice none 0 0, .slice none 0 0]) ?_ 2 _ rfl; (with_reducible repeat (first | refine blk_drewN ?_ _ | refine blk_drew ?_ | refine blk_alloc ?_ _)); refine blk_put (cs := #[.int .i64 ((rd_T32 l1 x17_1).f0), .slice none 0 0, .slice none 0 0, .slice none 0 0]) ?_ 1 _ rfl; (with_reducible repeat (first | refine blk_drewN ?_ _ | refine blk_drew ?_ | refine blk_alloc ?_ _)); refine blk_put (cs := #[.int .i64 0, .slice none 0 0, .slice none 0 0, .slice none 0 0]) ?_ 0 _ rfl; (with_reducible repeat (first | refine blk_drewN ?_ _ | refine blk_drew ?_ | refine blk_alloc ?_ _)); exact BK361.out) hb); replace HB := zq (below_step (zs2 GE359.out GE361.out) hb); (try clear hb)))
      go_roundg k1
      case measure => have := HK1.out; omega
      case rel => exact ⟨(wrap64 (x17_1 + 1)), J4, H', ⟨J73⟩, ⟨J108⟩⟩
def array_Same.f (k : Nat) (l0 : List (S32)) (l1 : List (S32)) : Option (Bool) := (api_Node_34.f k l0 l1).bind fun t363 => (some t363)
theorem array_Same.mono : ∀ a0 a1 k, LeO (array_Same.f k a0 a1) (array_Same.f (k + 1) a0 a1) := by
  intro a0 a1 k
  unfold array_Same.f
  have im0 := @api_Node_34.mono
  exact mz3
set_option maxHeartbeats 8000000 in
set_option maxRecDepth 100000 in
theorem array_Same.calls (k : Nat) (A0 : Option Addr) (c0 : Nat) (l0 : List (S32)) (A1 : Option Addr) (c1 : Nat) (l1 : List (S32)) (r : Bool) (w : World) (hr0 : Kd.C k32 w A0 l0.length l0) (hc0 : l0.length ≤ c0) (hr1 : Kd.C k32 w A1 l1.length l1) (hc1 : l1.length ≤ c1) (h : array_Same.f k l0 l1 = some r) :
    Calls Tryd.prog 21 #[.slice A0 l0.length c0, .slice A1 l1.length c1] w fun e w' => e = .returned (.bool r) ∧ Below w.heap.size w w' := by
  have HR0 := zq hr0
  have HC0 := zq hc0
  clear hr0 hc0
  have HR1 := zq hr1
  have HC1 := zq hc1
  clear hr1 hc1
  have HB := zq (Below.refl w.heap.size w)
  have H : ((api_Node_34.f k l0 l1).bind fun t363 => (some t363)) = some r := h
  clear h
  replace H := Option.bind_eq_some_iff.mp H
  obtain ⟨t363, A30, H⟩ := H
  have A3 := zq A30
  clear A30
  obtain rfl := Option.some.inj H
  go_enter Tryd.func21, Tryd.ntmps21
  go_wp2_with (first | ((with_reducible refine gate_callee (f := 34) rfl ?_); refine goesL_ (some 7) rfl rfl Tryd.func34 J8 rfl #[.slice A0 l0.length c0, .slice A1 l1.length c1, .func (.func 35) #[] #[]] rfl J1 ?_; (with_reducible refine (api_Node_34.calls k _ _ l0 _ _ l1 t363 _ ?side1 ?side2 ?side3 ?side4 A3.out).mono ?_); (case side1 => exact zc HR0.out); (case side2 => exact HC0.out); (case side3 => exact zc HR1.out); (case side4 => exact HC1.out); rintro e w4 ⟨rfl, hb⟩; refine ⟨_, rfl, ?_⟩; replace HB := zq (below_step J0 hb); (try clear hb)))
  go_ret
  exact ⟨J2, J0⟩
def tight_Right.f (k : Nat) (l0 : List (S32)) : Option (Bool) := (tight_Make.f k l0).bind fun bt364 => (if bt364.2 = true then ((array_Same.f k l0 bt364.1).bind fun t368 => (some t368)) else (some false))
theorem tight_Right.mono : ∀ a0 k, LeO (tight_Right.f k a0) (tight_Right.f (k + 1) a0) := by
  intro a0 k
  unfold tight_Right.f
  have im0 := @array_Same.mono
  have im1 := @tight_Make.mono
  exact mz3
set_option maxHeartbeats 8000000 in
set_option maxRecDepth 100000 in
theorem tight_Right.calls (k : Nat) (A0 : Option Addr) (c0 : Nat) (l0 : List (S32)) (r : Bool) (w : World) (hr0 : Kd.C k32 w A0 l0.length l0) (hc0 : l0.length ≤ c0) (h : tight_Right.f k l0 = some r) :
    Calls Tryd.prog 10 #[.slice A0 l0.length c0] w fun e w' => e = .returned (.bool r) ∧ Below w.heap.size w w' := by
  have HR0 := zq hr0
  have HC0 := zq hc0
  clear hr0 hc0
  have HB := zq (Below.refl w.heap.size w)
  have H : ((tight_Make.f k l0).bind fun bt364 => (if bt364.2 = true then ((array_Same.f k l0 bt364.1).bind fun t368 => (some t368)) else (some false))) = some r := h
  clear h
  replace H := Option.bind_eq_some_iff.mp H
  obtain ⟨⟨t364, t367⟩, A20, H⟩ := H
  dsimp only at H
  have A2 := zq A20
  clear A20
  by_cases c3 : t367 = true
  rotate_left
  · replace c3 := Bool.eq_false_iff.mpr c3
    subst c3
    rw [if_neg (show ¬ (false = true) by decide)] at H
    obtain rfl := Option.some.inj H
    go_enter Tryd.func10, Tryd.ntmps10
    go_wp2_with (first | ((first | ((with_reducible refine gate_callee (f := 20) rfl ?_); refine goesL_ (some 7) rfl rfl Tryd.func20 J8 rfl #[.slice A0 l0.length c0] rfl J1 ?_) | go_at_call 20); (with_reducible refine (tight_Make.calls k (fun k_ => k_ < w.heap.size) _ _ l0 t364 false _ ?side1 A2.out).mono ?_); (case side1 => exact Kd.V_mk HC0.out (Kd.F_below (Kd.C_F k32_heap HR0.out) J0)); rintro e w8 ⟨v365, rfl, ho0, hb⟩; (try refine ⟨_, rfl, ?_⟩); replace HB := zq (below_step J0 hb); (try clear hb); (try clear ho0)))
    go_ret
    exact ⟨J2, J0⟩
  subst c3
  rw [if_pos rfl] at H
  replace H := Option.bind_eq_some_iff.mp H
  obtain ⟨t368, A40, H⟩ := H
  have A4 := zq A40
  clear A40
  obtain rfl := Option.some.inj H
  go_enter Tryd.func10, Tryd.ntmps10
  go_wp2_with (first | ((first | ((with_reducible refine gate_callee (f := 20) rfl ?_); refine goesL_ (some 7) rfl rfl Tryd.func20 J8 rfl #[.slice A0 l0.length c0] rfl J1 ?_) | go_at_call 20); (with_reducible refine (tight_Make.calls k (fun k_ => k_ < w.heap.size) _ _ l0 t364 true _ ?side1 A2.out).mono ?_); (case side1 => exact Kd.V_mk HC0.out (Kd.F_below (Kd.C_F k32_heap HR0.out) J0)); rintro e w5 ⟨v365, rfl, ho0, hb⟩; (try refine ⟨_, rfl, ?_⟩); have HO366 := zq (Kd.N_lower (Kd.N_mono (ok' := fun k_ => True) ho0 (fun k_ hk_ => trivial)) (below_size J0)); replace HB := zq (below_step J0 hb); (try clear hb); (try clear ho0); obtain ⟨Ao6, co6, eo6⟩ := Kd.N_slice HO366.out; subst eo6) | (go_at_call 21; (with_reducible refine (array_Same.calls k _ _ l0 _ _ t364 t368 _ ?side1 ?side2 ?side3 ?side4 A4.out).mono ?_); (case side1 => exact zc (Kd.C_below HR0.out HB.out)); (case side2 => exact HC0.out); (case side3 => exact zc ((Kd.N_reads' HO366.out).2.2)); (case side4 => exact (Kd.N_reads' HO366.out).2.1); rintro e w7 ⟨rfl, hb⟩; replace HB := zq (below_step J0 hb); (try clear hb)))
  go_ret
  exact ⟨J2, J0⟩
end Go.Proofs.YtfjhiiaahbjaiaaDoor.HSystemSigns
