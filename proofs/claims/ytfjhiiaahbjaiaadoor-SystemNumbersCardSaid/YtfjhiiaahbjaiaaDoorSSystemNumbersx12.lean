/- What the Go functions of this claim answer, told as functions of numbers and lists, and that other memory stays as it was: words and walks, shortened by a program. -/
import Derived.Test.YtfjhiiaahbjaiaaDoorSSystemNumbersx0
import Derived.Test.YtfjhiiaahbjaiaaDoorSSystemNumbersx8
import Derived.Test.YtfjhiiaahbjaiaaDoorSSystemNumbersx11
namespace Go.Proofs.YtfjhiiaahbjaiaaDoor.HSystemSigns
open Go.RowKit Go.Proofs.YtfjhiiaahbjaiaaDoorW.PrintWords Go.Proofs.YtfjhiiaahbjaiaaDoorW.PrintLast Go.Proofs.YtfjhiiaahbjaiaaDoorW.PrintMore
attribute [local go_sem] max2_int min2_int max_two min_two max_three min_three max_four min_four
set_option linter.unusedVariables false
set_option linter.unusedSimpArgs false
def array_Take.f (k : Nat) (l0 : List (S32)) : Option (Int) := (array_walk.f k l0).bind fun bt255 => (some bt255.1)
theorem array_Take.mono : ∀ a0 k, LeO (array_Take.f k a0) (array_Take.f (k + 1) a0) := by
  intro a0 k
  unfold array_Take.f
  have im0 := @array_walk.mono
  exact mz3
set_option maxHeartbeats 8000000 in
set_option maxRecDepth 100000 in
theorem array_Take.calls (k : Nat) (A0 : Option Addr) (c0 : Nat) (l0 : List (S32)) (r : Int) (w : World) (hr0 : Kd.C k32 w A0 l0.length l0) (hc0 : l0.length ≤ c0) (h : array_Take.f k l0 = some r) :
    Calls Tryd.prog 58 #[.slice A0 l0.length c0] w fun e w' => e = .returned (.int .i64 r) ∧ Below w.heap.size w w' := by
  have HR0 := zq hr0
  have HC0 := zq hc0
  clear hr0 hc0
  have HB := zq (Below.refl w.heap.size w)
  have H : ((array_walk.f k l0).bind fun bt255 => (some bt255.1)) = some r := h
  clear h
  replace H := Option.bind_eq_some_iff.mp H
  obtain ⟨⟨t255, t256, t257⟩, A20, H⟩ := H
  replace H : (some t255) = some r := H
  have A2 := zq A20
  clear A20
  obtain rfl := Option.some.inj H
  go_enter Tryd.func58, Tryd.ntmps58
  go_wp2_with (first | ((with_reducible refine gate_callee (f := 77) rfl ?_); refine goesL_ (some 8) rfl rfl Tryd.func77 J8 rfl #[.slice A0 l0.length c0] rfl J1 ?_; (with_reducible refine (array_walk.calls k _ _ l0 t255 t256 t257 _ ?side1 ?side2 A2.out).mono ?_); (case side1 => exact zc HR0.out); (case side2 => exact HC0.out); rintro e w3 ⟨rfl, hb⟩; refine ⟨_, rfl, ?_⟩; replace HB := zq (below_step J0 hb); (try clear hb)))
  go_ret
  exact ⟨J2, J0⟩
def array_Right.f (k : Nat) (l0 : List (S32)) : Option (Bool) := if (l0.length : Int) > 0 then ((array_Take.f k l0).bind fun t258 => (some (t258 == (l0.length : Int)))) else (some false)
theorem array_Right.mono : ∀ a0 k, LeO (array_Right.f k a0) (array_Right.f (k + 1) a0) := by
  intro a0 k
  unfold array_Right.f
  have im0 := @array_Take.mono
  exact mz3
set_option maxHeartbeats 8000000 in
set_option maxRecDepth 100000 in
theorem array_Right.calls (k : Nat) (A0 : Option Addr) (c0 : Nat) (l0 : List (S32)) (r : Bool) (w : World) (hr0 : Kd.C k32 w A0 l0.length l0) (hc0 : l0.length ≤ c0) (h : array_Right.f k l0 = some r) :
    Calls Tryd.prog 32 #[.slice A0 l0.length c0] w fun e w' => e = .returned (.bool r) ∧ Below w.heap.size w w' := by
  have HR0 := zq hr0
  have HC0 := zq hc0
  clear hr0 hc0
  have HB := zq (Below.refl w.heap.size w)
  have H : (if (l0.length : Int) > 0 then ((array_Take.f k l0).bind fun t258 => (some (t258 == (l0.length : Int)))) else (some false)) = some r := h
  clear h
  by_cases c2 : (l0.length : Int) > 0
  rotate_left
  · rw [if_neg c2] at H
    have c2b0 := decide_eq_false c2
    have c2b1 : decide (0 < l0.length) = false := decide_eq_false J26
    clear c2
    obtain rfl := Option.some.inj H
    go_enter Tryd.func32, Tryd.ntmps32
    go_wp2
    go_ret
    exact ⟨J2, J0⟩
  rw [if_pos c2] at H
  have c2b0 := decide_eq_true c2
  have c2b1 : decide (0 < l0.length) = true := decide_eq_true J26
  clear c2
  replace H := Option.bind_eq_some_iff.mp H
  obtain ⟨t258, A30, H⟩ := H
  have A3 := zq A30
  clear A30
  obtain rfl := Option.some.inj H
  go_enter Tryd.func32, Tryd.ntmps32
  go_wp2_with (first | (go_at_call 58; (with_reducible refine (array_Take.calls k _ _ l0 t258 _ ?side1 ?side2 A3.out).mono ?_); (case side1 => exact zc HR0.out); (case side2 => exact HC0.out); rintro e w4 ⟨rfl, hb⟩; replace HB := zq (below_step J0 hb); (try clear hb)))
  go_ret
  exact ⟨J2, J0⟩
def tight_Numbers_1.f (k : Nat) (a0_0 : Int) (a0_1 : Int) : Option (Bool) := (decimal_Right.f k a0_0 a0_1).bind fun t260 => (some (!t260))
theorem tight_Numbers_1.mono : ∀ a0 a1 k, LeO (tight_Numbers_1.f k a0 a1) (tight_Numbers_1.f (k + 1) a0 a1) := by
  intro a0 a1 k
  unfold tight_Numbers_1.f
  have im0 := @decimal_Right.mono
  exact mz3
set_option maxHeartbeats 8000000 in
set_option maxRecDepth 100000 in
theorem tight_Numbers_1.calls (k : Nat) (a0_0 : Int) (a0_1 : Int) (r : Bool) (w : World) (h : tight_Numbers_1.f k a0_0 a0_1 = some r) :
    Calls Tryd.prog 39 #[.agg #[.int .i64 a0_0, .int .i64 a0_1]] w fun e w' => e = .returned (.bool r) ∧ Below w.heap.size w w' := by
  have hu40 := Tryd.underlying40
  have HB := zq (Below.refl w.heap.size w)
  have H : ((decimal_Right.f k a0_0 a0_1).bind fun t260 => (some (!t260))) = some r := h
  clear h
  replace H := Option.bind_eq_some_iff.mp H
  obtain ⟨t260, A20, H⟩ := H
  have A2 := zq A20
  clear A20
  obtain rfl := Option.some.inj H
  go_enter Tryd.func39, Tryd.ntmps39
  go_wp2_with (first | ((with_reducible refine gate_dst (N := 1) rfl ?_); refine bxw 1 40 #[.int .i64 a0_0, .int .i64 a0_1] ?_; intro gb259 hg w3 hbox hb; have BK259 := zq (hbox); have GE259 := zq ((J12 : w.heap.size ≤ gb259)); replace HB := zq (below_step J0 hb); clear hb hbox hg; obtain ⟨hcz4_0, hcz4_1, hfz4_0, hfz4_1⟩ := cz2 BK259.out) | ((with_reducible refine gate_callee (f := 28) rfl ?_); refine goesL_ (some 4) rfl rfl Tryd.func28 J8 rfl #[.agg #[.int .i64 a0_0, .int .i64 a0_1]] rfl J1 ?_; (with_reducible refine (decimal_Right.calls k a0_0 a0_1 t260 _ A2.out).mono ?_); rintro e w5 ⟨rfl, hb⟩; refine ⟨_, rfl, ?_⟩; replace HB := zq (below_step (zs1 GE259.out) hb); (try clear hb)))
  go_ret
  exact ⟨J2, by repeat (first | (with_reducible first | exact HB.out | apply below_alloc | apply pw_below_drewN | apply below_drew1 | refine below_set ?_ GE259.out) | exact HB.out)⟩
def api_Dec_66.l0 : Nat → List (S40) → Int → Int → Option (Int)
  | 0, _, _, _ => none
  | k + 1, x0, x7, x8 => if x8 < x7 then (if 0 ≤ x8 then (if x8 < (x0.length : Int) then ((tight_Numbers_1.f k ((rd_T40 x0 x8).f0) ((rd_T40 x0 x8).f1)).bind fun t262 => (if t262 = true then (some x8) else (api_Dec_66.l0 k x0 x7 (wrap64 (x8 + 1))))) else (none)) else (none)) else (some (-1))
def api_Dec_66.f (k : Nat) (l0 : List (S40)) : Option (Int) := api_Dec_66.l0 k l0 (l0.length : Int) 0
theorem api_Dec_66.mono_l : ∀ k, (∀ y0 y1 y2, LeO (api_Dec_66.l0 k y0 y1 y2) (api_Dec_66.l0 (k + 1) y0 y1 y2))
  | 0 => fun _ _ _ r h => by simp [api_Dec_66.l0] at h
  | k + 1 => by
    have ih0 := api_Dec_66.mono_l k
    · intro y0 y1 y2
      unfold api_Dec_66.l0
      have im0 := @tight_Numbers_1.mono
      exact mz3
theorem api_Dec_66.mono : ∀ a0 k, LeO (api_Dec_66.f k a0) (api_Dec_66.f (k + 1) a0) := by
  intro a0 k
  have ih0 := api_Dec_66.mono_l k
  unfold api_Dec_66.f
  have im0 := @tight_Numbers_1.mono
  exact mz3
set_option maxHeartbeats 8000000 in
set_option maxRecDepth 100000 in
theorem api_Dec_66.calls (k : Nat) (A0 : Option Addr) (c0 : Nat) (l0 : List (S40)) (r : Int) (w : World) (hr0 : Kd.C k40 w A0 l0.length l0) (hc0 : l0.length ≤ c0) (h : api_Dec_66.f k l0 = some r) :
    Calls Tryd.prog 66 #[.slice A0 l0.length c0, .func (.func 39) #[] #[]] w fun e w' => e = .returned (.int .i64 r) ∧ Below w.heap.size w w' := by
  have hu40 := Tryd.underlying40
  have HR0 := zq hr0
  have HC0 := zq hc0
  clear hr0 hc0
  have HB := zq (Below.refl w.heap.size w)
  have H : (api_Dec_66.l0 k l0 (l0.length : Int) 0) = some r := h
  clear h
  have H' := zq H
  clear H
  go_enter Tryd.func66, Tryd.ntmps66
  go_wp2
  go_loopg [8] k (fun kq v8 w' => ∃ (x8_1 : Int), v8 = .int .i64 x8_1 ∧ Aside0 (api_Dec_66.l0 kq l0 (l0.length : Int) x8_1 = some r) ∧ Aside0 (kq ≤ k) ∧ Aside0 (Below w.heap.size w w'))
  case atStart => exact ⟨(0), J4, H', ⟨Nat.le_refl _⟩, ⟨J0⟩⟩
  case round =>
    clear H'
    obtain ⟨x8_1, rfl, HA, HK1, HB⟩ := hrel
    cases gk with
    | zero => exact absurd HA.out (by simp [api_Dec_66.l0])
    | succ k1 =>
      have H := HA.out
      clear HA
      simp only [api_Dec_66.l0] at H
      by_cases c2 : x8_1 < (l0.length : Int)
      rotate_left
      · rw [if_neg c2] at H
        have c2b0 := decide_eq_false c2
        clear c2
        obtain rfl := Option.some.inj H
        go_wp2
        go_ret
        exact ⟨J2, J0⟩
      rw [if_pos c2] at H
      have c2b0 := decide_eq_true c2
      clear c2
      by_cases c3 : 0 ≤ x8_1
      rotate_left
      · rw [if_neg c3] at H
        exact absurd H J32
      rw [if_pos c3] at H
      have c3b0 := decide_eq_true c3
      clear c3
      by_cases c4 : x8_1 < (l0.length : Int)
      rotate_left
      · rw [if_neg c4] at H
        exact absurd H J32
      rw [if_pos c4] at H
      have c4b0 := decide_eq_true c4
      clear c4
      replace H := Option.bind_eq_some_iff.mp H
      obtain ⟨t262, A50, H⟩ := H
      have A5 := zq A50
      clear A50
      by_cases c6 : t262 = true
      · subst c6
        rw [if_pos rfl] at H
        obtain rfl := Option.some.inj H
        have p261 : 0 ≤ (x8_1 : Int) := of_decide_eq_true J3
        have q261 : x8_1 < (l0.length : Int) := of_decide_eq_true J3
        obtain ⟨ad261, e261, hx261_0, hx261_1⟩ := at_T40 HR0.out x8_1 p261 q261
        cases e261
        replace hx261_0 := (HB.out.cell (World.block_lt_of_cell? w _ hx261_0)).trans hx261_0
        replace hx261_1 := (HB.out.cell (World.block_lt_of_cell? w _ hx261_1)).trans hx261_1
        replace p261 := eq_true p261
        replace q261 := eq_true q261
        go_wp2_with (first | ((with_reducible refine gate_dst (N := 16) rfl ?_); refine goesLv_ (some 16) rfl rfl Tryd.func39 J8 rfl #[.agg #[.int .i64 ((rd_T40 l0 x8_1).f0), .int .i64 ((rd_T40 l0 x8_1).f1)]] (.tmp 11) rfl rfl J1 ?_; (with_reducible refine (tight_Numbers_1.calls k1 ((rd_T40 l0 x8_1).f0) ((rd_T40 l0 x8_1).f1) true _ A5.out).mono ?_); rintro e w7 ⟨rfl, hb⟩; refine ⟨_, rfl, ?_⟩; replace HB := zq (below_step J0 hb); (try clear hb)))
        go_ret
        exact ⟨J2, J0⟩
      replace c6 := Bool.eq_false_iff.mpr c6
      subst c6
      rw [if_neg (show ¬ (false = true) by decide)] at H
      have H' := zq H
      clear H
      have p261 : 0 ≤ (x8_1 : Int) := of_decide_eq_true J3
      have q261 : x8_1 < (l0.length : Int) := of_decide_eq_true J3
      obtain ⟨ad261, e261, hx261_0, hx261_1⟩ := at_T40 HR0.out x8_1 p261 q261
      cases e261
      replace hx261_0 := (HB.out.cell (World.block_lt_of_cell? w _ hx261_0)).trans hx261_0
      replace hx261_1 := (HB.out.cell (World.block_lt_of_cell? w _ hx261_1)).trans hx261_1
      replace p261 := eq_true p261
      replace q261 := eq_true q261
      go_wp2_with (first | ((with_reducible refine gate_dst (N := 16) rfl ?_); refine goesLv_ (some 16) rfl rfl Tryd.func39 J8 rfl #[.agg #[.int .i64 ((rd_T40 l0 x8_1).f0), .int .i64 ((rd_T40 l0 x8_1).f1)]] (.tmp 11) rfl rfl J1 ?_; (with_reducible refine (tight_Numbers_1.calls k1 ((rd_T40 l0 x8_1).f0) ((rd_T40 l0 x8_1).f1) false _ A5.out).mono ?_); rintro e w8 ⟨rfl, hb⟩; refine ⟨_, rfl, ?_⟩; replace HB := zq (below_step J0 hb); (try clear hb)))
      go_roundg k1
      case measure => have := HK1.out; omega
      case rel => exact ⟨(wrap64 (x8_1 + 1)), J4, H', ⟨J73⟩, ⟨J0⟩⟩
def api_Dec_41.f (k : Nat) (l0 : List (S40)) : Option (Bool) := (api_Dec_66.f k l0).bind fun t263 => (some (decide (t263 ≥ 0)))
theorem api_Dec_41.mono : ∀ a0 k, LeO (api_Dec_41.f k a0) (api_Dec_41.f (k + 1) a0) := by
  intro a0 k
  unfold api_Dec_41.f
  have im0 := @api_Dec_66.mono
  exact mz3
set_option maxHeartbeats 8000000 in
set_option maxRecDepth 100000 in
theorem api_Dec_41.calls (k : Nat) (A0 : Option Addr) (c0 : Nat) (l0 : List (S40)) (r : Bool) (w : World) (hr0 : Kd.C k40 w A0 l0.length l0) (hc0 : l0.length ≤ c0) (h : api_Dec_41.f k l0 = some r) :
    Calls Tryd.prog 41 #[.slice A0 l0.length c0, .func (.func 39) #[] #[]] w fun e w' => e = .returned (.bool r) ∧ Below w.heap.size w w' := by
  have HR0 := zq hr0
  have HC0 := zq hc0
  clear hr0 hc0
  have HB := zq (Below.refl w.heap.size w)
  have H : ((api_Dec_66.f k l0).bind fun t263 => (some (decide (t263 ≥ 0)))) = some r := h
  clear h
  replace H := Option.bind_eq_some_iff.mp H
  obtain ⟨t263, A20, H⟩ := H
  have A2 := zq A20
  clear A20
  obtain rfl := Option.some.inj H
  go_enter Tryd.func41, Tryd.ntmps41
  go_wp2_with (first | ((with_reducible refine gate_callee (f := 66) rfl ?_); refine goesL_ (some 7) rfl rfl Tryd.func66 J8 rfl #[.slice A0 l0.length c0, .func (.func 39) #[] #[]] rfl J1 ?_; (with_reducible refine (api_Dec_66.calls k _ _ l0 t263 _ ?side1 ?side2 A2.out).mono ?_); (case side1 => exact zc HR0.out); (case side2 => exact HC0.out); rintro e w3 ⟨rfl, hb⟩; refine ⟨_, rfl, ?_⟩; replace HB := zq (below_step J0 hb); (try clear hb)))
  go_ret
  exact ⟨J2, J0⟩
def slices_Clone_int_int.f (l0 : List Int) : Option (List Int) := (some (([] : List Int) : List Int)).bind fun y264 => (if y264.length + l0.length < 17592186044416 then (some (y264 ++ l0)) else (none))
set_option maxHeartbeats 8000000 in
set_option maxRecDepth 100000 in
theorem slices_Clone_int_int.calls (A0 : Option Addr) (c0 : Nat) (l0 : List Int) (r : List Int) (w : World) (hr0 : Kd.C (Kd.int .i64) w A0 l0.length l0) (hc0 : l0.length ≤ c0) (h : slices_Clone_int_int.f l0 = some r) :
    Calls Tryd.prog 42 #[.slice A0 l0.length c0] w fun e w' => ∃ v0_ : Value, e = .returned (v0_) ∧ Kd.R (Kd.int .i64) 3 w' w.heap.size (fun _ => True) v0_ r ∧ Below w.heap.size w w' := by
  cases A0 with
  | none =>
    obtain rfl : l0 = [] := by
      cases l0 with
      | nil => rfl
      | cons x_ y_ =>
        obtain ⟨ad_, c_, e_, _⟩ := Kd.C_get hr0 0 0 J26 (by rw [List.length_cons]; omega)
        exact absurd e_ J32
    have hn_ : ∀ W : World, (binOp .eql 29 (.slice none 0 c0) (.slice none 0 0)).run Tryd.prog W = .ok (.bool true) W := fun W => Lib.run_eql_slice_nil W 29 3 none _ c0 0 0 Tryd.underlying29
    rw [show ([] : List Int).length = 0 from rfl]
    go_enter Tryd.func42, Tryd.ntmps42
    go_wp2
    go_ret
    obtain rfl : r = [] := by simpa [slices_Clone_int_int.f] using h.symm
    exact ⟨_, rfl, Kd.R_nil _ _ _ _ _, Below.refl _ _⟩
  | some a0_ =>
    have hn_ : ∀ W : World, (binOp .eql 29 (.slice (some a0_) l0.length c0) (.slice none 0 0)).run Tryd.prog W = .ok (.bool false) W := fun W => Lib.run_eql_slice_nil W 29 3 (some a0_) _ c0 0 0 Tryd.underlying29
    have HR0 := zq hr0
    have HC0 := zq hc0
    clear hr0 hc0
    have HB := zq (Below.refl w.heap.size w)
    have H : ((some (([] : List Int) : List Int)).bind fun y264 => (if y264.length + l0.length < 17592186044416 then (some (y264 ++ l0)) else (none))) = some r := h
    clear h
    obtain ⟨y264, hy264⟩ : ∃ y_ : List Int, y_ = (([] : List Int)) := ⟨_, rfl⟩
    replace H : (if y264.length + l0.length < 17592186044416 then (some (y264 ++ l0)) else (none)) = some r := by first | (rw [hy264]; with_reducible exact H) | (have H2_ := (Option.bind_some _ _).symm.trans H; rw [hy264]; with_reducible exact H2_) | (have H2_ := (Option.bind_some _ _).symm.trans H; with_reducible exact H2_) | with_reducible exact H | (rw [hy264]; exact H) | exact H
    have Ny264 := zq hy264
    clear hy264
    by_cases c2 : y264.length + l0.length < 17592186044416
    · rw [if_pos c2] at H
      have LMc2 := zq c2
      clear c2
      obtain ⟨y267, hy267⟩ : ∃ y_ : List Int, y_ = (y264 ++ l0) := ⟨_, rfl⟩
      replace H : (some y267) = some r := by first | (rw [hy267]; with_reducible exact H) | (have H2_ := (Option.bind_some _ _).symm.trans H; rw [hy267]; with_reducible exact H2_) | (have H2_ := (Option.bind_some _ _).symm.trans H; with_reducible exact H2_) | with_reducible exact H | (rw [hy267]; exact H) | exact H
      have Ny267 := zq hy267
      clear hy267
      obtain rfl := Option.some.inj H
      go_enter Tryd.func42, Tryd.ntmps42
      go_wp2_with (first | ((with_reducible refine gate_dst (N := 5) rfl ?_); refine lwR (Kd.int .i64) 3 5 (xs := ([] : List Int)) [] Ny264 (Reps.none _ _) ?_; intro v265 w3 ho4 hb; have HO266 := zq (Kd.R_lower ho4 (below_size J0)); replace HB := zq (below_step J0 hb); clear hb ho4) | ((with_reducible refine gate_builtin (b := .append) (xs := #[.tmp 5, .tmp 6]) rfl ?_); at_builtin; refine Kd.R_append_rows (Kd.int .i64) (w0 := w) w.heap.size rfl (.tmp 5) (.tmp 6) 29 3 (.int .i64 0) 8 rfl Tryd.underlying29 info3 rfl J18 J26 v265 y264 l0 _ _ _ (fun _ => True) (fun _ => False) rfl rfl ?aO ?aR (fun _ _ h => h) (fun _ h => h.elim) ?aF ?aB ?aS ?aL ?_; (case aR => repeat (first | exact (Kd.C_below HR0.out HB.out) | (with_reducible refine Kd.C_alloc ?_ _) | (with_reducible refine Kd.C_drewN ?_ _) | (with_reducible refine Kd.C_drew ?_))); (case aB => exact J0); (case aF => exact (fun _ _ => trivial)); (case aO => exact (zr HO266.out)); (case aS => exact (below_size J0)); (case aL => have := LMc2.out; omega); intro v268 w5 ho hb hg hat; rw [← Ny267.out] at ho; replace HB := zq (hb); have HO269 := zq (ho); clear HO266; clear ho hb hg hat))
      go_ret
      exact ⟨_, J2, by (with_reducible repeat (first | apply Kd.R_alloc | apply Kd.R_drewN | apply Kd.R_drew)); exact HO269.out, J0⟩
    · rw [if_neg c2] at H
      exact absurd H J32
mutual
def decimal_Whole.j0 : Nat → Bool → Int → Int → Option (Int × Bool)
  | 0, _, _, _ => none
  | k + 1, x17, x271000, x271001 => if x17 = true then (some (0, false)) else (decimal_Whole.l0 k x271000 x271001 0)
def decimal_Whole.l0 : Nat → Int → Int → Int → Option (Int × Bool)
  | 0, _, _, _ => none
  | k + 1, x4, x21, x22 => if x22 < x21 then (if (wrap64 (Int.tdiv (wrap64 (x4 * 10)) 10)) = x4 then (decimal_Whole.l0 k (wrap64 (x4 * 10)) x21 (wrap64 (x22 + 1))) else (some (0, false))) else (some (x4, true))
end
def decimal_Whole.f (k : Nat) (a0_0 : Int) (a0_1 : Int) : Option (Int × Bool) := (decimal_Right.f k a0_0 a0_1).bind fun t271 => (if t271 = true then (if a0_1 < 0 then (decimal_Whole.j0 k true a0_0 a0_1) else (decimal_Whole.j0 k (decide (a0_1 > 18)) a0_0 a0_1)) else (decimal_Whole.j0 k true a0_0 a0_1))
theorem decimal_Whole.mono_l : ∀ k, (∀ y0 y1 y2, LeO (decimal_Whole.j0 k y0 y1 y2) (decimal_Whole.j0 (k + 1) y0 y1 y2)) ∧ (∀ y0 y1 y2, LeO (decimal_Whole.l0 k y0 y1 y2) (decimal_Whole.l0 (k + 1) y0 y1 y2))
  | 0 => ⟨fun _ _ _ r h => by simp [decimal_Whole.j0] at h, fun _ _ _ r h => by simp [decimal_Whole.l0] at h⟩
  | k + 1 => by
    obtain ⟨ih0, ih1⟩ := decimal_Whole.mono_l k
    refine ⟨?_, ?_⟩
    · intro y0 y1 y2
      unfold decimal_Whole.j0
      have im0 := @decimal_Right.mono
      exact mz3
    · intro y0 y1 y2
      unfold decimal_Whole.l0
      have im0 := @decimal_Right.mono
      exact mz3
theorem decimal_Whole.mono : ∀ a0 a1 k, LeO (decimal_Whole.f k a0 a1) (decimal_Whole.f (k + 1) a0 a1) := by
  intro a0 a1 k
  obtain ⟨ih0, ih1⟩ := decimal_Whole.mono_l k
  unfold decimal_Whole.f
  have im0 := @decimal_Right.mono
  exact mz3
set_option maxHeartbeats 8000000 in
set_option maxRecDepth 100000 in
theorem decimal_Whole.calls (k : Nat) (a0_0 : Int) (a0_1 : Int) (r1 : Int) (r2 : Bool) (w : World) (h : decimal_Whole.f k a0_0 a0_1 = some (r1, r2)) :
    Calls Tryd.prog 31 #[.agg #[.int .i64 a0_0, .int .i64 a0_1]] w fun e w' => e = .returned (.tuple #[.int .i64 r1, .bool r2]) ∧ Below w.heap.size w w' := by
  have hu40 := Tryd.underlying40
  have HB := zq (Below.refl w.heap.size w)
  have H : ((decimal_Right.f k a0_0 a0_1).bind fun t271 => (if t271 = true then (if a0_1 < 0 then (decimal_Whole.j0 k true a0_0 a0_1) else (decimal_Whole.j0 k (decide (a0_1 > 18)) a0_0 a0_1)) else (decimal_Whole.j0 k true a0_0 a0_1))) = some (r1, r2) := h
  clear h
  have HC2 := zq H
  clear H
  go_enter Tryd.func31, Tryd.ntmps31
  go_upto_region 1 with (first | ((with_reducible refine gate_dst (N := 1) rfl ?_); refine bxw 1 40 #[.int .i64 a0_0, .int .i64 a0_1] ?_; intro gb270 hg w3 hbox hb; have BK270 := zq (hbox); have GE270 := zq ((J12 : w.heap.size ≤ gb270)); replace HB := zq (below_step J0 hb); clear hb hbox hg))
  (try simp only [Act.put, List.setIfInBounds_toArray, List.set_cons_zero, List.set_cons_succ])
  go_cut [17] (fun v17 wc => ∃ (kq : Nat) (x17_1 : Bool), v17 = .bool x17_1 ∧ Aside0 (decimal_Whole.j0 kq x17_1 a0_0 a0_1 = some (r1, r2)) ∧ Aside0 (kq ≤ k) ∧ Aside0 (wc.heap[gb270]? = some (.cells #[.int .i64 a0_0, .int .i64 a0_1] 40 (0, 0))) ∧ Aside0 (Below w.heap.size w wc))
  case first =>
    have H := HC2.out
    clear HC2
    replace H := Option.bind_eq_some_iff.mp H
    obtain ⟨t271, A40, H⟩ := H
    have A4 := zq A40
    clear A40
    by_cases c5 : t271 = true
    rotate_left
    · replace c5 := Bool.eq_false_iff.mpr c5
      subst c5
      rw [if_neg (show ¬ (false = true) by decide)] at H
      have H' := zq H
      clear H
      obtain ⟨hcz13_0, hcz13_1, hfz13_0, hfz13_1⟩ := cz2 BK270.out
      go_wp2_with (first | ((with_reducible refine gate_callee (f := 28) rfl ?_); refine goesL_ (some 6) rfl rfl Tryd.func28 J8 rfl #[.agg #[.int .i64 a0_0, .int .i64 a0_1]] rfl J1 ?_; (with_reducible refine (decimal_Right.calls k a0_0 a0_1 false _ A4.out).mono ?_); rintro e w14 ⟨rfl, hb⟩; refine ⟨_, rfl, ?_⟩; replace BK270 := zq (blk_below (g := gb270) (o := .cells #[.int .i64 a0_0, .int .i64 a0_1] 40 (0, 0)) (zk BK270.out) hb); replace HB := zq (below_step (zs1 GE270.out) hb); (try clear hb)))
      go_meet
      case rel => exact ⟨_, (true), J4, H', ⟨J33⟩, ⟨J66⟩, ⟨J25⟩⟩
    subst c5
    rw [if_pos rfl] at H
    by_cases c6 : a0_1 < 0
    rotate_left
    · rw [if_neg c6] at H
      have c6b0 := decide_eq_false c6
      clear c6
      (first | rw [c6b0] | (simp only [i64_w, i32_w]; rw [c6b0]) | skip)
      have H' := zq H
      clear H
      obtain ⟨hcz10_0, hcz10_1, hfz10_0, hfz10_1⟩ := cz2 BK270.out
      go_wp2_with (first | ((with_reducible refine gate_callee (f := 28) rfl ?_); refine goesL_ (some 6) rfl rfl Tryd.func28 J8 rfl #[.agg #[.int .i64 a0_0, .int .i64 a0_1]] rfl J1 ?_; (with_reducible refine (decimal_Right.calls k a0_0 a0_1 true _ A4.out).mono ?_); rintro e w11 ⟨rfl, hb⟩; refine ⟨_, rfl, ?_⟩; replace BK270 := zq (blk_below (g := gb270) (o := .cells #[.int .i64 a0_0, .int .i64 a0_1] 40 (0, 0)) (zk BK270.out) hb); replace HB := zq (below_step (zs1 GE270.out) hb); (try clear hb); obtain ⟨hcz12_0, hcz12_1, hfz12_0, hfz12_1⟩ := cz2 BK270.out))
      go_meet
      case rel => exact ⟨_, (decide (a0_1 > 18)), J4, H', ⟨J33⟩, ⟨J66⟩, ⟨J25⟩⟩
    rw [if_pos c6] at H
    have c6b0 := decide_eq_true c6
    clear c6
    (first | rw [c6b0] | (simp only [i64_w, i32_w]; rw [c6b0]) | skip)
    have H' := zq H
    clear H
    obtain ⟨hcz7_0, hcz7_1, hfz7_0, hfz7_1⟩ := cz2 BK270.out
    go_wp2_with (first | ((with_reducible refine gate_callee (f := 28) rfl ?_); refine goesL_ (some 6) rfl rfl Tryd.func28 J8 rfl #[.agg #[.int .i64 a0_0, .int .i64 a0_1]] rfl J1 ?_; (with_reducible refine (decimal_Right.calls k a0_0 a0_1 true _ A4.out).mono ?_); rintro e w8 ⟨rfl, hb⟩; refine ⟨_, rfl, ?_⟩; replace BK270 := zq (blk_below (g := gb270) (o := .cells #[.int .i64 a0_0, .int .i64 a0_1] 40 (0, 0)) (zk BK270.out) hb); replace HB := zq (below_step (zs1 GE270.out) hb); (try clear hb); obtain ⟨hcz9_0, hcz9_1, hfz9_0, hfz9_1⟩ := cz2 BK270.out))
    go_meet
    case rel => exact ⟨_, (true), J4, H', ⟨J33⟩, ⟨J66⟩, ⟨J25⟩⟩
  case rest =>
    clear HC2
    try clear c2
    try clear p2
    try clear c3
    try clear c5
    try clear c6
    try clear c6b0
    try clear hcz10_0
    try clear hcz10_1
    try clear hcz12_0
    try clear hcz12_1
    try clear hcz13_0
    try clear hcz13_1
    try clear hcz7_0
    try clear hcz7_1
    try clear hcz9_0
    try clear hcz9_1
    try clear hfz10_0
    try clear hfz10_1
    try clear hfz12_0
    try clear hfz12_1
    try clear hfz13_0
    try clear hfz13_1
    try clear hfz7_0
    try clear hfz7_1
    try clear hfz9_0
    try clear hfz9_1
    obtain ⟨kq, x17_1, rfl, HA, HJ1, BK270, HB⟩ := hcut
    cases kq with
    | zero => exact absurd HA.out (by simp [decimal_Whole.j0])
    | succ kj1 =>
      have H := HA.out
      clear HA
      simp only [decimal_Whole.j0] at H
      by_cases c15 : x17_1 = true
      · subst c15
        rw [if_pos rfl] at H
        simp only [Option.some.injEq, Prod.mk.injEq] at H
        obtain ⟨rfl, rfl⟩ := H
        go_wp2
        go_ret2
        exact ⟨J2, J25⟩
      replace c15 := Bool.eq_false_iff.mpr c15
      subst c15
      rw [if_neg (show ¬ (false = true) by decide)] at H
      have H' := zq H
      clear H
      obtain ⟨hcz16_0, hcz16_1, hfz16_0, hfz16_1⟩ := cz2 BK270.out
      go_wp2
      go_loopg [4, 22] kj1 (fun kq v4 v22 w' => ∃ (x4_2 : Int) (x22_2 : Int), v4 = .int .i64 x4_2 ∧ v22 = .int .i64 x22_2 ∧ Aside0 (decimal_Whole.l0 kq x4_2 a0_1 x22_2 = some (r1, r2)) ∧ Aside0 (kq ≤ kj1) ∧ Aside0 (w'.heap[gb270]? = some (.cells #[.int .i64 a0_0, .int .i64 a0_1] 40 (0, 0))) ∧ Aside0 (Below w.heap.size w w'))
      case atStart => exact ⟨(a0_0), (0), J4, J4, H', ⟨Nat.le_refl _⟩, ⟨J66⟩, ⟨J25⟩⟩
      case round =>
        clear H'
        try clear c1
        try clear c2
        try clear p2
        try clear c3
        try clear c5
        try clear c6
        try clear c6b0
        try clear c15
        try clear hcz10_0
        try clear hcz10_1
        try clear hcz12_0
        try clear hcz12_1
        try clear hcz13_0
        try clear hcz13_1
        try clear hcz16_0
        try clear hcz16_1
        try clear hcz7_0
        try clear hcz7_1
        try clear hcz9_0
        try clear hcz9_1
        try clear hfz10_0
        try clear hfz10_1
        try clear hfz12_0
        try clear hfz12_1
        try clear hfz13_0
        try clear hfz13_1
        try clear hfz16_0
        try clear hfz16_1
        try clear hfz7_0
        try clear hfz7_1
        try clear hfz9_0
        try clear hfz9_1
        try clear p2
        obtain ⟨x4_2, x22_2, rfl, rfl, HA, HK2, BK270, HB⟩ := hrel
        cases gk with
        | zero => exact absurd HA.out (by simp [decimal_Whole.l0])
        | succ k2 =>
          have H := HA.out
          clear HA
          simp only [decimal_Whole.l0] at H
          by_cases c17 : x22_2 < a0_1
          rotate_left
          · rw [if_neg c17] at H
            have c17b0 := decide_eq_false c17
            clear c17
            simp only [Option.some.injEq, Prod.mk.injEq] at H
            obtain ⟨rfl, rfl⟩ := H
            go_wp2
            go_ret2
            exact ⟨J2, J25⟩
          rw [if_pos c17] at H
          have c17b0 := decide_eq_true c17
          clear c17
          by_cases c18 : (wrap64 (Int.tdiv (wrap64 (x4_2 * 10)) 10)) = x4_2
          rotate_left
          · rw [if_neg c18] at H
            have c18b0 : ((wrap64 (Int.tdiv (wrap64 (x4_2 * 10)) 10)) == x4_2) = false := beq_eq_false_iff_ne.mpr c18
            have c18b1 : ((wrap64 (Int.tdiv (wrap64 (x4_2 * 10)) 10)) != x4_2) = true := bne_iff_ne.mpr c18
            simp only [Option.some.injEq, Prod.mk.injEq] at H
            obtain ⟨rfl, rfl⟩ := H
            go_wp2
            go_ret2
            exact ⟨J2, J25⟩
          rw [if_pos c18] at H
          have c18b0 : ((wrap64 (Int.tdiv (wrap64 (x4_2 * 10)) 10)) == x4_2) = true := beq_iff_eq.mpr c18
          have c18b1 : ((wrap64 (Int.tdiv (wrap64 (x4_2 * 10)) 10)) != x4_2) = false := bne_eq_false_iff_eq.mpr c18
          clear c18
          have H' := zq H
          clear H
          go_wp2
          go_roundg k2
          case measure => have := HJ1.out; have := HK2.out; omega
          case rel => exact ⟨(wrap64 (x4_2 * 10)), (wrap64 (x22_2 + 1)), J4, J4, H', ⟨by have := HJ1.out; have := HK2.out; omega⟩, ⟨J66⟩, ⟨J25⟩⟩
def tight_whole.l0 : Nat → List Int → List (S40) → Int → Int → Option (List Int × Bool)
  | 0, _, _, _, _ => none
  | k + 1, x4, x9, x10, x11 => if x11 < x10 then (if 0 ≤ x11 then (if x11 < (x9.length : Int) then ((decimal_Whole.f k ((rd_T40 x9 x11).f0) ((rd_T40 x9 x11).f1)).bind fun bt274 => (if bt274.2 = true then (if x4.length < 17592186044416 then (tight_whole.l0 k (x4 ++ [bt274.1]) x9 x10 (wrap64 (x11 + 1))) else (none)) else (some (([] : List Int), false)))) else (none)) else (none)) else (some (x4, true))
def tight_whole.f (k : Nat) (l0 : List (S40)) : Option (List Int × Bool) := tight_whole.l0 k ([] : List Int) l0 (l0.length : Int) 0
theorem tight_whole.mono_l : ∀ k, (∀ y0 y1 y2 y3, LeO (tight_whole.l0 k y0 y1 y2 y3) (tight_whole.l0 (k + 1) y0 y1 y2 y3))
  | 0 => fun _ _ _ _ r h => by simp [tight_whole.l0] at h
  | k + 1 => by
    have ih0 := tight_whole.mono_l k
    · intro y0 y1 y2 y3
      unfold tight_whole.l0
      have im0 := @decimal_Whole.mono
      exact mz3
theorem tight_whole.mono : ∀ a0 k, LeO (tight_whole.f k a0) (tight_whole.f (k + 1) a0) := by
  intro a0 k
  have ih0 := tight_whole.mono_l k
  unfold tight_whole.f
  have im0 := @decimal_Whole.mono
  exact mz3
set_option maxHeartbeats 8000000 in
set_option maxRecDepth 100000 in
theorem tight_whole.calls (k : Nat) (A0 : Option Addr) (c0 : Nat) (l0 : List (S40)) (r1 : List Int) (r2 : Bool) (w : World) (hr0 : Kd.C k40 w A0 l0.length l0) (hc0 : l0.length ≤ c0) (h : tight_whole.f k l0 = some (r1, r2)) :
    Calls Tryd.prog 43 #[.slice A0 l0.length c0] w fun e w' => ∃ v0_ : Value, e = .returned (.tuple #[v0_, .bool r2]) ∧ Kd.R (Kd.int .i64) 3 w' w.heap.size (fun _ => True) v0_ r1 ∧ Below w.heap.size w w' := by
  have hu40 := Tryd.underlying40
  have HR0 := zq hr0
  have HC0 := zq hc0
  clear hr0 hc0
  have HB := zq (Below.refl w.heap.size w)
  have H : (tight_whole.l0 k ([] : List Int) l0 (l0.length : Int) 0) = some (r1, r2) := h
  clear h
  have H' := zq H
  clear H
  go_enter Tryd.func43, Tryd.ntmps43
  go_wp2
  go_loopg [4, 11] k (fun kq v4 v11 w' => ∃ (x4_1 : List Int) (x11_1 : Int), v11 = .int .i64 x11_1 ∧ Aside0 (tight_whole.l0 kq x4_1 l0 (l0.length : Int) x11_1 = some (r1, r2)) ∧ Aside0 (kq ≤ k) ∧ Aside0 (Kd.R (Kd.int .i64) 3 w' w.heap.size (fun _ => True) v4 x4_1) ∧ Aside0 (Below w.heap.size w w'))
  case atStart => exact ⟨(([] : List Int)), (0), J4, H', ⟨Nat.le_refl _⟩, ⟨J9⟩, ⟨J0⟩⟩
  case round =>
    clear H'
    obtain ⟨x4_1, x11_1, rfl, HA, HK1, HO_4, HB⟩ := hrel
    cases gk with
    | zero => exact absurd HA.out (by simp [tight_whole.l0])
    | succ k1 =>
      have H := HA.out
      clear HA
      simp only [tight_whole.l0] at H
      by_cases c2 : x11_1 < (l0.length : Int)
      rotate_left
      · rw [if_neg c2] at H
        have c2b0 := decide_eq_false c2
        clear c2
        simp only [Option.some.injEq, Prod.mk.injEq] at H
        obtain ⟨rfl, rfl⟩ := H
        go_wp2
        go_ret2
        exact ⟨_, J2, by (with_reducible repeat (first | apply Kd.R_alloc | apply Kd.R_drewN | apply Kd.R_drew)); exact HO_4.out, J0⟩
      rw [if_pos c2] at H
      have c2b0 := decide_eq_true c2
      clear c2
      by_cases c3 : 0 ≤ x11_1
      rotate_left
      · rw [if_neg c3] at H
        exact absurd H J32
      rw [if_pos c3] at H
      have c3b0 := decide_eq_true c3
      clear c3
      by_cases c4 : x11_1 < (l0.length : Int)
      rotate_left
      · rw [if_neg c4] at H
        exact absurd H J32
      rw [if_pos c4] at H
      have c4b0 := decide_eq_true c4
      clear c4
      replace H := Option.bind_eq_some_iff.mp H
      obtain ⟨⟨t274, t275⟩, A50, H⟩ := H
      dsimp only at H
      have A5 := zq A50
      clear A50
      by_cases c6 : t275 = true
      rotate_left
      · replace c6 := Bool.eq_false_iff.mpr c6
        subst c6
        rw [if_neg (show ¬ (false = true) by decide)] at H
        simp only [Option.some.injEq, Prod.mk.injEq] at H
        obtain ⟨rfl, rfl⟩ := H
        have p272 : 0 ≤ (x11_1 : Int) := of_decide_eq_true J3
        have q272 : x11_1 < (l0.length : Int) := of_decide_eq_true J3
        obtain ⟨ad272, e272, hx272_0, hx272_1⟩ := at_T40 HR0.out x11_1 p272 q272
        cases e272
        replace hx272_0 := (HB.out.cell (World.block_lt_of_cell? w _ hx272_0)).trans hx272_0
        replace hx272_1 := (HB.out.cell (World.block_lt_of_cell? w _ hx272_1)).trans hx272_1
        replace p272 := eq_true p272
        replace q272 := eq_true q272
        go_wp2_with (first | ((with_reducible refine gate_dst (N := 6) rfl ?_); refine bxw 6 40 #[.int .i64 0, .int .i64 0] ?_; intro gb273 hg w12 hbox hb; replace HO_4 := zq (Kd.R_below (zr HO_4.out) hb); have BK273 := zq (hbox); have GE273 := zq ((J12 : w.heap.size ≤ gb273)); replace HB := zq (below_step J0 hb); clear hb hbox hg; obtain ⟨hcz13_0, hcz13_1, hfz13_0, hfz13_1⟩ := cz2 BK273.out) | ((with_reducible refine gate_callee (f := 31) rfl ?_); refine goesL_ (some 17) rfl rfl Tryd.func31 J8 rfl #[.agg #[.int .i64 ((rd_T40 l0 x11_1).f0), .int .i64 ((rd_T40 l0 x11_1).f1)]] rfl J1 ?_; (with_reducible refine (decimal_Whole.calls k1 ((rd_T40 l0 x11_1).f0) ((rd_T40 l0 x11_1).f1) t274 false _ A5.out).mono ?_); rintro e w14 ⟨rfl, hb⟩; refine ⟨_, rfl, ?_⟩; replace HO_4 := zq (Kd.R_below J74 hb); replace HB := zq (below_step (zs1 GE273.out) hb); (try clear hb); (try clear hk)))
        go_ret2
        exact ⟨_, J2, J9, J113⟩
      subst c6
      rw [if_pos rfl] at H
      by_cases c7 : x4_1.length < 17592186044416
      rotate_left
      · rw [if_neg c7] at H
        exact absurd H J32
      rw [if_pos c7] at H
      have LMc7 := zq c7
      clear c7
      obtain ⟨y276, hy276⟩ : ∃ y_ : List Int, y_ = (x4_1 ++ [t274]) := ⟨_, rfl⟩
      replace H : (tight_whole.l0 k1 y276 l0 (l0.length : Int) (wrap64 (x11_1 + 1))) = some (r1, r2) := by first | (rw [hy276]; with_reducible exact H) | (have H2_ := (Option.bind_some _ _).symm.trans H; rw [hy276]; with_reducible exact H2_) | (have H2_ := (Option.bind_some _ _).symm.trans H; with_reducible exact H2_) | with_reducible exact H | (rw [hy276]; exact H) | exact H
      have Ny276 := zq hy276
      clear hy276
      have H' := zq H
      clear H
      have p272 : 0 ≤ (x11_1 : Int) := of_decide_eq_true J3
      have q272 : x11_1 < (l0.length : Int) := of_decide_eq_true J3
      obtain ⟨ad272, e272, hx272_0, hx272_1⟩ := at_T40 HR0.out x11_1 p272 q272
      cases e272
      replace hx272_0 := (HB.out.cell (World.block_lt_of_cell? w _ hx272_0)).trans hx272_0
      replace hx272_1 := (HB.out.cell (World.block_lt_of_cell? w _ hx272_1)).trans hx272_1
      replace p272 := eq_true p272
      replace q272 := eq_true q272
      go_wp2_with (first | ((with_reducible refine gate_dst (N := 6) rfl ?_); refine bxw 6 40 #[.int .i64 0, .int .i64 0] ?_; intro gb273 hg w8 hbox hb; replace HO_4 := zq (Kd.R_below (zr HO_4.out) hb); have BK273 := zq (hbox); have GE273 := zq ((J12 : w.heap.size ≤ gb273)); replace HB := zq (below_step J0 hb); clear hb hbox hg; obtain ⟨hcz9_0, hcz9_1, hfz9_0, hfz9_1⟩ := cz2 BK273.out) | ((with_reducible refine gate_callee (f := 31) rfl ?_); refine goesL_ (some 17) rfl rfl Tryd.func31 J8 rfl #[.agg #[.int .i64 ((rd_T40 l0 x11_1).f0), .int .i64 ((rd_T40 l0 x11_1).f1)]] rfl J1 ?_; (with_reducible refine (decimal_Whole.calls k1 ((rd_T40 l0 x11_1).f0) ((rd_T40 l0 x11_1).f1) t274 true _ A5.out).mono ?_); rintro e w10 ⟨rfl, hb⟩; refine ⟨_, rfl, ?_⟩; replace HO_4 := zq (Kd.R_below J74 hb); replace BK273 := zq (blk_below (g := gb273) (o := .cells #[.int .i64 ((rd_T40 l0 x11_1).f0), .int .i64 ((rd_T40 l0 x11_1).f1)] 40 (0, 0)) (by (with_reducible repeat (first | refine blk_drewN ?_ _ | refine blk_drew ?_ | refine blk_alloc ?_ _)); refine blk_put (cs := #[.int .i64 ((rd_T40 l0 x11_1).f0), .int .i64 0]) ?_ 1 _ rfl; (with_reducible repeat (first | refine blk_drewN ?_ _ | refine blk_drew ?_ | refine blk_alloc ?_ _)); refine blk_put (cs := #[.int .i64 0, .int .i64 0]) ?_ 0 _ rfl; (with_reducible repeat (first | refine blk_drewN ?_ _ | refine blk_drew ?_ | refine blk_alloc ?_ _)); exact BK273.out) hb); replace HB := zq (below_step (zs1 GE273.out) hb); (try clear hb); (try clear hk)) | ((with_reducible refine gate_builtin (b := .append) (xs := #[.tmp 22, .tmp 24]) rfl ?_); at_builtin; refine Kd.R_append (Kd.int .i64) (w0 := w) w.heap.size rfl (.tmp 22) (.tmp 24) 29 3 (.int .i64 0) 8 rfl Tryd.underlying29 info3 rfl J18 J26 u4 x4_1 t274 [.int .i64 t274] (fun _ => True) (fun _ => False) rfl rfl ?aP (fun _ hk => hk.elim) ?aF ?aO ?aB ?aS ?aL ?_; (case aP => exact rfl); (case aB => exact (zs1 GE273.out)); (case aF => exact (fun _ _ => trivial)); (case aO => exact (zr HO_4.out)); (case aS => exact (below_size (zs1 GE273.out))); (case aL => have := LMc7.out; omega); intro v277 w11 ho hb hg hat; rw [← Ny276.out] at ho; replace BK273 := zq (blk_grown (g := gb273) (o := .cells #[.int .i64 ((rd_T40 l0 x11_1).f0), .int .i64 ((rd_T40 l0 x11_1).f1)] 40 (0, 0)) (zk BK273.out) hg (Kd.R_ne HO_4.out BK273.out J18)); replace HB := zq (hb); have HO278 := zq (ho); clear HO_4; clear ho hb hg hat))
      go_roundg k1
      case measure => have := HK1.out; omega
      case rel => exact ⟨(y276), (wrap64 (x11_1 + 1)), J4, H', ⟨J73⟩, ⟨by (with_reducible repeat (first | apply Kd.R_alloc | apply Kd.R_drewN | apply Kd.R_drew)); exact HO278.out⟩, ⟨J113⟩⟩
def tight_Numbers_2.f (a0 : Int) : Option (Bool) := some ((Go.bits .andNot .i64 a0 1) != 0)
set_option maxHeartbeats 8000000 in
set_option maxRecDepth 100000 in
theorem tight_Numbers_2.calls (a0 : Int) (r : Bool) (w : World) (h : tight_Numbers_2.f a0 = some r) :
    Calls Tryd.prog 44 #[.int .i64 a0] w fun e w' => e = .returned (.bool r) ∧ Drawn0 w w' := by
  have H : (some ((Go.bits .andNot .i64 a0 1) != 0)) = some r := h
  clear h
  obtain rfl := Option.some.inj H
  go_enter Tryd.func44, Tryd.ntmps44
  go_wp2
  go_ret
  exact ⟨J4, J7⟩
def api_Dec_45.f (l0 : List (S40)) : Option ((List (S40))) := (some (([] : List (S40)) : List (S40))).bind fun y279 => (if y279.length + l0.length < 8796093022208 then (some (y279 ++ l0)) else (none))
set_option maxHeartbeats 8000000 in
set_option maxRecDepth 100000 in
theorem api_Dec_45.calls (A0 : Option Addr) (c0 : Nat) (l0 : List (S40)) (r : List (S40)) (w : World) (hr0 : Kd.C k40 w A0 l0.length l0) (hc0 : l0.length ≤ c0) (h : api_Dec_45.f l0 = some r) :
    Calls Tryd.prog 45 #[.slice A0 l0.length c0] w fun e w' => ∃ v0_ : Value, e = .returned (v0_) ∧ Kd.R k40 40 w' w.heap.size (fun _ => True) v0_ r ∧ Below w.heap.size w w' := by
  cases A0 with
  | none =>
    obtain rfl : l0 = [] := by
      cases l0 with
      | nil => rfl
      | cons x_ y_ =>
        obtain ⟨ad_, c_, e_, _⟩ := Kd.C_get hr0 z40 0 J26 (by rw [List.length_cons]; omega)
        exact absurd e_ J32
    have hn_ : ∀ W : World, (binOp .eql 30 (.slice none 0 c0) (.slice none 0 0)).run Tryd.prog W = .ok (.bool true) W := fun W => Lib.run_eql_slice_nil W 30 40 none _ c0 0 0 Tryd.underlying30
    rw [show ([] : List (S40)).length = 0 from rfl]
    go_enter Tryd.func45, Tryd.ntmps45
    go_wp2
    go_ret
    obtain rfl : r = [] := by simpa [api_Dec_45.f] using h.symm
    exact ⟨_, rfl, Kd.R_nil _ _ _ _ _, Below.refl _ _⟩
  | some a0_ =>
    have hn_ : ∀ W : World, (binOp .eql 30 (.slice (some a0_) l0.length c0) (.slice none 0 0)).run Tryd.prog W = .ok (.bool false) W := fun W => Lib.run_eql_slice_nil W 30 40 (some a0_) _ c0 0 0 Tryd.underlying30
    have HR0 := zq hr0
    have HC0 := zq hc0
    clear hr0 hc0
    have HB := zq (Below.refl w.heap.size w)
    have H : ((some (([] : List (S40)) : List (S40))).bind fun y279 => (if y279.length + l0.length < 8796093022208 then (some (y279 ++ l0)) else (none))) = some r := h
    clear h
    obtain ⟨y279, hy279⟩ : ∃ y_ : List (S40), y_ = (([] : List (S40))) := ⟨_, rfl⟩
    replace H : (if y279.length + l0.length < 8796093022208 then (some (y279 ++ l0)) else (none)) = some r := by first | (rw [hy279]; with_reducible exact H) | (have H2_ := (Option.bind_some _ _).symm.trans H; rw [hy279]; with_reducible exact H2_) | (have H2_ := (Option.bind_some _ _).symm.trans H; with_reducible exact H2_) | with_reducible exact H | (rw [hy279]; exact H) | exact H
    have Ny279 := zq hy279
    clear hy279
    by_cases c2 : y279.length + l0.length < 8796093022208
    · rw [if_pos c2] at H
      have LMc2 := zq c2
      clear c2
      obtain ⟨y282, hy282⟩ : ∃ y_ : List (S40), y_ = (y279 ++ l0) := ⟨_, rfl⟩
      replace H : (some y282) = some r := by first | (rw [hy282]; with_reducible exact H) | (have H2_ := (Option.bind_some _ _).symm.trans H; rw [hy282]; with_reducible exact H2_) | (have H2_ := (Option.bind_some _ _).symm.trans H; with_reducible exact H2_) | with_reducible exact H | (rw [hy282]; exact H) | exact H
      have Ny282 := zq hy282
      clear hy282
      obtain rfl := Option.some.inj H
      go_enter Tryd.func45, Tryd.ntmps45
      go_wp2_with (first | ((with_reducible refine gate_dst (N := 5) rfl ?_); refine lwR k40 40 5 (xs := ([] : List (S40))) [] Ny279 (Reps.none _ _) ?_; intro v280 w3 ho4 hb; have HO281 := zq (Kd.R_lower ho4 (below_size J0)); replace HB := zq (below_step J0 hb); clear hb ho4) | ((with_reducible refine gate_builtin (b := .append) (xs := #[.tmp 5, .tmp 6]) rfl ?_); at_builtin; refine Kd.R_append_rows k40 (w0 := w) w.heap.size rfl (.tmp 5) (.tmp 6) 30 40 (.agg #[(.int .i64 0), (.int .i64 0)]) 16 rfl Tryd.underlying30 info40 rfl J18 J26 v280 y279 l0 _ _ _ (fun _ => True) (fun _ => False) rfl rfl ?aO ?aR (fun _ _ h => h) (fun _ h => h.elim) ?aF ?aB ?aS ?aL ?_; (case aR => repeat (first | exact (Kd.C_below HR0.out HB.out) | (with_reducible refine Kd.C_alloc ?_ _) | (with_reducible refine Kd.C_drewN ?_ _) | (with_reducible refine Kd.C_drew ?_))); (case aB => exact J0); (case aF => exact (fun _ _ => trivial)); (case aO => exact (zr HO281.out)); (case aS => exact (below_size J0)); (case aL => have := LMc2.out; omega); intro v283 w5 ho hb hg hat; rw [← Ny282.out] at ho; replace HB := zq (hb); have HO284 := zq (ho); clear HO281; clear ho hb hg hat))
      go_ret
      exact ⟨_, J2, by (with_reducible repeat (first | apply Kd.R_alloc | apply Kd.R_drewN | apply Kd.R_drew)); exact HO284.out, J0⟩
    · rw [if_neg c2] at H
      exact absurd H J32
end Go.Proofs.YtfjhiiaahbjaiaaDoor.HSystemSigns
