/- What the Go functions of this claim answer, told as functions of numbers and lists, and that other memory stays as it was: words and walks, shortened by a program. -/
import Derived.Test.YtecdklheppcihaaSTightShapex0
import Derived.Test.YtecdklheppcihaaSTightShapex2
import Derived.Test.YtecdklheppcihaaSTightShapex5
namespace Go.Proofs.Ytecdklheppcihaa.HTightNumbers
open Go.RowKit Go.Proofs.YtecdklheppcihaaW.PrintWords Go.Proofs.YtecdklheppcihaaW.PrintLast Go.Proofs.YtecdklheppcihaaW.PrintMore
attribute [local go_sem] max2_int min2_int max_two min_two max_three min_three max_four min_four
set_option linter.unusedVariables false
set_option linter.unusedSimpArgs false
def array_Take.f (k : Nat) (l0 : List (S30)) : Option (Int) := (array_walk.f k l0).bind fun bt143 => (some bt143.1)
theorem array_Take.mono : ∀ a0 k, LeO (array_Take.f k a0) (array_Take.f (k + 1) a0) := by
  intro a0 k
  unfold array_Take.f
  have im0 := @array_walk.mono
  exact mz3
set_option maxHeartbeats 8000000 in
set_option maxRecDepth 100000 in
theorem array_Take.calls (k : Nat) (A0 : Option Addr) (c0 : Nat) (l0 : List (S30)) (r : Int) (w : World) (hr0 : Kd.C k30 w A0 l0.length l0) (hc0 : l0.length ≤ c0) (h : array_Take.f k l0 = some r) :
    Calls Try.prog 47 #[.slice A0 l0.length c0] w fun e w' => e = .returned (.int .i64 r) ∧ Below w.heap.size w w' := by
  have HR0 := zq hr0
  have HC0 := zq hc0
  clear hr0 hc0
  have HB := zq (Below.refl w.heap.size w)
  have H : ((array_walk.f k l0).bind fun bt143 => (some bt143.1)) = some r := h
  clear h
  replace H := Option.bind_eq_some_iff.mp H
  obtain ⟨⟨t143, t144, t145⟩, A20, H⟩ := H
  replace H : (some t143) = some r := H
  have A2 := zq A20
  clear A20
  obtain rfl := Option.some.inj H
  go_enter Try.func47, Try.ntmps47
  go_wp2_with (first | ((with_reducible refine gate_callee (f := 48) rfl ?_); refine goesL_ (some 8) rfl rfl Try.func48 J4 rfl #[.slice A0 l0.length c0] rfl J1 ?_; (with_reducible refine (array_walk.calls k _ _ l0 t143 t144 t145 _ ?side1 ?side2 A2.out).mono ?_); (case side1 => exact zc HR0.out); (case side2 => exact HC0.out); rintro e w3 ⟨rfl, hb⟩; refine ⟨_, rfl, ?_⟩; replace HB := zq (below_step J0 hb); (try clear hb)))
  go_ret
  exact ⟨J3, J0⟩
def array_Right.f (k : Nat) (l0 : List (S30)) : Option (Bool) := if (l0.length : Int) > 0 then ((array_Take.f k l0).bind fun t146 => (some (t146 == (l0.length : Int)))) else (some false)
theorem array_Right.mono : ∀ a0 k, LeO (array_Right.f k a0) (array_Right.f (k + 1) a0) := by
  intro a0 k
  unfold array_Right.f
  have im0 := @array_Take.mono
  exact mz3
set_option maxHeartbeats 8000000 in
set_option maxRecDepth 100000 in
theorem array_Right.calls (k : Nat) (A0 : Option Addr) (c0 : Nat) (l0 : List (S30)) (r : Bool) (w : World) (hr0 : Kd.C k30 w A0 l0.length l0) (hc0 : l0.length ≤ c0) (h : array_Right.f k l0 = some r) :
    Calls Try.prog 23 #[.slice A0 l0.length c0] w fun e w' => e = .returned (.bool r) ∧ Below w.heap.size w w' := by
  have HR0 := zq hr0
  have HC0 := zq hc0
  clear hr0 hc0
  have HB := zq (Below.refl w.heap.size w)
  have H : (if (l0.length : Int) > 0 then ((array_Take.f k l0).bind fun t146 => (some (t146 == (l0.length : Int)))) else (some false)) = some r := h
  clear h
  by_cases c2 : (l0.length : Int) > 0
  rotate_left
  · rw [if_neg c2] at H
    have c2b0 := decide_eq_false c2
    have c2b1 : decide (0 < l0.length) = false := decide_eq_false J15
    clear c2
    obtain rfl := Option.some.inj H
    go_enter Try.func23, Try.ntmps23
    go_wp2
    go_ret
    exact ⟨J3, J0⟩
  rw [if_pos c2] at H
  have c2b0 := decide_eq_true c2
  have c2b1 : decide (0 < l0.length) = true := decide_eq_true J15
  clear c2
  replace H := Option.bind_eq_some_iff.mp H
  obtain ⟨t146, A30, H⟩ := H
  have A3 := zq A30
  clear A30
  obtain rfl := Option.some.inj H
  go_enter Try.func23, Try.ntmps23
  go_wp2_with (first | (go_at_call 47; (with_reducible refine (array_Take.calls k _ _ l0 t146 _ ?side1 ?side2 A3.out).mono ?_); (case side1 => exact zc HR0.out); (case side2 => exact HC0.out); rintro e w4 ⟨rfl, hb⟩; replace HB := zq (below_step J0 hb); (try clear hb)))
  go_ret
  exact ⟨J3, J0⟩
def tight_Numbers_1.f (k : Nat) (a0_0 : Int) (a0_1 : Int) : Option (Bool) := (decimal_Right.f k a0_0 a0_1).bind fun t148 => (some (!t148))
theorem tight_Numbers_1.mono : ∀ a0 a1 k, LeO (tight_Numbers_1.f k a0 a1) (tight_Numbers_1.f (k + 1) a0 a1) := by
  intro a0 a1 k
  unfold tight_Numbers_1.f
  have im0 := @decimal_Right.mono
  exact mz3
set_option maxHeartbeats 8000000 in
set_option maxRecDepth 100000 in
theorem tight_Numbers_1.calls (k : Nat) (a0_0 : Int) (a0_1 : Int) (r : Bool) (w : World) (h : tight_Numbers_1.f k a0_0 a0_1 = some r) :
    Calls Try.prog 30 #[.agg #[.int .i64 a0_0, .int .i64 a0_1]] w fun e w' => e = .returned (.bool r) ∧ Below w.heap.size w w' := by
  have hu38 := Try.underlying38
  have HB := zq (Below.refl w.heap.size w)
  have H : ((decimal_Right.f k a0_0 a0_1).bind fun t148 => (some (!t148))) = some r := h
  clear h
  replace H := Option.bind_eq_some_iff.mp H
  obtain ⟨t148, A20, H⟩ := H
  have A2 := zq A20
  clear A20
  obtain rfl := Option.some.inj H
  go_enter Try.func30, Try.ntmps30
  go_wp2_with (first | ((with_reducible refine gate_dst (N := 1) rfl ?_); refine bxw 1 38 #[.int .i64 a0_0, .int .i64 a0_1] ?_; intro gb147 hg w3 hbox hb; have BK147 := zq (hbox); have GE147 := zq ((J16 : w.heap.size ≤ gb147)); replace HB := zq (below_step J0 hb); clear hb hbox hg; obtain ⟨hcz4_0, hcz4_1, hfz4_0, hfz4_1⟩ := cz2 BK147.out) | ((with_reducible refine gate_callee (f := 31) rfl ?_); refine goesL_ (some 4) rfl rfl Try.func31 J4 rfl #[.agg #[.int .i64 a0_0, .int .i64 a0_1]] rfl J1 ?_; (with_reducible refine (decimal_Right.calls k a0_0 a0_1 t148 _ A2.out).mono ?_); rintro e w5 ⟨rfl, hb⟩; refine ⟨_, rfl, ?_⟩; replace HB := zq (below_step (zs1 GE147.out) hb); (try clear hb)))
  go_ret
  exact ⟨J3, by repeat (first | (with_reducible first | exact HB.out | apply below_alloc | apply pw_below_drewN | apply below_drew1 | refine below_set ?_ GE147.out) | exact HB.out)⟩
def api_Dec_57.l0 : Nat → List (S38) → Int → Int → Option (Int)
  | 0, _, _, _ => none
  | k + 1, x0, x7, x8 => if x8 < x7 then (if 0 ≤ x8 then (if x8 < (x0.length : Int) then ((tight_Numbers_1.f k ((rd_T38 x0 x8).f0) ((rd_T38 x0 x8).f1)).bind fun t150 => (if t150 = true then (some x8) else (api_Dec_57.l0 k x0 x7 (wrap64 (x8 + 1))))) else (none)) else (none)) else (some (-1))
def api_Dec_57.f (k : Nat) (l0 : List (S38)) : Option (Int) := api_Dec_57.l0 k l0 (l0.length : Int) 0
theorem api_Dec_57.mono_l : ∀ k, (∀ y0 y1 y2, LeO (api_Dec_57.l0 k y0 y1 y2) (api_Dec_57.l0 (k + 1) y0 y1 y2))
  | 0 => fun _ _ _ r h => by simp [api_Dec_57.l0] at h
  | k + 1 => by
    have ih0 := api_Dec_57.mono_l k
    · intro y0 y1 y2
      unfold api_Dec_57.l0
      have im0 := @tight_Numbers_1.mono
      exact mz3
theorem api_Dec_57.mono : ∀ a0 k, LeO (api_Dec_57.f k a0) (api_Dec_57.f (k + 1) a0) := by
  intro a0 k
  have ih0 := api_Dec_57.mono_l k
  unfold api_Dec_57.f
  have im0 := @tight_Numbers_1.mono
  exact mz3
set_option maxHeartbeats 8000000 in
set_option maxRecDepth 100000 in
theorem api_Dec_57.calls (k : Nat) (A0 : Option Addr) (c0 : Nat) (l0 : List (S38)) (r : Int) (w : World) (hr0 : Kd.C k38 w A0 l0.length l0) (hc0 : l0.length ≤ c0) (h : api_Dec_57.f k l0 = some r) :
    Calls Try.prog 57 #[.slice A0 l0.length c0, .func (.func 30) #[] #[]] w fun e w' => e = .returned (.int .i64 r) ∧ Below w.heap.size w w' := by
  have hu38 := Try.underlying38
  have HR0 := zq hr0
  have HC0 := zq hc0
  clear hr0 hc0
  have HB := zq (Below.refl w.heap.size w)
  have H : (api_Dec_57.l0 k l0 (l0.length : Int) 0) = some r := h
  clear h
  have H' := zq H
  clear H
  go_enter Try.func57, Try.ntmps57
  go_wp2
  go_loopg [8] k (fun kq v8 w' => ∃ (x8_1 : Int), v8 = .int .i64 x8_1 ∧ Aside0 (api_Dec_57.l0 kq l0 (l0.length : Int) x8_1 = some r) ∧ Aside0 (kq ≤ k) ∧ Aside0 (Below w.heap.size w w'))
  case atStart => exact ⟨(0), J6, H', ⟨Nat.le_refl _⟩, ⟨J0⟩⟩
  case round =>
    clear H'
    obtain ⟨x8_1, rfl, HA, HK1, HB⟩ := hrel
    cases gk with
    | zero => exact absurd HA.out (by simp [api_Dec_57.l0])
    | succ k1 =>
      have H := HA.out
      clear HA
      simp only [api_Dec_57.l0] at H
      by_cases c2 : x8_1 < (l0.length : Int)
      rotate_left
      · rw [if_neg c2] at H
        have c2b0 := decide_eq_false c2
        clear c2
        obtain rfl := Option.some.inj H
        go_wp2
        go_ret
        exact ⟨J3, J0⟩
      rw [if_pos c2] at H
      have c2b0 := decide_eq_true c2
      clear c2
      by_cases c3 : 0 ≤ x8_1
      rotate_left
      · rw [if_neg c3] at H
        exact absurd H J30
      rw [if_pos c3] at H
      have c3b0 := decide_eq_true c3
      clear c3
      by_cases c4 : x8_1 < (l0.length : Int)
      rotate_left
      · rw [if_neg c4] at H
        exact absurd H J30
      rw [if_pos c4] at H
      have c4b0 := decide_eq_true c4
      clear c4
      replace H := Option.bind_eq_some_iff.mp H
      obtain ⟨t150, A50, H⟩ := H
      have A5 := zq A50
      clear A50
      by_cases c6 : t150 = true
      · subst c6
        rw [if_pos rfl] at H
        obtain rfl := Option.some.inj H
        have p149 : 0 ≤ (x8_1 : Int) := of_decide_eq_true J2
        have q149 : x8_1 < (l0.length : Int) := of_decide_eq_true J2
        obtain ⟨ad149, e149, hx149_0, hx149_1⟩ := at_T38 HR0.out x8_1 p149 q149
        cases e149
        replace hx149_0 := (HB.out.cell (World.block_lt_of_cell? w _ hx149_0)).trans hx149_0
        replace hx149_1 := (HB.out.cell (World.block_lt_of_cell? w _ hx149_1)).trans hx149_1
        replace p149 := eq_true p149
        replace q149 := eq_true q149
        go_wp2_with (first | ((with_reducible refine gate_dst (N := 16) rfl ?_); refine goesLv_ (some 16) rfl rfl Try.func30 J4 rfl #[.agg #[.int .i64 ((rd_T38 l0 x8_1).f0), .int .i64 ((rd_T38 l0 x8_1).f1)]] (.tmp 11) rfl rfl J1 ?_; (with_reducible refine (tight_Numbers_1.calls k1 ((rd_T38 l0 x8_1).f0) ((rd_T38 l0 x8_1).f1) true _ A5.out).mono ?_); rintro e w7 ⟨rfl, hb⟩; refine ⟨_, rfl, ?_⟩; replace HB := zq (below_step J0 hb); (try clear hb)))
        go_ret
        exact ⟨J3, J0⟩
      replace c6 := Bool.eq_false_iff.mpr c6
      subst c6
      rw [if_neg (show ¬ (false = true) by decide)] at H
      have H' := zq H
      clear H
      have p149 : 0 ≤ (x8_1 : Int) := of_decide_eq_true J2
      have q149 : x8_1 < (l0.length : Int) := of_decide_eq_true J2
      obtain ⟨ad149, e149, hx149_0, hx149_1⟩ := at_T38 HR0.out x8_1 p149 q149
      cases e149
      replace hx149_0 := (HB.out.cell (World.block_lt_of_cell? w _ hx149_0)).trans hx149_0
      replace hx149_1 := (HB.out.cell (World.block_lt_of_cell? w _ hx149_1)).trans hx149_1
      replace p149 := eq_true p149
      replace q149 := eq_true q149
      go_wp2_with (first | ((with_reducible refine gate_dst (N := 16) rfl ?_); refine goesLv_ (some 16) rfl rfl Try.func30 J4 rfl #[.agg #[.int .i64 ((rd_T38 l0 x8_1).f0), .int .i64 ((rd_T38 l0 x8_1).f1)]] (.tmp 11) rfl rfl J1 ?_; (with_reducible refine (tight_Numbers_1.calls k1 ((rd_T38 l0 x8_1).f0) ((rd_T38 l0 x8_1).f1) false _ A5.out).mono ?_); rintro e w8 ⟨rfl, hb⟩; refine ⟨_, rfl, ?_⟩; replace HB := zq (below_step J0 hb); (try clear hb)))
      go_roundg k1
      case measure => have := HK1.out; omega
      case rel => exact ⟨(wrap64 (x8_1 + 1)), J6, H', ⟨J66⟩, ⟨J0⟩⟩
def api_Dec_33.f (k : Nat) (l0 : List (S38)) : Option (Bool) := (api_Dec_57.f k l0).bind fun t151 => (some (decide (t151 ≥ 0)))
theorem api_Dec_33.mono : ∀ a0 k, LeO (api_Dec_33.f k a0) (api_Dec_33.f (k + 1) a0) := by
  intro a0 k
  unfold api_Dec_33.f
  have im0 := @api_Dec_57.mono
  exact mz3
set_option maxHeartbeats 8000000 in
set_option maxRecDepth 100000 in
theorem api_Dec_33.calls (k : Nat) (A0 : Option Addr) (c0 : Nat) (l0 : List (S38)) (r : Bool) (w : World) (hr0 : Kd.C k38 w A0 l0.length l0) (hc0 : l0.length ≤ c0) (h : api_Dec_33.f k l0 = some r) :
    Calls Try.prog 33 #[.slice A0 l0.length c0, .func (.func 30) #[] #[]] w fun e w' => e = .returned (.bool r) ∧ Below w.heap.size w w' := by
  have HR0 := zq hr0
  have HC0 := zq hc0
  clear hr0 hc0
  have HB := zq (Below.refl w.heap.size w)
  have H : ((api_Dec_57.f k l0).bind fun t151 => (some (decide (t151 ≥ 0)))) = some r := h
  clear h
  replace H := Option.bind_eq_some_iff.mp H
  obtain ⟨t151, A20, H⟩ := H
  have A2 := zq A20
  clear A20
  obtain rfl := Option.some.inj H
  go_enter Try.func33, Try.ntmps33
  go_wp2_with (first | ((with_reducible refine gate_callee (f := 57) rfl ?_); refine goesL_ (some 7) rfl rfl Try.func57 J4 rfl #[.slice A0 l0.length c0, .func (.func 30) #[] #[]] rfl J1 ?_; (with_reducible refine (api_Dec_57.calls k _ _ l0 t151 _ ?side1 ?side2 A2.out).mono ?_); (case side1 => exact zc HR0.out); (case side2 => exact HC0.out); rintro e w3 ⟨rfl, hb⟩; refine ⟨_, rfl, ?_⟩; replace HB := zq (below_step J0 hb); (try clear hb)))
  go_ret
  exact ⟨J3, J0⟩
def slices_Clone_int_int.f (l0 : List Int) : Option (List Int) := (some (([] : List Int) : List Int)).bind fun y152 => (if y152.length + l0.length < 17592186044416 then (some (y152 ++ l0)) else (none))
set_option maxHeartbeats 8000000 in
set_option maxRecDepth 100000 in
theorem slices_Clone_int_int.calls (A0 : Option Addr) (c0 : Nat) (l0 : List Int) (r : List Int) (w : World) (hr0 : Kd.C (Kd.int .i64) w A0 l0.length l0) (hc0 : l0.length ≤ c0) (h : slices_Clone_int_int.f l0 = some r) :
    Calls Try.prog 34 #[.slice A0 l0.length c0] w fun e w' => ∃ v0_ : Value, e = .returned (v0_) ∧ Kd.R (Kd.int .i64) 3 w' w.heap.size (fun _ => True) v0_ r ∧ Below w.heap.size w w' := by
  cases A0 with
  | none =>
    obtain rfl : l0 = [] := by
      cases l0 with
      | nil => rfl
      | cons x_ y_ =>
        obtain ⟨ad_, c_, e_, _⟩ := Kd.C_get hr0 0 0 J15 (by rw [List.length_cons]; omega)
        exact absurd e_ J30
    have hn_ : ∀ W : World, (binOp .eql 23 (.slice none 0 c0) (.slice none 0 0)).run Try.prog W = .ok (.bool true) W := fun W => Lib.run_eql_slice_nil W 23 3 none _ c0 0 0 Try.underlying23
    rw [show ([] : List Int).length = 0 from rfl]
    go_enter Try.func34, Try.ntmps34
    go_wp2
    go_ret
    obtain rfl : r = [] := by simpa [slices_Clone_int_int.f] using h.symm
    exact ⟨_, rfl, Kd.R_nil _ _ _ _ _, Below.refl _ _⟩
  | some a0_ =>
    have hn_ : ∀ W : World, (binOp .eql 23 (.slice (some a0_) l0.length c0) (.slice none 0 0)).run Try.prog W = .ok (.bool false) W := fun W => Lib.run_eql_slice_nil W 23 3 (some a0_) _ c0 0 0 Try.underlying23
    have HR0 := zq hr0
    have HC0 := zq hc0
    clear hr0 hc0
    have HB := zq (Below.refl w.heap.size w)
    have H : ((some (([] : List Int) : List Int)).bind fun y152 => (if y152.length + l0.length < 17592186044416 then (some (y152 ++ l0)) else (none))) = some r := h
    clear h
    obtain ⟨y152, hy152⟩ : ∃ y_ : List Int, y_ = (([] : List Int)) := ⟨_, rfl⟩
    replace H : (if y152.length + l0.length < 17592186044416 then (some (y152 ++ l0)) else (none)) = some r := by first | (rw [hy152]; with_reducible exact H) | (have H2_ := (Option.bind_some _ _).symm.trans H; rw [hy152]; with_reducible exact H2_) | (have H2_ := (Option.bind_some _ _).symm.trans H; with_reducible exact H2_) | with_reducible exact H | (rw [hy152]; exact H) | exact H
    have Ny152 := zq hy152
    clear hy152
    by_cases c2 : y152.length + l0.length < 17592186044416
    · rw [if_pos c2] at H
      have LMc2 := zq c2
      clear c2
      obtain ⟨y155, hy155⟩ : ∃ y_ : List Int, y_ = (y152 ++ l0) := ⟨_, rfl⟩
      replace H : (some y155) = some r := by first | (rw [hy155]; with_reducible exact H) | (have H2_ := (Option.bind_some _ _).symm.trans H; rw [hy155]; with_reducible exact H2_) | (have H2_ := (Option.bind_some _ _).symm.trans H; with_reducible exact H2_) | with_reducible exact H | (rw [hy155]; exact H) | exact H
      have Ny155 := zq hy155
      clear hy155
      obtain rfl := Option.some.inj H
      go_enter Try.func34, Try.ntmps34
      go_wp2_with (first | ((with_reducible refine gate_dst (N := 5) rfl ?_); refine lwR (Kd.int .i64) 3 5 (xs := ([] : List Int)) [] Ny152 (Reps.none _ _) ?_; intro v153 w3 ho4 hb; have HO154 := zq (Kd.R_lower ho4 (below_size J0)); replace HB := zq (below_step J0 hb); clear hb ho4) | ((with_reducible refine gate_builtin (b := .append) (xs := #[.tmp 5, .tmp 6]) rfl ?_); at_builtin; refine Kd.R_append_rows (Kd.int .i64) (w0 := w) w.heap.size rfl (.tmp 5) (.tmp 6) 23 3 (.int .i64 0) 8 rfl Try.underlying23 info3 rfl J17 J15 v153 y152 l0 _ _ _ (fun _ => True) (fun _ => False) rfl rfl ?aO ?aR (fun _ _ h => h) (fun _ h => h.elim) ?aF ?aB ?aS ?aL ?_; (case aR => repeat (first | exact (Kd.C_below HR0.out HB.out) | (with_reducible refine Kd.C_alloc ?_ _) | (with_reducible refine Kd.C_drewN ?_ _) | (with_reducible refine Kd.C_drew ?_))); (case aB => exact J0); (case aF => exact (fun _ _ => trivial)); (case aO => exact (zr HO154.out)); (case aS => exact (below_size J0)); (case aL => have := LMc2.out; omega); intro v156 w5 ho hb hg hat; rw [← Ny155.out] at ho; replace HB := zq (hb); have HO157 := zq (ho); clear HO154; clear ho hb hg hat))
      go_ret
      exact ⟨_, J3, by (with_reducible repeat (first | apply Kd.R_alloc | apply Kd.R_drewN | apply Kd.R_drew)); exact HO157.out, J0⟩
    · rw [if_neg c2] at H
      exact absurd H J30
mutual
def decimal_Whole.j0 : Nat → Bool → Int → Int → Option (Int × Bool)
  | 0, _, _, _ => none
  | k + 1, x17, x159000, x159001 => if x17 = true then (some (0, false)) else (decimal_Whole.l0 k x159000 x159001 0)
def decimal_Whole.l0 : Nat → Int → Int → Int → Option (Int × Bool)
  | 0, _, _, _ => none
  | k + 1, x4, x21, x22 => if x22 < x21 then (if (wrap64 (Int.tdiv (wrap64 (x4 * 10)) 10)) = x4 then (decimal_Whole.l0 k (wrap64 (x4 * 10)) x21 (wrap64 (x22 + 1))) else (some (0, false))) else (some (x4, true))
end
def decimal_Whole.f (k : Nat) (a0_0 : Int) (a0_1 : Int) : Option (Int × Bool) := (decimal_Right.f k a0_0 a0_1).bind fun t159 => (if t159 = true then (if a0_1 < 0 then (decimal_Whole.j0 k true a0_0 a0_1) else (decimal_Whole.j0 k (decide (a0_1 > 18)) a0_0 a0_1)) else (decimal_Whole.j0 k true a0_0 a0_1))
theorem decimal_Whole.mono_l : ∀ k, (∀ y0 y1 y2, LeO (decimal_Whole.j0 k y0 y1 y2) (decimal_Whole.j0 (k + 1) y0 y1 y2)) ∧ (∀ y0 y1 y2, LeO (decimal_Whole.l0 k y0 y1 y2) (decimal_Whole.l0 (k + 1) y0 y1 y2))
  | 0 => ⟨fun _ _ _ r h => by simp [decimal_Whole.j0] at h, fun _ _ _ r h => by simp [decimal_Whole.l0] at h⟩
  | k + 1 => by
    obtain ⟨ih0, ih1⟩ := decimal_Whole.mono_l k
    refine ⟨?_, ?_⟩
    · intro y0 y1 y2
      unfold decimal_Whole.j0
      have im0 := @decimal_Right.mono
      exact mz3
    · intro y0 y1 y2
      unfold decimal_Whole.l0
      have im0 := @decimal_Right.mono
      exact mz3
theorem decimal_Whole.mono : ∀ a0 a1 k, LeO (decimal_Whole.f k a0 a1) (decimal_Whole.f (k + 1) a0 a1) := by
  intro a0 a1 k
  obtain ⟨ih0, ih1⟩ := decimal_Whole.mono_l k
  unfold decimal_Whole.f
  have im0 := @decimal_Right.mono
  exact mz3
set_option maxHeartbeats 8000000 in
set_option maxRecDepth 100000 in
theorem decimal_Whole.calls (k : Nat) (a0_0 : Int) (a0_1 : Int) (r1 : Int) (r2 : Bool) (w : World) (h : decimal_Whole.f k a0_0 a0_1 = some (r1, r2)) :
    Calls Try.prog 58 #[.agg #[.int .i64 a0_0, .int .i64 a0_1]] w fun e w' => e = .returned (.tuple #[.int .i64 r1, .bool r2]) ∧ Below w.heap.size w w' := by
  have hu38 := Try.underlying38
  have HB := zq (Below.refl w.heap.size w)
  have H : ((decimal_Right.f k a0_0 a0_1).bind fun t159 => (if t159 = true then (if a0_1 < 0 then (decimal_Whole.j0 k true a0_0 a0_1) else (decimal_Whole.j0 k (decide (a0_1 > 18)) a0_0 a0_1)) else (decimal_Whole.j0 k true a0_0 a0_1))) = some (r1, r2) := h
  clear h
  have HC2 := zq H
  clear H
  go_enter Try.func58, Try.ntmps58
  go_upto_region 1 with (first | ((with_reducible refine gate_dst (N := 1) rfl ?_); refine bxw 1 38 #[.int .i64 a0_0, .int .i64 a0_1] ?_; intro gb158 hg w3 hbox hb; have BK158 := zq (hbox); have GE158 := zq ((J16 : w.heap.size ≤ gb158)); replace HB := zq (below_step J0 hb); clear hb hbox hg))
  (try simp only [Act.put, List.setIfInBounds_toArray, List.set_cons_zero, List.set_cons_succ])
  go_cut [17] (fun v17 wc => ∃ (kq : Nat) (x17_1 : Bool), v17 = .bool x17_1 ∧ Aside0 (decimal_Whole.j0 kq x17_1 a0_0 a0_1 = some (r1, r2)) ∧ Aside0 (kq ≤ k) ∧ Aside0 (wc.heap[gb158]? = some (.cells #[.int .i64 a0_0, .int .i64 a0_1] 38 (0, 0))) ∧ Aside0 (Below w.heap.size w wc))
  case first =>
    have H := HC2.out
    clear HC2
    replace H := Option.bind_eq_some_iff.mp H
    obtain ⟨t159, A40, H⟩ := H
    have A4 := zq A40
    clear A40
    by_cases c5 : t159 = true
    rotate_left
    · replace c5 := Bool.eq_false_iff.mpr c5
      subst c5
      rw [if_neg (show ¬ (false = true) by decide)] at H
      have H' := zq H
      clear H
      obtain ⟨hcz13_0, hcz13_1, hfz13_0, hfz13_1⟩ := cz2 BK158.out
      go_wp2_with (first | ((with_reducible refine gate_callee (f := 31) rfl ?_); refine goesL_ (some 6) rfl rfl Try.func31 J4 rfl #[.agg #[.int .i64 a0_0, .int .i64 a0_1]] rfl J1 ?_; (with_reducible refine (decimal_Right.calls k a0_0 a0_1 false _ A4.out).mono ?_); rintro e w14 ⟨rfl, hb⟩; refine ⟨_, rfl, ?_⟩; replace BK158 := zq (blk_below (g := gb158) (o := .cells #[.int .i64 a0_0, .int .i64 a0_1] 38 (0, 0)) (zk BK158.out) hb); replace HB := zq (below_step (zs1 GE158.out) hb); (try clear hb)))
      go_meet
      case rel => exact ⟨_, (true), J6, H', ⟨J48⟩, ⟨J62⟩, ⟨J21⟩⟩
    subst c5
    rw [if_pos rfl] at H
    by_cases c6 : a0_1 < 0
    rotate_left
    · rw [if_neg c6] at H
      have c6b0 := decide_eq_false c6
      clear c6
      (first | rw [c6b0] | (simp only [i64_w, i32_w]; rw [c6b0]) | skip)
      have H' := zq H
      clear H
      obtain ⟨hcz10_0, hcz10_1, hfz10_0, hfz10_1⟩ := cz2 BK158.out
      go_wp2_with (first | ((with_reducible refine gate_callee (f := 31) rfl ?_); refine goesL_ (some 6) rfl rfl Try.func31 J4 rfl #[.agg #[.int .i64 a0_0, .int .i64 a0_1]] rfl J1 ?_; (with_reducible refine (decimal_Right.calls k a0_0 a0_1 true _ A4.out).mono ?_); rintro e w11 ⟨rfl, hb⟩; refine ⟨_, rfl, ?_⟩; replace BK158 := zq (blk_below (g := gb158) (o := .cells #[.int .i64 a0_0, .int .i64 a0_1] 38 (0, 0)) (zk BK158.out) hb); replace HB := zq (below_step (zs1 GE158.out) hb); (try clear hb); obtain ⟨hcz12_0, hcz12_1, hfz12_0, hfz12_1⟩ := cz2 BK158.out))
      go_meet
      case rel => exact ⟨_, (decide (a0_1 > 18)), J6, H', ⟨J48⟩, ⟨J62⟩, ⟨J21⟩⟩
    rw [if_pos c6] at H
    have c6b0 := decide_eq_true c6
    clear c6
    (first | rw [c6b0] | (simp only [i64_w, i32_w]; rw [c6b0]) | skip)
    have H' := zq H
    clear H
    obtain ⟨hcz7_0, hcz7_1, hfz7_0, hfz7_1⟩ := cz2 BK158.out
    go_wp2_with (first | ((with_reducible refine gate_callee (f := 31) rfl ?_); refine goesL_ (some 6) rfl rfl Try.func31 J4 rfl #[.agg #[.int .i64 a0_0, .int .i64 a0_1]] rfl J1 ?_; (with_reducible refine (decimal_Right.calls k a0_0 a0_1 true _ A4.out).mono ?_); rintro e w8 ⟨rfl, hb⟩; refine ⟨_, rfl, ?_⟩; replace BK158 := zq (blk_below (g := gb158) (o := .cells #[.int .i64 a0_0, .int .i64 a0_1] 38 (0, 0)) (zk BK158.out) hb); replace HB := zq (below_step (zs1 GE158.out) hb); (try clear hb); obtain ⟨hcz9_0, hcz9_1, hfz9_0, hfz9_1⟩ := cz2 BK158.out))
    go_meet
    case rel => exact ⟨_, (true), J6, H', ⟨J48⟩, ⟨J62⟩, ⟨J21⟩⟩
  case rest =>
    clear HC2
    try clear p2
    try clear c3
    try clear c5
    try clear c6
    try clear c6b0
    try clear hcz10_0
    try clear hcz10_1
    try clear hcz12_0
    try clear hcz12_1
    try clear hcz13_0
    try clear hcz13_1
    try clear hcz7_0
    try clear hcz7_1
    try clear hcz9_0
    try clear hcz9_1
    try clear hfz10_0
    try clear hfz10_1
    try clear hfz12_0
    try clear hfz12_1
    try clear hfz13_0
    try clear hfz13_1
    try clear hfz7_0
    try clear hfz7_1
    try clear hfz9_0
    try clear hfz9_1
    obtain ⟨kq, x17_1, rfl, HA, HJ1, BK158, HB⟩ := hcut
    cases kq with
    | zero => exact absurd HA.out (by simp [decimal_Whole.j0])
    | succ kj1 =>
      have H := HA.out
      clear HA
      simp only [decimal_Whole.j0] at H
      by_cases c15 : x17_1 = true
      · subst c15
        rw [if_pos rfl] at H
        simp only [Option.some.injEq, Prod.mk.injEq] at H
        obtain ⟨rfl, rfl⟩ := H
        go_wp2
        go_ret2
        exact ⟨J3, J21⟩
      replace c15 := Bool.eq_false_iff.mpr c15
      subst c15
      rw [if_neg (show ¬ (false = true) by decide)] at H
      have H' := zq H
      clear H
      obtain ⟨hcz16_0, hcz16_1, hfz16_0, hfz16_1⟩ := cz2 BK158.out
      go_wp2
      go_loopg [4, 22] kj1 (fun kq v4 v22 w' => ∃ (x4_2 : Int) (x22_2 : Int), v4 = .int .i64 x4_2 ∧ v22 = .int .i64 x22_2 ∧ Aside0 (decimal_Whole.l0 kq x4_2 a0_1 x22_2 = some (r1, r2)) ∧ Aside0 (kq ≤ kj1) ∧ Aside0 (w'.heap[gb158]? = some (.cells #[.int .i64 a0_0, .int .i64 a0_1] 38 (0, 0))) ∧ Aside0 (Below w.heap.size w w'))
      case atStart => exact ⟨(a0_0), (0), J6, J6, H', ⟨Nat.le_refl _⟩, ⟨J62⟩, ⟨J21⟩⟩
      case round =>
        clear H'
        try clear c1
        try clear p2
        try clear c3
        try clear c5
        try clear c6
        try clear c6b0
        try clear c15
        try clear hcz10_0
        try clear hcz10_1
        try clear hcz12_0
        try clear hcz12_1
        try clear hcz13_0
        try clear hcz13_1
        try clear hcz16_0
        try clear hcz16_1
        try clear hcz7_0
        try clear hcz7_1
        try clear hcz9_0
        try clear hcz9_1
        try clear hfz10_0
        try clear hfz10_1
        try clear hfz12_0
        try clear hfz12_1
        try clear hfz13_0
        try clear hfz13_1
        try clear hfz16_0
        try clear hfz16_1
        try clear hfz7_0
        try clear hfz7_1
        try clear hfz9_0
        try clear hfz9_1
        try clear p2
        obtain ⟨x4_2, x22_2, rfl, rfl, HA, HK2, BK158, HB⟩ := hrel
        cases gk with
        | zero => exact absurd HA.out (by simp [decimal_Whole.l0])
        | succ k2 =>
          have H := HA.out
          clear HA
          simp only [decimal_Whole.l0] at H
          by_cases c17 : x22_2 < a0_1
          rotate_left
          · rw [if_neg c17] at H
            have c17b0 := decide_eq_false c17
            clear c17
            simp only [Option.some.injEq, Prod.mk.injEq] at H
            obtain ⟨rfl, rfl⟩ := H
            go_wp2
            go_ret2
            exact ⟨J3, J21⟩
          rw [if_pos c17] at H
          have c17b0 := decide_eq_true c17
          clear c17
          by_cases c18 : (wrap64 (Int.tdiv (wrap64 (x4_2 * 10)) 10)) = x4_2
          rotate_left
          · rw [if_neg c18] at H
            have c18b0 : ((wrap64 (Int.tdiv (wrap64 (x4_2 * 10)) 10)) == x4_2) = false := beq_eq_false_iff_ne.mpr c18
            have c18b1 : ((wrap64 (Int.tdiv (wrap64 (x4_2 * 10)) 10)) != x4_2) = true := bne_iff_ne.mpr c18
            simp only [Option.some.injEq, Prod.mk.injEq] at H
            obtain ⟨rfl, rfl⟩ := H
            go_wp2
            go_ret2
            exact ⟨J3, J21⟩
          rw [if_pos c18] at H
          have c18b0 : ((wrap64 (Int.tdiv (wrap64 (x4_2 * 10)) 10)) == x4_2) = true := beq_iff_eq.mpr c18
          have c18b1 : ((wrap64 (Int.tdiv (wrap64 (x4_2 * 10)) 10)) != x4_2) = false := bne_eq_false_iff_eq.mpr c18
          clear c18
          have H' := zq H
          clear H
          go_wp2
          go_roundg k2
          case measure => have := HJ1.out; have := HK2.out; omega
          case rel => exact ⟨(wrap64 (x4_2 * 10)), (wrap64 (x22_2 + 1)), J6, J6, H', ⟨by have := HJ1.out; have := HK2.out; omega⟩, ⟨J62⟩, ⟨J21⟩⟩
def tight_whole.l0 : Nat → List Int → List (S38) → Int → Int → Option (List Int × Bool)
  | 0, _, _, _, _ => none
  | k + 1, x4, x9, x10, x11 => if x11 < x10 then (if 0 ≤ x11 then (if x11 < (x9.length : Int) then ((decimal_Whole.f k ((rd_T38 x9 x11).f0) ((rd_T38 x9 x11).f1)).bind fun bt162 => (if bt162.2 = true then (if x4.length < 17592186044416 then (tight_whole.l0 k (x4 ++ [bt162.1]) x9 x10 (wrap64 (x11 + 1))) else (none)) else (some (([] : List Int), false)))) else (none)) else (none)) else (some (x4, true))
def tight_whole.f (k : Nat) (l0 : List (S38)) : Option (List Int × Bool) := tight_whole.l0 k ([] : List Int) l0 (l0.length : Int) 0
theorem tight_whole.mono_l : ∀ k, (∀ y0 y1 y2 y3, LeO (tight_whole.l0 k y0 y1 y2 y3) (tight_whole.l0 (k + 1) y0 y1 y2 y3))
  | 0 => fun _ _ _ _ r h => by simp [tight_whole.l0] at h
  | k + 1 => by
    have ih0 := tight_whole.mono_l k
    · intro y0 y1 y2 y3
      unfold tight_whole.l0
      have im0 := @decimal_Whole.mono
      exact mz3
theorem tight_whole.mono : ∀ a0 k, LeO (tight_whole.f k a0) (tight_whole.f (k + 1) a0) := by
  intro a0 k
  have ih0 := tight_whole.mono_l k
  unfold tight_whole.f
  have im0 := @decimal_Whole.mono
  exact mz3
set_option maxHeartbeats 8000000 in
set_option maxRecDepth 100000 in
theorem tight_whole.calls (k : Nat) (A0 : Option Addr) (c0 : Nat) (l0 : List (S38)) (r1 : List Int) (r2 : Bool) (w : World) (hr0 : Kd.C k38 w A0 l0.length l0) (hc0 : l0.length ≤ c0) (h : tight_whole.f k l0 = some (r1, r2)) :
    Calls Try.prog 35 #[.slice A0 l0.length c0] w fun e w' => ∃ v0_ : Value, e = .returned (.tuple #[v0_, .bool r2]) ∧ Kd.R (Kd.int .i64) 3 w' w.heap.size (fun _ => True) v0_ r1 ∧ Below w.heap.size w w' := by
  have hu38 := Try.underlying38
  have HR0 := zq hr0
  have HC0 := zq hc0
  clear hr0 hc0
  have HB := zq (Below.refl w.heap.size w)
  have H : (tight_whole.l0 k ([] : List Int) l0 (l0.length : Int) 0) = some (r1, r2) := h
  clear h
  have H' := zq H
  clear H
  go_enter Try.func35, Try.ntmps35
  go_wp2
  go_loopg [4, 11] k (fun kq v4 v11 w' => ∃ (x4_1 : List Int) (x11_1 : Int), v11 = .int .i64 x11_1 ∧ Aside0 (tight_whole.l0 kq x4_1 l0 (l0.length : Int) x11_1 = some (r1, r2)) ∧ Aside0 (kq ≤ k) ∧ Aside0 (Kd.R (Kd.int .i64) 3 w' w.heap.size (fun _ => True) v4 x4_1) ∧ Aside0 (Below w.heap.size w w'))
  case atStart => exact ⟨(([] : List Int)), (0), J6, H', ⟨Nat.le_refl _⟩, ⟨J8⟩, ⟨J0⟩⟩
  case round =>
    clear H'
    obtain ⟨x4_1, x11_1, rfl, HA, HK1, HO_4, HB⟩ := hrel
    cases gk with
    | zero => exact absurd HA.out (by simp [tight_whole.l0])
    | succ k1 =>
      have H := HA.out
      clear HA
      simp only [tight_whole.l0] at H
      by_cases c2 : x11_1 < (l0.length : Int)
      rotate_left
      · rw [if_neg c2] at H
        have c2b0 := decide_eq_false c2
        clear c2
        simp only [Option.some.injEq, Prod.mk.injEq] at H
        obtain ⟨rfl, rfl⟩ := H
        go_wp2
        go_ret2
        exact ⟨_, J3, by (with_reducible repeat (first | apply Kd.R_alloc | apply Kd.R_drewN | apply Kd.R_drew)); exact HO_4.out, J0⟩
      rw [if_pos c2] at H
      have c2b0 := decide_eq_true c2
      clear c2
      by_cases c3 : 0 ≤ x11_1
      rotate_left
      · rw [if_neg c3] at H
        exact absurd H J30
      rw [if_pos c3] at H
      have c3b0 := decide_eq_true c3
      clear c3
      by_cases c4 : x11_1 < (l0.length : Int)
      rotate_left
      · rw [if_neg c4] at H
        exact absurd H J30
      rw [if_pos c4] at H
      have c4b0 := decide_eq_true c4
      clear c4
      replace H := Option.bind_eq_some_iff.mp H
      obtain ⟨⟨t162, t163⟩, A50, H⟩ := H
      dsimp only at H
      have A5 := zq A50
      clear A50
      by_cases c6 : t163 = true
      rotate_left
      · replace c6 := Bool.eq_false_iff.mpr c6
        subst c6
        rw [if_neg (show ¬ (false = true) by decide)] at H
        simp only [Option.some.injEq, Prod.mk.injEq] at H
        obtain ⟨rfl, rfl⟩ := H
        have p160 : 0 ≤ (x11_1 : Int) := of_decide_eq_true J2
        have q160 : x11_1 < (l0.length : Int) := of_decide_eq_true J2
        obtain ⟨ad160, e160, hx160_0, hx160_1⟩ := at_T38 HR0.out x11_1 p160 q160
        cases e160
        replace hx160_0 := (HB.out.cell (World.block_lt_of_cell? w _ hx160_0)).trans hx160_0
        replace hx160_1 := (HB.out.cell (World.block_lt_of_cell? w _ hx160_1)).trans hx160_1
        replace p160 := eq_true p160
        replace q160 := eq_true q160
        go_wp2_with (first | ((with_reducible refine gate_dst (N := 6) rfl ?_); refine bxw 6 38 #[.int .i64 0, .int .i64 0] ?_; intro gb161 hg w12 hbox hb; replace HO_4 := zq (Kd.R_below (zr HO_4.out) hb); have BK161 := zq (hbox); have GE161 := zq ((J16 : w.heap.size ≤ gb161)); replace HB := zq (below_step J0 hb); clear hb hbox hg; obtain ⟨hcz13_0, hcz13_1, hfz13_0, hfz13_1⟩ := cz2 BK161.out) | ((with_reducible refine gate_callee (f := 58) rfl ?_); refine goesL_ (some 17) rfl rfl Try.func58 J4 rfl #[.agg #[.int .i64 ((rd_T38 l0 x11_1).f0), .int .i64 ((rd_T38 l0 x11_1).f1)]] rfl J1 ?_; (with_reducible refine (decimal_Whole.calls k1 ((rd_T38 l0 x11_1).f0) ((rd_T38 l0 x11_1).f1) t162 false _ A5.out).mono ?_); rintro e w14 ⟨rfl, hb⟩; refine ⟨_, rfl, ?_⟩; replace HO_4 := zq (Kd.R_below J67 hb); replace HB := zq (below_step (zs1 GE161.out) hb); (try clear hb); (try clear hk)))
        go_ret2
        exact ⟨_, J3, J8, J94⟩
      subst c6
      rw [if_pos rfl] at H
      by_cases c7 : x4_1.length < 17592186044416
      rotate_left
      · rw [if_neg c7] at H
        exact absurd H J30
      rw [if_pos c7] at H
      have LMc7 := zq c7
      clear c7
      obtain ⟨y164, hy164⟩ : ∃ y_ : List Int, y_ = (x4_1 ++ [t162]) := ⟨_, rfl⟩
      replace H : (tight_whole.l0 k1 y164 l0 (l0.length : Int) (wrap64 (x11_1 + 1))) = some (r1, r2) := by first | (rw [hy164]; with_reducible exact H) | (have H2_ := (Option.bind_some _ _).symm.trans H; rw [hy164]; with_reducible exact H2_) | (have H2_ := (Option.bind_some _ _).symm.trans H; with_reducible exact H2_) | with_reducible exact H | (rw [hy164]; exact H) | exact H
      have Ny164 := zq hy164
      clear hy164
      have H' := zq H
      clear H
      have p160 : 0 ≤ (x11_1 : Int) := of_decide_eq_true J2
      have q160 : x11_1 < (l0.length : Int) := of_decide_eq_true J2
      obtain ⟨ad160, e160, hx160_0, hx160_1⟩ := at_T38 HR0.out x11_1 p160 q160
      cases e160
      replace hx160_0 := (HB.out.cell (World.block_lt_of_cell? w _ hx160_0)).trans hx160_0
      replace hx160_1 := (HB.out.cell (World.block_lt_of_cell? w _ hx160_1)).trans hx160_1
      replace p160 := eq_true p160
      replace q160 := eq_true q160
      go_wp2_with (first | ((with_reducible refine gate_dst (N := 6) rfl ?_); refine bxw 6 38 #[.int .i64 0, .int .i64 0] ?_; intro gb161 hg w8 hbox hb; replace HO_4 := zq (Kd.R_below (zr HO_4.out) hb); have BK161 := zq (hbox); have GE161 := zq ((J16 : w.heap.size ≤ gb161)); replace HB := zq (below_step J0 hb); clear hb hbox hg; obtain ⟨hcz9_0, hcz9_1, hfz9_0, hfz9_1⟩ := cz2 BK161.out) | ((with_reducible refine gate_callee (f := 58) rfl ?_); refine goesL_ (some 17) rfl rfl Try.func58 J4 rfl #[.agg #[.int .i64 ((rd_T38 l0 x11_1).f0), .int .i64 ((rd_T38 l0 x11_1).f1)]] rfl J1 ?_; (with_reducible refine (decimal_Whole.calls k1 ((rd_T38 l0 x11_1).f0) ((rd_T38 l0 x11_1).f1) t162 true _ A5.out).mono ?_); rintro e w10 ⟨rfl, hb⟩; refine ⟨_, rfl, ?_⟩; replace HO_4 := zq (Kd.R_below J67 hb); replace BK161 := zq (blk_below (g := gb161) (o := .cells #[.int .i64 ((rd_T38 l0 x11_1).f0), .int .i64 ((rd_T38 l0 x11_1).f1)] 38 (0, 0)) (by (with_reducible repeat (first | refine blk_drewN ?_ _ | refine blk_drew ?_ | refine blk_alloc ?_ _)); refine blk_put (cs := #[.int .i64 ((rd_T38 l0 x11_1).f0), .int .i64 0]) ?_ 1 _ rfl; (with_reducible repeat (first | refine blk_drewN ?_ _ | refine blk_drew ?_ | refine blk_alloc ?_ _)); refine blk_put (cs := #[.int .i64 0, .int .i64 0]) ?_ 0 _ rfl; (with_reducible repeat (first | refine blk_drewN ?_ _ | refine blk_drew ?_ | refine blk_alloc ?_ _)); exact BK161.out) hb); replace HB := zq (below_step (zs1 GE161.out) hb); (try clear hb); (try clear hk)) | ((with_reducible refine gate_builtin (b := .append) (xs := #[.tmp 22, .tmp 24]) rfl ?_); at_builtin; refine Kd.R_append (Kd.int .i64) (w0 := w) w.heap.size rfl (.tmp 22) (.tmp 24) 23 3 (.int .i64 0) 8 rfl Try.underlying23 info3 rfl J17 J15 u4 x4_1 t162 [.int .i64 t162] (fun _ => True) (fun _ => False) rfl rfl ?aP (fun _ hk => hk.elim) ?aF ?aO ?aB ?aS ?aL ?_; (case aP => exact rfl); (case aB => exact (zs1 GE161.out)); (case aF => exact (fun _ _ => trivial)); (case aO => exact (zr HO_4.out)); (case aS => exact (below_size (zs1 GE161.out))); (case aL => have := LMc7.out; omega); intro v165 w11 ho hb hg hat; rw [← Ny164.out] at ho; replace BK161 := zq (blk_grown (g := gb161) (o := .cells #[.int .i64 ((rd_T38 l0 x11_1).f0), .int .i64 ((rd_T38 l0 x11_1).f1)] 38 (0, 0)) (zk BK161.out) hg (Kd.R_ne HO_4.out BK161.out J17)); replace HB := zq (hb); have HO166 := zq (ho); clear HO_4; clear ho hb hg hat))
      go_roundg k1
      case measure => have := HK1.out; omega
      case rel => exact ⟨(y164), (wrap64 (x11_1 + 1)), J6, H', ⟨J66⟩, ⟨by (with_reducible repeat (first | apply Kd.R_alloc | apply Kd.R_drewN | apply Kd.R_drew)); exact HO166.out⟩, ⟨J94⟩⟩
def tight_Numbers_2.f (a0 : Int) : Option (Bool) := some ((Go.bits .andNot .i64 a0 1) != 0)
set_option maxHeartbeats 8000000 in
set_option maxRecDepth 100000 in
theorem tight_Numbers_2.calls (a0 : Int) (r : Bool) (w : World) (h : tight_Numbers_2.f a0 = some r) :
    Calls Try.prog 36 #[.int .i64 a0] w fun e w' => e = .returned (.bool r) ∧ Drawn0 w w' := by
  have H : (some ((Go.bits .andNot .i64 a0 1) != 0)) = some r := h
  clear h
  obtain rfl := Option.some.inj H
  go_enter Try.func36, Try.ntmps36
  go_wp2
  go_ret
  exact ⟨J6, J7⟩
def api_Dec_37.f (l0 : List (S38)) : Option ((List (S38))) := (some (([] : List (S38)) : List (S38))).bind fun y167 => (if y167.length + l0.length < 8796093022208 then (some (y167 ++ l0)) else (none))
set_option maxHeartbeats 8000000 in
set_option maxRecDepth 100000 in
theorem api_Dec_37.calls (A0 : Option Addr) (c0 : Nat) (l0 : List (S38)) (r : List (S38)) (w : World) (hr0 : Kd.C k38 w A0 l0.length l0) (hc0 : l0.length ≤ c0) (h : api_Dec_37.f l0 = some r) :
    Calls Try.prog 37 #[.slice A0 l0.length c0] w fun e w' => ∃ v0_ : Value, e = .returned (v0_) ∧ Kd.R k38 38 w' w.heap.size (fun _ => True) v0_ r ∧ Below w.heap.size w w' := by
  cases A0 with
  | none =>
    obtain rfl : l0 = [] := by
      cases l0 with
      | nil => rfl
      | cons x_ y_ =>
        obtain ⟨ad_, c_, e_, _⟩ := Kd.C_get hr0 z38 0 J15 (by rw [List.length_cons]; omega)
        exact absurd e_ J30
    have hn_ : ∀ W : World, (binOp .eql 24 (.slice none 0 c0) (.slice none 0 0)).run Try.prog W = .ok (.bool true) W := fun W => Lib.run_eql_slice_nil W 24 38 none _ c0 0 0 Try.underlying24
    rw [show ([] : List (S38)).length = 0 from rfl]
    go_enter Try.func37, Try.ntmps37
    go_wp2
    go_ret
    obtain rfl : r = [] := by simpa [api_Dec_37.f] using h.symm
    exact ⟨_, rfl, Kd.R_nil _ _ _ _ _, Below.refl _ _⟩
  | some a0_ =>
    have hn_ : ∀ W : World, (binOp .eql 24 (.slice (some a0_) l0.length c0) (.slice none 0 0)).run Try.prog W = .ok (.bool false) W := fun W => Lib.run_eql_slice_nil W 24 38 (some a0_) _ c0 0 0 Try.underlying24
    have HR0 := zq hr0
    have HC0 := zq hc0
    clear hr0 hc0
    have HB := zq (Below.refl w.heap.size w)
    have H : ((some (([] : List (S38)) : List (S38))).bind fun y167 => (if y167.length + l0.length < 8796093022208 then (some (y167 ++ l0)) else (none))) = some r := h
    clear h
    obtain ⟨y167, hy167⟩ : ∃ y_ : List (S38), y_ = (([] : List (S38))) := ⟨_, rfl⟩
    replace H : (if y167.length + l0.length < 8796093022208 then (some (y167 ++ l0)) else (none)) = some r := by first | (rw [hy167]; with_reducible exact H) | (have H2_ := (Option.bind_some _ _).symm.trans H; rw [hy167]; with_reducible exact H2_) | (have H2_ := (Option.bind_some _ _).symm.trans H; with_reducible exact H2_) | with_reducible exact H | (rw [hy167]; exact H) | exact H
    have Ny167 := zq hy167
    clear hy167
    by_cases c2 : y167.length + l0.length < 8796093022208
    · rw [if_pos c2] at H
      have LMc2 := zq c2
      clear c2
      obtain ⟨y170, hy170⟩ : ∃ y_ : List (S38), y_ = (y167 ++ l0) := ⟨_, rfl⟩
      replace H : (some y170) = some r := by first | (rw [hy170]; with_reducible exact H) | (have H2_ := (Option.bind_some _ _).symm.trans H; rw [hy170]; with_reducible exact H2_) | (have H2_ := (Option.bind_some _ _).symm.trans H; with_reducible exact H2_) | with_reducible exact H | (rw [hy170]; exact H) | exact H
      have Ny170 := zq hy170
      clear hy170
      obtain rfl := Option.some.inj H
      go_enter Try.func37, Try.ntmps37
      go_wp2_with (first | ((with_reducible refine gate_dst (N := 5) rfl ?_); refine lwR k38 38 5 (xs := ([] : List (S38))) [] Ny167 (Reps.none _ _) ?_; intro v168 w3 ho4 hb; have HO169 := zq (Kd.R_lower ho4 (below_size J0)); replace HB := zq (below_step J0 hb); clear hb ho4) | ((with_reducible refine gate_builtin (b := .append) (xs := #[.tmp 5, .tmp 6]) rfl ?_); at_builtin; refine Kd.R_append_rows k38 (w0 := w) w.heap.size rfl (.tmp 5) (.tmp 6) 24 38 (.agg #[(.int .i64 0), (.int .i64 0)]) 16 rfl Try.underlying24 info38 rfl J17 J15 v168 y167 l0 _ _ _ (fun _ => True) (fun _ => False) rfl rfl ?aO ?aR (fun _ _ h => h) (fun _ h => h.elim) ?aF ?aB ?aS ?aL ?_; (case aR => repeat (first | exact (Kd.C_below HR0.out HB.out) | (with_reducible refine Kd.C_alloc ?_ _) | (with_reducible refine Kd.C_drewN ?_ _) | (with_reducible refine Kd.C_drew ?_))); (case aB => exact J0); (case aF => exact (fun _ _ => trivial)); (case aO => exact (zr HO169.out)); (case aS => exact (below_size J0)); (case aL => have := LMc2.out; omega); intro v171 w5 ho hb hg hat; rw [← Ny170.out] at ho; replace HB := zq (hb); have HO172 := zq (ho); clear HO169; clear ho hb hg hat))
      go_ret
      exact ⟨_, J3, by (with_reducible repeat (first | apply Kd.R_alloc | apply Kd.R_drewN | apply Kd.R_drew)); exact HO172.out, J0⟩
    · rw [if_neg c2] at H
      exact absurd H J30
end Go.Proofs.Ytecdklheppcihaa.HTightNumbers
