/- What the Go functions of this claim answer, told as functions of numbers and lists, and that other memory stays as it was: words and walks, shortened by a program. -/
import Derived.Test.YtecdklheppcihaaSTightShapex0
import Derived.Test.YtecdklheppcihaaSTightShapex1
import Derived.Test.YtecdklheppcihaaSTightShapex6
import Derived.Test.YtecdklheppcihaaSTightShapex10
namespace Go.Proofs.Ytecdklheppcihaa.HTightNumbers
open Go.RowKit Go.Proofs.YtecdklheppcihaaW.PrintWords Go.Proofs.YtecdklheppcihaaW.PrintLast Go.Proofs.YtecdklheppcihaaW.PrintMore
attribute [local go_sem] max2_int min2_int max_two min_two max_three min_three max_four min_four
set_option linter.unusedVariables false
set_option linter.unusedSimpArgs false
attribute [local go_sem high] eqA38
def tight_Make.f (k : Nat) (l0 : List (S30)) : Option ((List (S30)) × Bool) := (array_Right.f k l0).bind fun t339 => (if t339 = true then ((tight_form.f k l0).bind fun t340 => (some (t340, true))) else (some (([] : List (S30)), false)))
theorem tight_Make.mono : ∀ a0 k, LeO (tight_Make.f k a0) (tight_Make.f (k + 1) a0) := by
  intro a0 k
  unfold tight_Make.f
  have im0 := @array_Right.mono
  have im1 := @tight_form.mono
  exact mz3
set_option maxHeartbeats 8000000 in
set_option maxRecDepth 100000 in
theorem tight_Make.calls (k : Nat) (P0_ : Nat → Prop) (A0 : Option Addr) (c0 : Nat) (l0 : List (S30)) (r1 : List (S30)) (r2 : Bool) (w : World) (hs0 : Kd.V k30 30 w w.heap.size (fun k_ => P0_ k_) (.slice A0 l0.length c0) l0) (h : tight_Make.f k l0 = some (r1, r2)) :
    Calls Try.prog 11 #[.slice A0 l0.length c0] w fun e w' => ∃ v0_ : Value, e = .returned (.tuple #[v0_, .bool r2]) ∧ Kd.N k30 30 w' w.heap.size (fun k_ => (P0_ k_ ∨ w.heap.size ≤ k_)) v0_ r1 ∧ Below w.heap.size w w' := by
  have HO0 := zq (show Kd.V k30 30 w w.heap.size (fun k_ => (P0_ k_ ∨ w.heap.size ≤ k_)) (.slice A0 l0.length c0) l0 from Kd.V_mono hs0 (fun k_ hk => .inl hk))
  have HB := zq (Below.refl w.heap.size w)
  have H : ((array_Right.f k l0).bind fun t339 => (if t339 = true then ((tight_form.f k l0).bind fun t340 => (some (t340, true))) else (some (([] : List (S30)), false)))) = some (r1, r2) := h
  clear h
  replace H := Option.bind_eq_some_iff.mp H
  obtain ⟨t339, A20, H⟩ := H
  have A2 := zq A20
  clear A20
  by_cases c3 : t339 = true
  rotate_left
  · replace c3 := Bool.eq_false_iff.mpr c3
    subst c3
    rw [if_neg (show ¬ (false = true) by decide)] at H
    simp only [Option.some.injEq, Prod.mk.injEq] at H
    obtain ⟨rfl, rfl⟩ := H
    go_enter Try.func11, Try.ntmps11
    go_wp2_with (first | ((first | ((with_reducible refine gate_callee (f := 23) rfl ?_); refine goesL_ (some 5) rfl rfl Try.func23 J4 rfl #[.slice A0 l0.length c0] rfl J1 ?_) | go_at_call 23); (with_reducible refine (array_Right.calls k _ _ l0 false _ ?side1 ?side2 A2.out).mono ?_); (case side1 => exact zc ((Kd.V_reads' HO0.out).2.2)); (case side2 => exact (Kd.V_reads' HO0.out).2.1); rintro e w7 ⟨rfl, hb⟩; (try refine ⟨_, rfl, ?_⟩); replace HB := zq (below_step J0 hb); (try clear hb); (try clear hk)))
    go_ret2
    exact ⟨_, J3, by first | exact Kd.S_nil _ _ _ _ _ | exact Kd.N_nil _ _ _ _ _ | exact Kd.V_nil _ _ _ _ _ | exact Kd.Q_nil _ _ _ _ _ | exact Kd.R_nil _ _ _ _ _, J0⟩
  subst c3
  rw [if_pos rfl] at H
  replace H := Option.bind_eq_some_iff.mp H
  obtain ⟨t340, A40, H⟩ := H
  have A4 := zq A40
  clear A40
  simp only [Option.some.injEq, Prod.mk.injEq] at H
  obtain ⟨rfl, rfl⟩ := H
  go_enter Try.func11, Try.ntmps11
  go_wp2_with (first | ((first | ((with_reducible refine gate_callee (f := 23) rfl ?_); refine goesL_ (some 5) rfl rfl Try.func23 J4 rfl #[.slice A0 l0.length c0] rfl J1 ?_) | go_at_call 23); (with_reducible refine (array_Right.calls k _ _ l0 true _ ?side1 ?side2 A2.out).mono ?_); (case side1 => exact zc ((Kd.V_reads' HO0.out).2.2)); (case side2 => exact (Kd.V_reads' HO0.out).2.1); rintro e w5 ⟨rfl, hb⟩; (try refine ⟨_, rfl, ?_⟩); replace HO0 := zq (Kd.V_below (zv HO0.out) hb); replace HB := zq (below_step J0 hb); (try clear hb); (try clear hk)) | ((first | ((with_reducible refine gate_callee (f := 27) rfl ?_); refine goesL_ (some 8) rfl rfl Try.func27 J4 rfl #[.slice A0 l0.length c0] rfl J1 ?_) | go_at_call 27); (with_reducible refine (tight_form.calls k (fun k_ => (P0_ k_ ∨ w.heap.size ≤ k_)) _ _ l0 t340 _ ?side1 A4.out).mono ?_); (case side1 => exact HO0.out); rintro e w6 ⟨v341, rfl, ho0, hb⟩; (try refine ⟨_, rfl, ?_⟩); replace HO0 := zq (Kd.V_elder' (zv HO0.out) (Kd.N_base ho0) hb); have HO342 := zq (Kd.N_lower (Kd.N_mono (ok' := fun k_ => (P0_ k_ ∨ w.heap.size ≤ k_)) ho0 (fun k_ hk_ => Or.elim hk_ (fun hs_ => hs_) (fun hn_ => (.inr (Nat.le_trans (below_size J0) hn_))))) (below_size J0)); replace HB := zq (below_step J0 hb); (try clear hb); (try clear hk); (try clear ho0)))
  go_ret2
  exact ⟨_, J3, by (with_reducible repeat (first | apply Kd.N_alloc | apply Kd.N_drewN | apply Kd.N_drew)); exact HO342.out, J0⟩
def deckleref01_Same.l0 : Nat → List Int → List Int → Int → Option (Bool)
  | 0, _, _, _ => none
  | k + 1, x0, x1, x5 => if x5 < (x0.length : Int) then (if 0 ≤ x5 then (if x5 < (x1.length : Int) then (if (rd x0 x5) = (rd x1 x5) then (deckleref01_Same.l0 k x0 x1 (wrap64 (x5 + 1))) else (some false)) else (none)) else (none)) else (some true)
def deckleref01_Same.f (k : Nat) (l0 : List Int) (l1 : List Int) : Option (Bool) := if (l0.length : Int) = (l1.length : Int) then (deckleref01_Same.l0 k l0 l1 0) else (some false)
theorem deckleref01_Same.mono_l : ∀ k, (∀ y0 y1 y2, LeO (deckleref01_Same.l0 k y0 y1 y2) (deckleref01_Same.l0 (k + 1) y0 y1 y2))
  | 0 => fun _ _ _ r h => by simp [deckleref01_Same.l0] at h
  | k + 1 => by
    have ih0 := deckleref01_Same.mono_l k
    · intro y0 y1 y2
      unfold deckleref01_Same.l0
      exact mz0
theorem deckleref01_Same.mono : ∀ a0 a1 k, LeO (deckleref01_Same.f k a0 a1) (deckleref01_Same.f (k + 1) a0 a1) := by
  intro a0 a1 k
  have ih0 := deckleref01_Same.mono_l k
  unfold deckleref01_Same.f
  exact mz0
set_option maxHeartbeats 8000000 in
set_option maxRecDepth 100000 in
theorem deckleref01_Same.calls (k : Nat) (A0 : Option Addr) (c0 : Nat) (l0 : List Int) (A1 : Option Addr) (c1 : Nat) (l1 : List Int) (r : Bool) (w : World) (hr0 : Kd.C (Kd.int .i64) w A0 l0.length l0) (hc0 : l0.length ≤ c0) (hr1 : Kd.C (Kd.int .i64) w A1 l1.length l1) (hc1 : l1.length ≤ c1) (h : deckleref01_Same.f k l0 l1 = some r) :
    Calls Try.prog 21 #[.slice A0 l0.length c0, .slice A1 l1.length c1] w fun e w' => e = .returned (.bool r) ∧ Drawn0 w w' := by
  have HR0 := zq hr0
  have HC0 := zq hc0
  clear hr0 hc0
  have HR1 := zq hr1
  have HC1 := zq hc1
  clear hr1 hc1
  have H : (if (l0.length : Int) = (l1.length : Int) then (deckleref01_Same.l0 k l0 l1 0) else (some false)) = some r := h
  clear h
  by_cases c3 : (l0.length : Int) = (l1.length : Int)
  rotate_left
  · rw [if_neg c3] at H
    have c3b0 : ((l0.length : Int) == (l1.length : Int)) = false := beq_eq_false_iff_ne.mpr c3
    have c3b1 : ((l0.length : Int) != (l1.length : Int)) = true := bne_iff_ne.mpr c3
    have c3b2 : (l0.length == l1.length) = false := J49
    obtain rfl := Option.some.inj H
    go_enter Try.func21, Try.ntmps21
    go_wp2
    repeat (go_quiet (fail); try go_wp2)
    go_ret
    exact ⟨J6, J7⟩
  rw [if_pos c3] at H
  have c3b0 : ((l0.length : Int) == (l1.length : Int)) = true := beq_iff_eq.mpr c3
  have c3b1 : ((l0.length : Int) != (l1.length : Int)) = false := bne_eq_false_iff_eq.mpr c3
  have c3b2 : (l0.length == l1.length) = true := J49
  clear c3
  have H' := zq H
  clear H
  go_enter Try.func21, Try.ntmps21
  go_wp2
  repeat (go_quiet (fail); try go_wp2)
  go_loopg [5] k (fun kq v5 w' => ∃ (x5_1 : Int), v5 = .int .i64 x5_1 ∧ Aside0 (deckleref01_Same.l0 kq l0 l1 x5_1 = some r) ∧ Aside0 (kq ≤ k) ∧ Drawn0 w w')
  case atStart => exact ⟨(0), J6, H', ⟨Nat.le_refl _⟩, J7⟩
  case round =>
    clear H'
    try clear c1
    try clear c2
    try clear p2
    try clear c3
    try clear c3b0
    try clear c3b1
    try clear c3b2
    obtain ⟨x5_1, rfl, HA, HK1, ⟨m1, rfl⟩⟩ := hrel
    cases gk with
    | zero => exact absurd HA.out (by simp [deckleref01_Same.l0])
    | succ k1 =>
      have H := HA.out
      clear HA
      simp only [deckleref01_Same.l0] at H
      by_cases c4 : x5_1 < (l0.length : Int)
      rotate_left
      · rw [if_neg c4] at H
        have c4b0 := decide_eq_false c4
        clear c4
        obtain rfl := Option.some.inj H
        go_wp2
        repeat (go_quiet (fail); try go_wp2)
        go_ret
        exact ⟨J6, J7⟩
      rw [if_pos c4] at H
      have c4b0 := decide_eq_true c4
      clear c4
      by_cases c5 : 0 ≤ x5_1
      rotate_left
      · rw [if_neg c5] at H
        exact absurd H J30
      rw [if_pos c5] at H
      have c5b0 := decide_eq_true c5
      clear c5
      by_cases c6 : x5_1 < (l1.length : Int)
      rotate_left
      · rw [if_neg c6] at H
        exact absurd H J30
      rw [if_pos c6] at H
      have c6b0 := decide_eq_true c6
      clear c6
      by_cases c7 : (rd l0 x5_1) = (rd l1 x5_1)
      rotate_left
      · rw [if_neg c7] at H
        have c7b0 : ((rd l0 x5_1) == (rd l1 x5_1)) = false := beq_eq_false_iff_ne.mpr c7
        have c7b1 : ((rd l0 x5_1) != (rd l1 x5_1)) = true := bne_iff_ne.mpr c7
        obtain rfl := Option.some.inj H
        have p343 : 0 ≤ (x5_1 : Int) := of_decide_eq_true J2
        have q343 : x5_1 < (l0.length : Int) := of_decide_eq_true J2
        obtain ⟨ad343, e343, hx343_0⟩ := Kd.at_int HR0.out x5_1 p343 q343
        cases e343
        replace p343 := eq_true p343
        replace q343 := eq_true q343
        have p344 : 0 ≤ (x5_1 : Int) := of_decide_eq_true J2
        have q344 : x5_1 < (l1.length : Int) := of_decide_eq_true J2
        obtain ⟨ad344, e344, hx344_0⟩ := Kd.at_int HR1.out x5_1 p344 q344
        cases e344
        replace p344 := eq_true p344
        replace q344 := eq_true q344
        go_wp2
        repeat (go_quiet (fail); try go_wp2)
        go_ret
        exact ⟨J6, J7⟩
      rw [if_pos c7] at H
      have c7b0 : ((rd l0 x5_1) == (rd l1 x5_1)) = true := beq_iff_eq.mpr c7
      have c7b1 : ((rd l0 x5_1) != (rd l1 x5_1)) = false := bne_eq_false_iff_eq.mpr c7
      clear c7
      have H' := zq H
      clear H
      have p343 : 0 ≤ (x5_1 : Int) := of_decide_eq_true J2
      have q343 : x5_1 < (l0.length : Int) := of_decide_eq_true J2
      obtain ⟨ad343, e343, hx343_0⟩ := Kd.at_int HR0.out x5_1 p343 q343
      cases e343
      replace p343 := eq_true p343
      replace q343 := eq_true q343
      have p344 : 0 ≤ (x5_1 : Int) := of_decide_eq_true J2
      have q344 : x5_1 < (l1.length : Int) := of_decide_eq_true J2
      obtain ⟨ad344, e344, hx344_0⟩ := Kd.at_int HR1.out x5_1 p344 q344
      cases e344
      replace p344 := eq_true p344
      replace q344 := eq_true q344
      go_wp2
      repeat (go_quiet (fail); try go_wp2)
      go_roundg k1
      case measure => have := HK1.out; omega
      case rel => exact ⟨(wrap64 (x5_1 + 1)), J6, H', ⟨J66⟩, J7⟩
def deckleref10_One.l0 : Nat → Int → Int → List Int → List Int → List (S38) → Int → List Int → List Int → List (S38) → Option (Bool)
  | 0, _, _, _, _, _, _, _, _, _ => none
  | k + 1, x5, x346000, x346001, x346002, x346003, x347000, x347001, x347002, x347003 => if x5 < (x346003.length : Int) then (if 0 ≤ x5 then (if x5 < (x347003.length : Int) then (if (!(((rd_T38 x346003 x5).f0) == ((rd_T38 x347003 x5).f0)) || (!(((rd_T38 x346003 x5).f1) == ((rd_T38 x347003 x5).f1)))) = true then (some false) else (deckleref10_One.l0 k (wrap64 (x5 + 1)) x346000 x346001 x346002 x346003 x347000 x347001 x347002 x347003)) else (none)) else (none)) else (if x346000 = x347000 then ((deckleref01_Same.f k x346001 x347001).bind fun t349 => (if t349 = true then ((deckleref01_Same.f k x346002 x347002).bind fun t350 => (some t350)) else (some false))) else (some false))
def deckleref10_One.f (k : Nat) (a0_0 : Int) (l0_1 : List Int) (l0_2 : List Int) (l0_3 : List (S38)) (a1_0 : Int) (l1_1 : List Int) (l1_2 : List Int) (l1_3 : List (S38)) : Option (Bool) := if (l0_3.length : Int) = (l1_3.length : Int) then (deckleref10_One.l0 k 0 a0_0 l0_1 l0_2 l0_3 a1_0 l1_1 l1_2 l1_3) else (some false)
theorem deckleref10_One.mono_l : ∀ k, (∀ y0 y1 y2 y3 y4 y5 y6 y7 y8, LeO (deckleref10_One.l0 k y0 y1 y2 y3 y4 y5 y6 y7 y8) (deckleref10_One.l0 (k + 1) y0 y1 y2 y3 y4 y5 y6 y7 y8))
  | 0 => fun _ _ _ _ _ _ _ _ _ r h => by simp [deckleref10_One.l0] at h
  | k + 1 => by
    have ih0 := deckleref10_One.mono_l k
    · intro y0 y1 y2 y3 y4 y5 y6 y7 y8
      unfold deckleref10_One.l0
      have im0 := @deckleref01_Same.mono
      exact mz3
theorem deckleref10_One.mono : ∀ a0 a1 a2 a3 a4 a5 a6 a7 k, LeO (deckleref10_One.f k a0 a1 a2 a3 a4 a5 a6 a7) (deckleref10_One.f (k + 1) a0 a1 a2 a3 a4 a5 a6 a7) := by
  intro a0 a1 a2 a3 a4 a5 a6 a7 k
  have ih0 := deckleref10_One.mono_l k
  unfold deckleref10_One.f
  have im0 := @deckleref01_Same.mono
  exact mz3
set_option maxHeartbeats 8000000 in
set_option maxRecDepth 100000 in
theorem deckleref10_One.calls (k : Nat) (a0_0 : Int) (A0_1 : Option Addr) (c0_1 : Nat) (l0_1 : List Int) (A0_2 : Option Addr) (c0_2 : Nat) (l0_2 : List Int) (A0_3 : Option Addr) (c0_3 : Nat) (l0_3 : List (S38)) (a1_0 : Int) (A1_1 : Option Addr) (c1_1 : Nat) (l1_1 : List Int) (A1_2 : Option Addr) (c1_2 : Nat) (l1_2 : List Int) (A1_3 : Option Addr) (c1_3 : Nat) (l1_3 : List (S38)) (r : Bool) (w : World) (hr0_1 : Kd.C (Kd.int .i64) w A0_1 l0_1.length l0_1) (hc0_1 : l0_1.length ≤ c0_1) (hr0_2 : Kd.C (Kd.int .i64) w A0_2 l0_2.length l0_2) (hc0_2 : l0_2.length ≤ c0_2) (hr0_3 : Kd.C k38 w A0_3 l0_3.length l0_3) (hc0_3 : l0_3.length ≤ c0_3) (hr1_1 : Kd.C (Kd.int .i64) w A1_1 l1_1.length l1_1) (hc1_1 : l1_1.length ≤ c1_1) (hr1_2 : Kd.C (Kd.int .i64) w A1_2 l1_2.length l1_2) (hc1_2 : l1_2.length ≤ c1_2) (hr1_3 : Kd.C k38 w A1_3 l1_3.length l1_3) (hc1_3 : l1_3.length ≤ c1_3) (h : deckleref10_One.f k a0_0 l0_1 l0_2 l0_3 a1_0 l1_1 l1_2 l1_3 = some r) :
    Calls Try.prog 17 #[.agg #[.int .i64 a0_0, .slice A0_1 l0_1.length c0_1, .slice A0_2 l0_2.length c0_2, .slice A0_3 l0_3.length c0_3], .agg #[.int .i64 a1_0, .slice A1_1 l1_1.length c1_1, .slice A1_2 l1_2.length c1_2, .slice A1_3 l1_3.length c1_3]] w fun e w' => e = .returned (.bool r) ∧ Below w.heap.size w w' := by
  have hu30 := Try.underlying30
  have hu38 := Try.underlying38
  have HR0_1 := zq hr0_1
  have HC0_1 := zq hc0_1
  clear hr0_1 hc0_1
  have HR0_2 := zq hr0_2
  have HC0_2 := zq hc0_2
  clear hr0_2 hc0_2
  have HR0_3 := zq hr0_3
  have HC0_3 := zq hc0_3
  clear hr0_3 hc0_3
  have HR1_1 := zq hr1_1
  have HC1_1 := zq hc1_1
  clear hr1_1 hc1_1
  have HR1_2 := zq hr1_2
  have HC1_2 := zq hc1_2
  clear hr1_2 hc1_2
  have HR1_3 := zq hr1_3
  have HC1_3 := zq hc1_3
  clear hr1_3 hc1_3
  have HB := zq (Below.refl w.heap.size w)
  have H : (if (l0_3.length : Int) = (l1_3.length : Int) then (deckleref10_One.l0 k 0 a0_0 l0_1 l0_2 l0_3 a1_0 l1_1 l1_2 l1_3) else (some false)) = some r := h
  clear h
  by_cases c3 : (l0_3.length : Int) = (l1_3.length : Int)
  rotate_left
  · rw [if_neg c3] at H
    have c3b0 : ((l0_3.length : Int) == (l1_3.length : Int)) = false := beq_eq_false_iff_ne.mpr c3
    have c3b1 : ((l0_3.length : Int) != (l1_3.length : Int)) = true := bne_iff_ne.mpr c3
    have c3b2 : (l0_3.length == l1_3.length) = false := J49
    obtain rfl := Option.some.inj H
    go_enter Try.func17, Try.ntmps17
    go_wp2_with (first | ((with_reducible refine gate_dst (N := 2) rfl ?_); refine bxw 2 30 #[.int .i64 a0_0, .slice A0_1 l0_1.length c0_1, .slice A0_2 l0_2.length c0_2, .slice A0_3 l0_3.length c0_3] ?_; intro gb345 hg w32 hbox hb; have BK345 := zq (hbox); have GW345 := zq ((J16 : w.heap.size ≤ gb345)); have GE345 := zq ((J16 : w.heap.size ≤ gb345)); replace HB := zq (below_step J0 hb); clear hb hbox hg) | ((with_reducible refine gate_dst (N := 3) rfl ?_); refine bxw 3 30 #[.int .i64 a1_0, .slice A1_1 l1_1.length c1_1, .slice A1_2 l1_2.length c1_2, .slice A1_3 l1_3.length c1_3] ?_; intro gb346 hg w33 hbox hb; have BK346 := zq (hbox); have GW346 := zq ((J61 : w.heap.size ≤ gb346)); have GE346 := zq ((J61 : w.heap.size ≤ gb346)); replace HB := zq (below_step (zs1 GE345.out) hb); have NB345_346 := zq ((J24 : gb345 ≠ gb346)); have NB346_345 := zq ((J25 : gb346 ≠ gb345)); replace BK345 := zq (blk_below (g := gb345) (o := .cells #[.int .i64 a0_0, .slice A0_1 l0_1.length c0_1, .slice A0_2 l0_2.length c0_2, .slice A0_3 l0_3.length c0_3] 30 (0, 0)) (zk BK345.out) hb); clear hb hbox hg; have hnb34 := NB345_346.out; have hnc34 := NB346_345.out; obtain ⟨hcz35_0, hcz35_1, hcz35_2, hcz35_3, hfz35_0, hfz35_1, hfz35_2, hfz35_3⟩ := cz4 BK345.out; obtain ⟨hcz36_0, hcz36_1, hcz36_2, hcz36_3, hfz36_0, hfz36_1, hfz36_2, hfz36_3⟩ := cz4 BK346.out))
    repeat (go_quiet (first | ((with_reducible refine gate_dst (N := 2) rfl ?_); refine box_event ?hg (N := 2) ?hd (cs := #[.int .i64 a0_0, .slice A0_1 l0_1.length c0_1, .slice A0_2 l0_2.length c0_2, .slice A0_3 l0_3.length c0_3]) (t := 30) ?hr ?_; (case hd => rfl); (case hg => rfl); (case hr => first | (go_simp; done) | (go_simp; rfl)); intro gb345 hg w32 hbox hb; have n0_ := zq (below_step J0 hb); have n1_ := zq (hbox); have n2_ := zq ((J16 : w.heap.size ≤ gb345)); have n3_ := zq ((J16 : w.heap.size ≤ gb345)); clear HB; have HB := n0_; have BK345 := n1_; have GW345 := n2_; have GE345 := n3_; clear n0_ n1_ n2_ n3_; clear hb hbox hg) | ((with_reducible refine gate_dst (N := 3) rfl ?_); refine box_event ?hg (N := 3) ?hd (cs := #[.int .i64 a1_0, .slice A1_1 l1_1.length c1_1, .slice A1_2 l1_2.length c1_2, .slice A1_3 l1_3.length c1_3]) (t := 30) ?hr ?_; (case hd => rfl); (case hg => rfl); (case hr => first | (go_simp; done) | (go_simp; rfl)); intro gb346 hg w33 hbox hb; have n0_ := zq (blk_below (g := gb345) (o := .cells #[.int .i64 a0_0, .slice A0_1 l0_1.length c0_1, .slice A0_2 l0_2.length c0_2, .slice A0_3 l0_3.length c0_3] 30 (0, 0)) (zk BK345.out) hb); have n1_ := zq (below_step (zs1 GE345.out) hb); have n2_ := zq (hbox); have n3_ := zq ((J61 : w.heap.size ≤ gb346)); have n4_ := zq ((J61 : w.heap.size ≤ gb346)); have n5_ := zq ((J24 : gb345 ≠ gb346)); have n6_ := zq ((J25 : gb346 ≠ gb345)); clear BK345; clear HB; have BK345 := n0_; have HB := n1_; have BK346 := n2_; have GW346 := n3_; have GE346 := n4_; have NB345_346 := n5_; have NB346_345 := n6_; clear n0_ n1_ n2_ n3_ n4_ n5_ n6_; clear hb hbox hg; have hnb34 := NB345_346.out; have hnc34 := NB346_345.out; have hcz35_0 : w33.cell? ⟨gb345, 0, none⟩ = some (.int .i64 a0_0) := (blk_cell BK345.out 0).trans rfl; have hcz35_1 : w33.cell? ⟨gb345, 1, none⟩ = some (.slice A0_1 l0_1.length c0_1) := (blk_cell BK345.out 1).trans rfl; have hcz35_2 : w33.cell? ⟨gb345, 2, none⟩ = some (.slice A0_2 l0_2.length c0_2) := (blk_cell BK345.out 2).trans rfl; have hcz35_3 : w33.cell? ⟨gb345, 3, none⟩ = some (.slice A0_3 l0_3.length c0_3) := (blk_cell BK345.out 3).trans rfl; have hfz35_0 := blk_frozen BK345.out 0; have hfz35_1 := blk_frozen BK345.out 1; have hfz35_2 := blk_frozen BK345.out 2; have hfz35_3 := blk_frozen BK345.out 3; have hcz36_0 : w33.cell? ⟨gb346, 0, none⟩ = some (.int .i64 a1_0) := (blk_cell BK346.out 0).trans rfl; have hcz36_1 : w33.cell? ⟨gb346, 1, none⟩ = some (.slice A1_1 l1_1.length c1_1) := (blk_cell BK346.out 1).trans rfl; have hcz36_2 : w33.cell? ⟨gb346, 2, none⟩ = some (.slice A1_2 l1_2.length c1_2) := (blk_cell BK346.out 2).trans rfl; have hcz36_3 : w33.cell? ⟨gb346, 3, none⟩ = some (.slice A1_3 l1_3.length c1_3) := (blk_cell BK346.out 3).trans rfl; have hfz36_0 := blk_frozen BK346.out 0; have hfz36_1 := blk_frozen BK346.out 1; have hfz36_2 := blk_frozen BK346.out 2; have hfz36_3 := blk_frozen BK346.out 3)); try go_wp2_with (first | ((with_reducible refine gate_dst (N := 2) rfl ?_); refine box_event ?hg (N := 2) ?hd (cs := #[.int .i64 a0_0, .slice A0_1 l0_1.length c0_1, .slice A0_2 l0_2.length c0_2, .slice A0_3 l0_3.length c0_3]) (t := 30) ?hr ?_; (case hd => rfl); (case hg => rfl); (case hr => first | (go_simp; done) | (go_simp; rfl)); intro gb345 hg w32 hbox hb; have n0_ := zq (below_step J0 hb); have n1_ := zq (hbox); have n2_ := zq ((J16 : w.heap.size ≤ gb345)); have n3_ := zq ((J16 : w.heap.size ≤ gb345)); clear HB; have HB := n0_; have BK345 := n1_; have GW345 := n2_; have GE345 := n3_; clear n0_ n1_ n2_ n3_; clear hb hbox hg) | ((with_reducible refine gate_dst (N := 3) rfl ?_); refine box_event ?hg (N := 3) ?hd (cs := #[.int .i64 a1_0, .slice A1_1 l1_1.length c1_1, .slice A1_2 l1_2.length c1_2, .slice A1_3 l1_3.length c1_3]) (t := 30) ?hr ?_; (case hd => rfl); (case hg => rfl); (case hr => first | (go_simp; done) | (go_simp; rfl)); intro gb346 hg w33 hbox hb; have n0_ := zq (blk_below (g := gb345) (o := .cells #[.int .i64 a0_0, .slice A0_1 l0_1.length c0_1, .slice A0_2 l0_2.length c0_2, .slice A0_3 l0_3.length c0_3] 30 (0, 0)) (zk BK345.out) hb); have n1_ := zq (below_step (zs1 GE345.out) hb); have n2_ := zq (hbox); have n3_ := zq ((J61 : w.heap.size ≤ gb346)); have n4_ := zq ((J61 : w.heap.size ≤ gb346)); have n5_ := zq ((J24 : gb345 ≠ gb346)); have n6_ := zq ((J25 : gb346 ≠ gb345)); clear BK345; clear HB; have BK345 := n0_; have HB := n1_; have BK346 := n2_; have GW346 := n3_; have GE346 := n4_; have NB345_346 := n5_; have NB346_345 := n6_; clear n0_ n1_ n2_ n3_ n4_ n5_ n6_; clear hb hbox hg; have hnb34 := NB345_346.out; have hnc34 := NB346_345.out; have hcz35_0 : w33.cell? ⟨gb345, 0, none⟩ = some (.int .i64 a0_0) := (blk_cell BK345.out 0).trans rfl; have hcz35_1 : w33.cell? ⟨gb345, 1, none⟩ = some (.slice A0_1 l0_1.length c0_1) := (blk_cell BK345.out 1).trans rfl; have hcz35_2 : w33.cell? ⟨gb345, 2, none⟩ = some (.slice A0_2 l0_2.length c0_2) := (blk_cell BK345.out 2).trans rfl; have hcz35_3 : w33.cell? ⟨gb345, 3, none⟩ = some (.slice A0_3 l0_3.length c0_3) := (blk_cell BK345.out 3).trans rfl; have hfz35_0 := blk_frozen BK345.out 0; have hfz35_1 := blk_frozen BK345.out 1; have hfz35_2 := blk_frozen BK345.out 2; have hfz35_3 := blk_frozen BK345.out 3; have hcz36_0 : w33.cell? ⟨gb346, 0, none⟩ = some (.int .i64 a1_0) := (blk_cell BK346.out 0).trans rfl; have hcz36_1 : w33.cell? ⟨gb346, 1, none⟩ = some (.slice A1_1 l1_1.length c1_1) := (blk_cell BK346.out 1).trans rfl; have hcz36_2 : w33.cell? ⟨gb346, 2, none⟩ = some (.slice A1_2 l1_2.length c1_2) := (blk_cell BK346.out 2).trans rfl; have hcz36_3 : w33.cell? ⟨gb346, 3, none⟩ = some (.slice A1_3 l1_3.length c1_3) := (blk_cell BK346.out 3).trans rfl; have hfz36_0 := blk_frozen BK346.out 0; have hfz36_1 := blk_frozen BK346.out 1; have hfz36_2 := blk_frozen BK346.out 2; have hfz36_3 := blk_frozen BK346.out 3)))
    go_ret
    exact ⟨J3, J18⟩
  rw [if_pos c3] at H
  have c3b0 : ((l0_3.length : Int) == (l1_3.length : Int)) = true := beq_iff_eq.mpr c3
  have c3b1 : ((l0_3.length : Int) != (l1_3.length : Int)) = false := bne_eq_false_iff_eq.mpr c3
  have c3b2 : (l0_3.length == l1_3.length) = true := J49
  clear c3
  have H' := zq H
  clear H
  go_enter Try.func17, Try.ntmps17
  go_wp2_with (first | ((with_reducible refine gate_dst (N := 2) rfl ?_); refine bxw 2 30 #[.int .i64 a0_0, .slice A0_1 l0_1.length c0_1, .slice A0_2 l0_2.length c0_2, .slice A0_3 l0_3.length c0_3] ?_; intro gb345 hg w4 hbox hb; have BK345 := zq (hbox); have GW345 := zq ((J16 : w.heap.size ≤ gb345)); have GE345 := zq ((J16 : w.heap.size ≤ gb345)); replace HB := zq (below_step J0 hb); clear hb hbox hg) | ((with_reducible refine gate_dst (N := 3) rfl ?_); refine bxw 3 30 #[.int .i64 a1_0, .slice A1_1 l1_1.length c1_1, .slice A1_2 l1_2.length c1_2, .slice A1_3 l1_3.length c1_3] ?_; intro gb346 hg w5 hbox hb; have BK346 := zq (hbox); have GW346 := zq ((J61 : w.heap.size ≤ gb346)); have GE346 := zq ((J61 : w.heap.size ≤ gb346)); replace HB := zq (below_step (zs1 GE345.out) hb); have NB345_346 := zq ((J24 : gb345 ≠ gb346)); have NB346_345 := zq ((J25 : gb346 ≠ gb345)); replace BK345 := zq (blk_below (g := gb345) (o := .cells #[.int .i64 a0_0, .slice A0_1 l0_1.length c0_1, .slice A0_2 l0_2.length c0_2, .slice A0_3 l0_3.length c0_3] 30 (0, 0)) (zk BK345.out) hb); clear hb hbox hg; have hnb6 := NB345_346.out; have hnc6 := NB346_345.out; obtain ⟨hcz7_0, hcz7_1, hcz7_2, hcz7_3, hfz7_0, hfz7_1, hfz7_2, hfz7_3⟩ := cz4 BK345.out; obtain ⟨hcz8_0, hcz8_1, hcz8_2, hcz8_3, hfz8_0, hfz8_1, hfz8_2, hfz8_3⟩ := cz4 BK346.out))
  repeat (go_quiet (first | ((with_reducible refine gate_dst (N := 2) rfl ?_); refine box_event ?hg (N := 2) ?hd (cs := #[.int .i64 a0_0, .slice A0_1 l0_1.length c0_1, .slice A0_2 l0_2.length c0_2, .slice A0_3 l0_3.length c0_3]) (t := 30) ?hr ?_; (case hd => rfl); (case hg => rfl); (case hr => first | (go_simp; done) | (go_simp; rfl)); intro gb345 hg w4 hbox hb; have n0_ := zq (below_step J0 hb); have n1_ := zq (hbox); have n2_ := zq ((J16 : w.heap.size ≤ gb345)); have n3_ := zq ((J16 : w.heap.size ≤ gb345)); clear HB; have HB := n0_; have BK345 := n1_; have GW345 := n2_; have GE345 := n3_; clear n0_ n1_ n2_ n3_; clear hb hbox hg) | ((with_reducible refine gate_dst (N := 3) rfl ?_); refine box_event ?hg (N := 3) ?hd (cs := #[.int .i64 a1_0, .slice A1_1 l1_1.length c1_1, .slice A1_2 l1_2.length c1_2, .slice A1_3 l1_3.length c1_3]) (t := 30) ?hr ?_; (case hd => rfl); (case hg => rfl); (case hr => first | (go_simp; done) | (go_simp; rfl)); intro gb346 hg w5 hbox hb; have n0_ := zq (blk_below (g := gb345) (o := .cells #[.int .i64 a0_0, .slice A0_1 l0_1.length c0_1, .slice A0_2 l0_2.length c0_2, .slice A0_3 l0_3.length c0_3] 30 (0, 0)) (zk BK345.out) hb); have n1_ := zq (below_step (zs1 GE345.out) hb); have n2_ := zq (hbox); have n3_ := zq ((J61 : w.heap.size ≤ gb346)); have n4_ := zq ((J61 : w.heap.size ≤ gb346)); have n5_ := zq ((J24 : gb345 ≠ gb346)); have n6_ := zq ((J25 : gb346 ≠ gb345)); clear BK345; clear HB; have BK345 := n0_; have HB := n1_; have BK346 := n2_; have GW346 := n3_; have GE346 := n4_; have NB345_346 := n5_; have NB346_345 := n6_; clear n0_ n1_ n2_ n3_ n4_ n5_ n6_; clear hb hbox hg; have hnb6 := NB345_346.out; have hnc6 := NB346_345.out; have hcz7_0 : w5.cell? ⟨gb345, 0, none⟩ = some (.int .i64 a0_0) := (blk_cell BK345.out 0).trans rfl; have hcz7_1 : w5.cell? ⟨gb345, 1, none⟩ = some (.slice A0_1 l0_1.length c0_1) := (blk_cell BK345.out 1).trans rfl; have hcz7_2 : w5.cell? ⟨gb345, 2, none⟩ = some (.slice A0_2 l0_2.length c0_2) := (blk_cell BK345.out 2).trans rfl; have hcz7_3 : w5.cell? ⟨gb345, 3, none⟩ = some (.slice A0_3 l0_3.length c0_3) := (blk_cell BK345.out 3).trans rfl; have hfz7_0 := blk_frozen BK345.out 0; have hfz7_1 := blk_frozen BK345.out 1; have hfz7_2 := blk_frozen BK345.out 2; have hfz7_3 := blk_frozen BK345.out 3; have hcz8_0 : w5.cell? ⟨gb346, 0, none⟩ = some (.int .i64 a1_0) := (blk_cell BK346.out 0).trans rfl; have hcz8_1 : w5.cell? ⟨gb346, 1, none⟩ = some (.slice A1_1 l1_1.length c1_1) := (blk_cell BK346.out 1).trans rfl; have hcz8_2 : w5.cell? ⟨gb346, 2, none⟩ = some (.slice A1_2 l1_2.length c1_2) := (blk_cell BK346.out 2).trans rfl; have hcz8_3 : w5.cell? ⟨gb346, 3, none⟩ = some (.slice A1_3 l1_3.length c1_3) := (blk_cell BK346.out 3).trans rfl; have hfz8_0 := blk_frozen BK346.out 0; have hfz8_1 := blk_frozen BK346.out 1; have hfz8_2 := blk_frozen BK346.out 2; have hfz8_3 := blk_frozen BK346.out 3)); try go_wp2_with (first | ((with_reducible refine gate_dst (N := 2) rfl ?_); refine box_event ?hg (N := 2) ?hd (cs := #[.int .i64 a0_0, .slice A0_1 l0_1.length c0_1, .slice A0_2 l0_2.length c0_2, .slice A0_3 l0_3.length c0_3]) (t := 30) ?hr ?_; (case hd => rfl); (case hg => rfl); (case hr => first | (go_simp; done) | (go_simp; rfl)); intro gb345 hg w4 hbox hb; have n0_ := zq (below_step J0 hb); have n1_ := zq (hbox); have n2_ := zq ((J16 : w.heap.size ≤ gb345)); have n3_ := zq ((J16 : w.heap.size ≤ gb345)); clear HB; have HB := n0_; have BK345 := n1_; have GW345 := n2_; have GE345 := n3_; clear n0_ n1_ n2_ n3_; clear hb hbox hg) | ((with_reducible refine gate_dst (N := 3) rfl ?_); refine box_event ?hg (N := 3) ?hd (cs := #[.int .i64 a1_0, .slice A1_1 l1_1.length c1_1, .slice A1_2 l1_2.length c1_2, .slice A1_3 l1_3.length c1_3]) (t := 30) ?hr ?_; (case hd => rfl); (case hg => rfl); (case hr => first | (go_simp; done) | (go_simp; rfl)); intro gb346 hg w5 hbox hb; have n0_ := zq (blk_below (g := gb345) (o := .cells #[.int .i64 a0_0, .slice A0_1 l0_1.length c0_1, .slice A0_2 l0_2.length c0_2, .slice A0_3 l0_3.length c0_3] 30 (0, 0)) (zk BK345.out) hb); have n1_ := zq (below_step (zs1 GE345.out) hb); have n2_ := zq (hbox); have n3_ := zq ((J61 : w.heap.size ≤ gb346)); have n4_ := zq ((J61 : w.heap.size ≤ gb346)); have n5_ := zq ((J24 : gb345 ≠ gb346)); have n6_ := zq ((J25 : gb346 ≠ gb345)); clear BK345; clear HB; have BK345 := n0_; have HB := n1_; have BK346 := n2_; have GW346 := n3_; have GE346 := n4_; have NB345_346 := n5_; have NB346_345 := n6_; clear n0_ n1_ n2_ n3_ n4_ n5_ n6_; clear hb hbox hg; have hnb6 := NB345_346.out; have hnc6 := NB346_345.out; have hcz7_0 : w5.cell? ⟨gb345, 0, none⟩ = some (.int .i64 a0_0) := (blk_cell BK345.out 0).trans rfl; have hcz7_1 : w5.cell? ⟨gb345, 1, none⟩ = some (.slice A0_1 l0_1.length c0_1) := (blk_cell BK345.out 1).trans rfl; have hcz7_2 : w5.cell? ⟨gb345, 2, none⟩ = some (.slice A0_2 l0_2.length c0_2) := (blk_cell BK345.out 2).trans rfl; have hcz7_3 : w5.cell? ⟨gb345, 3, none⟩ = some (.slice A0_3 l0_3.length c0_3) := (blk_cell BK345.out 3).trans rfl; have hfz7_0 := blk_frozen BK345.out 0; have hfz7_1 := blk_frozen BK345.out 1; have hfz7_2 := blk_frozen BK345.out 2; have hfz7_3 := blk_frozen BK345.out 3; have hcz8_0 : w5.cell? ⟨gb346, 0, none⟩ = some (.int .i64 a1_0) := (blk_cell BK346.out 0).trans rfl; have hcz8_1 : w5.cell? ⟨gb346, 1, none⟩ = some (.slice A1_1 l1_1.length c1_1) := (blk_cell BK346.out 1).trans rfl; have hcz8_2 : w5.cell? ⟨gb346, 2, none⟩ = some (.slice A1_2 l1_2.length c1_2) := (blk_cell BK346.out 2).trans rfl; have hcz8_3 : w5.cell? ⟨gb346, 3, none⟩ = some (.slice A1_3 l1_3.length c1_3) := (blk_cell BK346.out 3).trans rfl; have hfz8_0 := blk_frozen BK346.out 0; have hfz8_1 := blk_frozen BK346.out 1; have hfz8_2 := blk_frozen BK346.out 2; have hfz8_3 := blk_frozen BK346.out 3)))
  go_loopg [5] k (fun kq v5 w' => ∃ (x5_1 : Int), v5 = .int .i64 x5_1 ∧ Aside0 (deckleref10_One.l0 kq x5_1 a0_0 l0_1 l0_2 l0_3 a1_0 l1_1 l1_2 l1_3 = some r) ∧ Aside0 (kq ≤ k) ∧ Aside0 (w'.heap[gb345]? = some (.cells #[.int .i64 a0_0, (.slice A0_1 l0_1.length c0_1), (.slice A0_2 l0_2.length c0_2), (.slice A0_3 l0_3.length c0_3)] 30 (0, 0))) ∧ Aside0 (w'.heap[gb346]? = some (.cells #[.int .i64 a1_0, (.slice A1_1 l1_1.length c1_1), (.slice A1_2 l1_2.length c1_2), (.slice A1_3 l1_3.length c1_3)] 30 (0, 0))) ∧ Aside0 (Below w.heap.size w w'))
  case atStart => exact ⟨(0), J6, H', ⟨Nat.le_refl _⟩, ⟨J107⟩, ⟨J108⟩, ⟨J18⟩⟩
  case round =>
    clear H'
    try clear c1
    try clear p2
    try clear c3
    try clear c3b0
    try clear c3b1
    try clear c3b2
    try clear c6
    try clear hcz7_0
    try clear hcz7_1
    try clear hcz7_2
    try clear hcz7_3
    try clear hcz8_0
    try clear hcz8_1
    try clear hcz8_2
    try clear hcz8_3
    try clear hfz7_0
    try clear hfz7_1
    try clear hfz7_2
    try clear hfz7_3
    try clear hfz8_0
    try clear hfz8_1
    try clear hfz8_2
    try clear hfz8_3
    obtain ⟨x5_1, rfl, HA, HK1, BK345, BK346, HB⟩ := hrel
    cases gk with
    | zero => exact absurd HA.out (by simp [deckleref10_One.l0])
    | succ k1 =>
      have H := HA.out
      clear HA
      simp only [deckleref10_One.l0] at H
      by_cases c9 : x5_1 < (l0_3.length : Int)
      rotate_left
      · rw [if_neg c9] at H
        have c9b0 := decide_eq_false c9
        clear c9
        by_cases c19 : a0_0 = a1_0
        · rw [if_pos c19] at H
          have c19b0 : (a0_0 == a1_0) = true := beq_iff_eq.mpr c19
          have c19b1 : (a0_0 != a1_0) = false := bne_eq_false_iff_eq.mpr c19
          clear c19
          replace H := Option.bind_eq_some_iff.mp H
          obtain ⟨t349, A200, H⟩ := H
          have A20 := zq A200
          clear A200
          by_cases c21 : t349 = true
          · subst c21
            rw [if_pos rfl] at H
            replace H := Option.bind_eq_some_iff.mp H
            obtain ⟨t350, A220, H⟩ := H
            have A22 := zq A220
            clear A220
            obtain rfl := Option.some.inj H
            have hnb23 := NB345_346.out
            have hnc23 := NB346_345.out
            obtain ⟨hcz24_0, hcz24_1, hcz24_2, hcz24_3, hfz24_0, hfz24_1, hfz24_2, hfz24_3⟩ := cz4 BK345.out
            obtain ⟨hcz25_0, hcz25_1, hcz25_2, hcz25_3, hfz25_0, hfz25_1, hfz25_2, hfz25_3⟩ := cz4 BK346.out
            go_wp2_with (first | (go_at_call 21; (with_reducible refine (deckleref01_Same.calls k1 _ _ l0_1 _ _ l1_1 true _ ?side1 ?side2 ?side3 ?side4 A20.out).mono ?_); (case side1 => exact zc (Kd.C_below HR0_1.out HB.out)); (case side2 => exact HC0_1.out); (case side3 => exact zc (Kd.C_below HR1_1.out HB.out)); (case side4 => exact HC1_1.out); rintro e w' ⟨rfl, ⟨nd, rfl⟩⟩; (try first | exact ⟨rfl, _, World.drewN_drewN _ _ _⟩ | exact ⟨rfl, _, Eq.trans (World.drewN_drewN _ _ _) (congrArg (World.drewN _) (Nat.add_assoc _ _ _))⟩)) | (go_at_call 21; (with_reducible refine (deckleref01_Same.calls k1 _ _ l0_2 _ _ l1_2 t350 _ ?side1 ?side2 ?side3 ?side4 A22.out).mono ?_); (case side1 => repeat (first | exact (Kd.C_below HR0_2.out (zs2 GE345.out GE346.out)) | (with_reducible refine Kd.C_alloc ?_ _) | (with_reducible refine Kd.C_drewN ?_ _) | (with_reducible refine Kd.C_drew ?_))); (case side2 => exact HC0_2.out); (case side3 => repeat (first | exact (Kd.C_below HR1_2.out (zs2 GE345.out GE346.out)) | (with_reducible refine Kd.C_alloc ?_ _) | (with_reducible refine Kd.C_drewN ?_ _) | (with_reducible refine Kd.C_drew ?_))); (case side4 => exact HC1_2.out); rintro e w' ⟨rfl, ⟨nd, rfl⟩⟩; (try first | exact ⟨rfl, _, World.drewN_drewN _ _ _⟩ | exact ⟨rfl, _, Eq.trans (World.drewN_drewN _ _ _) (congrArg (World.drewN _) (Nat.add_assoc _ _ _))⟩)))
            repeat (go_quiet (first | (go_at_call 21; (with_reducible refine (deckleref01_Same.calls k1 _ _ l0_1 _ _ l1_1 true _ ?side1 ?side2 ?side3 ?side4 A20.out).mono ?_); (case side1 => exact zc (Kd.C_below HR0_1.out HB.out)); (case side2 => exact HC0_1.out); (case side3 => exact zc (Kd.C_below HR1_1.out HB.out)); (case side4 => exact HC1_1.out); rintro e w' ⟨rfl, ⟨nd, rfl⟩⟩; (try first | exact ⟨rfl, _, World.drewN_drewN _ _ _⟩ | exact ⟨rfl, _, Eq.trans (World.drewN_drewN _ _ _) (congrArg (World.drewN _) (Nat.add_assoc _ _ _))⟩)) | (go_at_call 21; (with_reducible refine (deckleref01_Same.calls k1 _ _ l0_2 _ _ l1_2 t350 _ ?side1 ?side2 ?side3 ?side4 A22.out).mono ?_); (case side1 => repeat (first | exact (Kd.C_below HR0_2.out (zs2 GE345.out GE346.out)) | (with_reducible refine Kd.C_alloc ?_ _) | (with_reducible refine Kd.C_drewN ?_ _) | (with_reducible refine Kd.C_drew ?_))); (case side2 => exact HC0_2.out); (case side3 => repeat (first | exact (Kd.C_below HR1_2.out (zs2 GE345.out GE346.out)) | (with_reducible refine Kd.C_alloc ?_ _) | (with_reducible refine Kd.C_drewN ?_ _) | (with_reducible refine Kd.C_drew ?_))); (case side4 => exact HC1_2.out); rintro e w' ⟨rfl, ⟨nd, rfl⟩⟩; (try first | exact ⟨rfl, _, World.drewN_drewN _ _ _⟩ | exact ⟨rfl, _, Eq.trans (World.drewN_drewN _ _ _) (congrArg (World.drewN _) (Nat.add_assoc _ _ _))⟩))); try go_wp2_with (first | (go_at_call 21; (with_reducible refine (deckleref01_Same.calls k1 _ _ l0_1 _ _ l1_1 true _ ?side1 ?side2 ?side3 ?side4 A20.out).mono ?_); (case side1 => exact zc (Kd.C_below HR0_1.out HB.out)); (case side2 => exact HC0_1.out); (case side3 => exact zc (Kd.C_below HR1_1.out HB.out)); (case side4 => exact HC1_1.out); rintro e w' ⟨rfl, ⟨nd, rfl⟩⟩; (try first | exact ⟨rfl, _, World.drewN_drewN _ _ _⟩ | exact ⟨rfl, _, Eq.trans (World.drewN_drewN _ _ _) (congrArg (World.drewN _) (Nat.add_assoc _ _ _))⟩)) | (go_at_call 21; (with_reducible refine (deckleref01_Same.calls k1 _ _ l0_2 _ _ l1_2 t350 _ ?side1 ?side2 ?side3 ?side4 A22.out).mono ?_); (case side1 => repeat (first | exact (Kd.C_below HR0_2.out (zs2 GE345.out GE346.out)) | (with_reducible refine Kd.C_alloc ?_ _) | (with_reducible refine Kd.C_drewN ?_ _) | (with_reducible refine Kd.C_drew ?_))); (case side2 => exact HC0_2.out); (case side3 => repeat (first | exact (Kd.C_below HR1_2.out (zs2 GE345.out GE346.out)) | (with_reducible refine Kd.C_alloc ?_ _) | (with_reducible refine Kd.C_drewN ?_ _) | (with_reducible refine Kd.C_drew ?_))); (case side4 => exact HC1_2.out); rintro e w' ⟨rfl, ⟨nd, rfl⟩⟩; (try first | exact ⟨rfl, _, World.drewN_drewN _ _ _⟩ | exact ⟨rfl, _, Eq.trans (World.drewN_drewN _ _ _) (congrArg (World.drewN _) (Nat.add_assoc _ _ _))⟩))))
            go_ret
            exact ⟨J3, J18⟩
          · replace c21 := Bool.eq_false_iff.mpr c21
            subst c21
            rw [if_neg (show ¬ (false = true) by decide)] at H
            obtain rfl := Option.some.inj H
            have hnb26 := NB345_346.out
            have hnc26 := NB346_345.out
            obtain ⟨hcz27_0, hcz27_1, hcz27_2, hcz27_3, hfz27_0, hfz27_1, hfz27_2, hfz27_3⟩ := cz4 BK345.out
            obtain ⟨hcz28_0, hcz28_1, hcz28_2, hcz28_3, hfz28_0, hfz28_1, hfz28_2, hfz28_3⟩ := cz4 BK346.out
            go_wp2_with (first | (go_at_call 21; (with_reducible refine (deckleref01_Same.calls k1 _ _ l0_1 _ _ l1_1 false _ ?side1 ?side2 ?side3 ?side4 A20.out).mono ?_); (case side1 => exact zc (Kd.C_below HR0_1.out HB.out)); (case side2 => exact HC0_1.out); (case side3 => exact zc (Kd.C_below HR1_1.out HB.out)); (case side4 => exact HC1_1.out); rintro e w' ⟨rfl, ⟨nd, rfl⟩⟩; (try first | exact ⟨rfl, _, World.drewN_drewN _ _ _⟩ | exact ⟨rfl, _, Eq.trans (World.drewN_drewN _ _ _) (congrArg (World.drewN _) (Nat.add_assoc _ _ _))⟩)))
            repeat (go_quiet (first | (go_at_call 21; (with_reducible refine (deckleref01_Same.calls k1 _ _ l0_1 _ _ l1_1 false _ ?side1 ?side2 ?side3 ?side4 A20.out).mono ?_); (case side1 => exact zc (Kd.C_below HR0_1.out HB.out)); (case side2 => exact HC0_1.out); (case side3 => exact zc (Kd.C_below HR1_1.out HB.out)); (case side4 => exact HC1_1.out); rintro e w' ⟨rfl, ⟨nd, rfl⟩⟩; (try first | exact ⟨rfl, _, World.drewN_drewN _ _ _⟩ | exact ⟨rfl, _, Eq.trans (World.drewN_drewN _ _ _) (congrArg (World.drewN _) (Nat.add_assoc _ _ _))⟩))); try go_wp2_with (first | (go_at_call 21; (with_reducible refine (deckleref01_Same.calls k1 _ _ l0_1 _ _ l1_1 false _ ?side1 ?side2 ?side3 ?side4 A20.out).mono ?_); (case side1 => exact zc (Kd.C_below HR0_1.out HB.out)); (case side2 => exact HC0_1.out); (case side3 => exact zc (Kd.C_below HR1_1.out HB.out)); (case side4 => exact HC1_1.out); rintro e w' ⟨rfl, ⟨nd, rfl⟩⟩; (try first | exact ⟨rfl, _, World.drewN_drewN _ _ _⟩ | exact ⟨rfl, _, Eq.trans (World.drewN_drewN _ _ _) (congrArg (World.drewN _) (Nat.add_assoc _ _ _))⟩))))
            go_ret
            exact ⟨J3, J18⟩
        · rw [if_neg c19] at H
          have c19b0 : (a0_0 == a1_0) = false := beq_eq_false_iff_ne.mpr c19
          have c19b1 : (a0_0 != a1_0) = true := bne_iff_ne.mpr c19
          obtain rfl := Option.some.inj H
          have hnb29 := NB345_346.out
          have hnc29 := NB346_345.out
          obtain ⟨hcz30_0, hcz30_1, hcz30_2, hcz30_3, hfz30_0, hfz30_1, hfz30_2, hfz30_3⟩ := cz4 BK345.out
          obtain ⟨hcz31_0, hcz31_1, hcz31_2, hcz31_3, hfz31_0, hfz31_1, hfz31_2, hfz31_3⟩ := cz4 BK346.out
          go_wp2
          repeat (go_quiet (fail); try go_wp2)
          go_ret
          exact ⟨J3, J18⟩
      rw [if_pos c9] at H
      have c9b0 := decide_eq_true c9
      clear c9
      by_cases c10 : 0 ≤ x5_1
      rotate_left
      · rw [if_neg c10] at H
        exact absurd H J30
      rw [if_pos c10] at H
      have c10b0 := decide_eq_true c10
      clear c10
      by_cases c11 : x5_1 < (l1_3.length : Int)
      rotate_left
      · rw [if_neg c11] at H
        exact absurd H J30
      rw [if_pos c11] at H
      have c11b0 := decide_eq_true c11
      clear c11
      by_cases c12 : (!(((rd_T38 l0_3 x5_1).f0) == ((rd_T38 l1_3 x5_1).f0)) || (!(((rd_T38 l0_3 x5_1).f1) == ((rd_T38 l1_3 x5_1).f1)))) = true
      · rw [if_pos c12] at H
        have c12b0 : (!(((rd_T38 l0_3 x5_1).f0) == ((rd_T38 l1_3 x5_1).f0)) || (!(((rd_T38 l0_3 x5_1).f1) == ((rd_T38 l1_3 x5_1).f1)))) = true := c12
        clear c12
        obtain rfl := Option.some.inj H
        have hnb13 := NB345_346.out
        have hnc13 := NB346_345.out
        obtain ⟨hcz14_0, hcz14_1, hcz14_2, hcz14_3, hfz14_0, hfz14_1, hfz14_2, hfz14_3⟩ := cz4 BK345.out
        have p347 : 0 ≤ (x5_1 : Int) := of_decide_eq_true J2
        have q347 : x5_1 < (l0_3.length : Int) := of_decide_eq_true J2
        obtain ⟨ad347, e347, hx347_0, hx347_1⟩ := at_T38 HR0_3.out x5_1 p347 q347
        cases e347
        replace hx347_0 := (HB.out.cell (World.block_lt_of_cell? w _ hx347_0)).trans hx347_0
        replace hx347_1 := (HB.out.cell (World.block_lt_of_cell? w _ hx347_1)).trans hx347_1
        replace p347 := eq_true p347
        replace q347 := eq_true q347
        obtain ⟨hcz15_0, hcz15_1, hcz15_2, hcz15_3, hfz15_0, hfz15_1, hfz15_2, hfz15_3⟩ := cz4 BK346.out
        have p348 : 0 ≤ (x5_1 : Int) := of_decide_eq_true J2
        have q348 : x5_1 < (l1_3.length : Int) := of_decide_eq_true J2
        obtain ⟨ad348, e348, hx348_0, hx348_1⟩ := at_T38 HR1_3.out x5_1 p348 q348
        cases e348
        replace hx348_0 := (HB.out.cell (World.block_lt_of_cell? w _ hx348_0)).trans hx348_0
        replace hx348_1 := (HB.out.cell (World.block_lt_of_cell? w _ hx348_1)).trans hx348_1
        replace p348 := eq_true p348
        replace q348 := eq_true q348
        go_wp2
        repeat (go_quiet (fail); try go_wp2)
        go_ret
        exact ⟨J3, J18⟩
      rw [if_neg c12] at H
      have c12b0 : (!(((rd_T38 l0_3 x5_1).f0) == ((rd_T38 l1_3 x5_1).f0)) || (!(((rd_T38 l0_3 x5_1).f1) == ((rd_T38 l1_3 x5_1).f1)))) = false := by simpa using c12
      clear c12
      have H' := zq H
      clear H
      have hnb16 := NB345_346.out
      have hnc16 := NB346_345.out
      obtain ⟨hcz17_0, hcz17_1, hcz17_2, hcz17_3, hfz17_0, hfz17_1, hfz17_2, hfz17_3⟩ := cz4 BK345.out
      have p347 : 0 ≤ (x5_1 : Int) := of_decide_eq_true J2
      have q347 : x5_1 < (l0_3.length : Int) := of_decide_eq_true J2
      obtain ⟨ad347, e347, hx347_0, hx347_1⟩ := at_T38 HR0_3.out x5_1 p347 q347
      cases e347
      replace hx347_0 := (HB.out.cell (World.block_lt_of_cell? w _ hx347_0)).trans hx347_0
      replace hx347_1 := (HB.out.cell (World.block_lt_of_cell? w _ hx347_1)).trans hx347_1
      replace p347 := eq_true p347
      replace q347 := eq_true q347
      obtain ⟨hcz18_0, hcz18_1, hcz18_2, hcz18_3, hfz18_0, hfz18_1, hfz18_2, hfz18_3⟩ := cz4 BK346.out
      have p348 : 0 ≤ (x5_1 : Int) := of_decide_eq_true J2
      have q348 : x5_1 < (l1_3.length : Int) := of_decide_eq_true J2
      obtain ⟨ad348, e348, hx348_0, hx348_1⟩ := at_T38 HR1_3.out x5_1 p348 q348
      cases e348
      replace hx348_0 := (HB.out.cell (World.block_lt_of_cell? w _ hx348_0)).trans hx348_0
      replace hx348_1 := (HB.out.cell (World.block_lt_of_cell? w _ hx348_1)).trans hx348_1
      replace p348 := eq_true p348
      replace q348 := eq_true q348
      go_wp2
      repeat (go_quiet (fail); try go_wp2)
      go_roundg k1
      case measure => have := HK1.out; omega
      case rel => exact ⟨(wrap64 (x5_1 + 1)), J6, H', ⟨J66⟩, ⟨J107⟩, ⟨J108⟩, ⟨J18⟩⟩
end Go.Proofs.Ytecdklheppcihaa.HTightNumbers
