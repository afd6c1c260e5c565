/- What the Go functions of this claim answer, told as functions of numbers and lists, and that other memory stays as it was: words and walks, shortened by a program. -/
import Derived.Test.YtecdklheppcihaaSTightAlonex0
import Derived.Test.YtecdklheppcihaaSTightAlonex11
import Derived.Test.YtecdklheppcihaaSTightAlonex12
import Derived.Test.YtecdklheppcihaaSTightAlonex14
import Derived.Test.YtecdklheppcihaaSTightAlonex15
namespace Go.Proofs.Ytecdklheppcihaa.HTightNumbers
open Go.RowKit Go.Proofs.YtecdklheppcihaaW.PrintWords Go.Proofs.YtecdklheppcihaaW.PrintLast Go.Proofs.YtecdklheppcihaaW.PrintMore
attribute [local go_sem] max2_int min2_int max_two min_two max_three min_three max_four min_four
set_option linter.unusedVariables false
set_option linter.unusedSimpArgs false
mutual
def decklelaw11_TightAlone.j0 : Nat → Bool → List (S30) → Bool → Option (Bool)
  | 0, _, _, _ => none
  | k + 1, x3, x5, x24 => if x24 = true then (some x3) else ((array_Nest.f k ([] : List Int) (([x5] : List (List (S30))))).bind fun bt619 => (if bt619.2 = true then ((tight_Make.f k bt619.1).bind fun bt624 => (if (x5.length : Int) = 0 then (none) else (if 0 < (x5.length : Int) then (if (((rd_T30 x5 0).f1).length : Int) = 0 then (decklelaw11_TightAlone.j1 k x3 x5 bt619.1 bt624.1 bt624.2 (((rd_T30 x5 0).f0) != 5)) else (decklelaw11_TightAlone.j1 k x3 x5 bt619.1 bt624.1 bt624.2 false)) else (none)))) else (if x3 = true then ((array_Depth.f k x5).bind fun t623 => (some (t623 == 16))) else (none))))
def decklelaw11_TightAlone.j1 : Nat → Bool → List (S30) → List (S30) → List (S30) → Bool → Bool → Option (Bool)
  | 0, _, _, _, _, _, _ => none
  | k + 1, x3, x5, x7, x9, x10, x60 => if x60 = true then (if x3 = true then (if x10 = true then ((deckleref10_Same.f k x9 x5).bind fun t630 => (some t630)) else (none)) else (none)) else (if x3 = true then (if x10 = true then ((deckleref10_Same.f k x9 x7).bind fun t631 => (some t631)) else (none)) else (none))
end
def decklelaw11_TightAlone.f (k : Nat) (l0 : List (S30)) : Option (Bool) := (decklelaw11_small.f k).bind fun t610 => ((decklelaw10_Few.f k l0).bind fun t611 => ((tight_Make.f k l0).bind fun bt612 => (if t611 = true then (decklelaw11_TightAlone.j0 k t610 bt612.1 (!bt612.2)) else (decklelaw11_TightAlone.j0 k t610 bt612.1 true))))
set_option maxHeartbeats 8000000 in
set_option maxRecDepth 100000 in
theorem decklelaw11_TightAlone.calls (k : Nat) (A0 : Option Addr) (c0 : Nat) (l0 : List (S30)) (r : Bool) (w : World) (hr0 : Kd.C k30 w A0 l0.length l0) (hc0 : l0.length ≤ c0) (h : decklelaw11_TightAlone.f k l0 = some r) :
    Calls Try.prog 8 #[.slice A0 l0.length c0] w fun e w' => e = .returned (.bool r) ∧ Below w.heap.size w w' := by
  have HR0 := zq hr0
  have HC0 := zq hc0
  clear hr0 hc0
  have HB := zq (Below.refl w.heap.size w)
  have H : ((decklelaw11_small.f k).bind fun t610 => ((decklelaw10_Few.f k l0).bind fun t611 => ((tight_Make.f k l0).bind fun bt612 => (if t611 = true then (decklelaw11_TightAlone.j0 k t610 bt612.1 (!bt612.2)) else (decklelaw11_TightAlone.j0 k t610 bt612.1 true))))) = some r := h
  clear h
  replace H := Option.bind_eq_some_iff.mp H
  obtain ⟨t610, A20, H⟩ := H
  have A2 := zq A20
  clear A20
  replace H := Option.bind_eq_some_iff.mp H
  obtain ⟨t611, A30, H⟩ := H
  have A3 := zq A30
  clear A30
  replace H := Option.bind_eq_some_iff.mp H
  obtain ⟨⟨t612, t615⟩, A40, H⟩ := H
  dsimp only at H
  have A4 := zq A40
  clear A40
  have HC5 := zq H
  clear H
  go_enter Try.func8, Try.ntmps8
  go_upto_region 4 with (first | ((with_reducible refine gate_callee (f := 9) rfl ?_); refine goesL_ (some 11) rfl rfl Try.func9 J8 rfl #[] rfl J1 ?_; (with_reducible refine (decklelaw11_small.calls k  t610 _ A2.out).mono ?_); rintro e w6 ⟨rfl, hb⟩; refine ⟨_, rfl, ?_⟩; replace HB := zq (below_step J0 hb); (try clear hb); (try clear hk)) | ((with_reducible refine gate_callee (f := 10) rfl ?_); refine goesL_ (some 13) rfl rfl Try.func10 J8 rfl #[.slice A0 l0.length c0] rfl J1 ?_; (with_reducible refine (decklelaw10_Few.calls k _ _ l0 t611 _ ?side1 ?side2 A3.out).mono ?_); (case side1 => exact zc (Kd.C_below HR0.out HB.out)); (case side2 => exact HC0.out); rintro e w' ⟨rfl, ⟨nd, rfl⟩⟩; refine ⟨_, rfl, ?_⟩) | ((with_reducible refine gate_callee (f := 11) rfl ?_); refine goesL_ (some 16) rfl rfl Try.func11 J8 rfl #[.slice A0 l0.length c0] rfl J1 ?_; (with_reducible refine (tight_Make.calls k (fun _ => True) _ _ l0 t612 t615 _ ?side1 A4.out).mono ?_); (case side1 => exact Kd.V_mono (ok' := fun _ => True) (Kd.V_mk HC0.out (Kd.F_below (Kd.C_F k30_heap HR0.out) J0)) (fun _ _ => trivial)); rintro e w7 ⟨v613, rfl, ho0, hb⟩; refine ⟨_, rfl, ?_⟩; have HO614 := zq (Kd.N_lower (Kd.N_mono (ok' := fun _ => True) ho0 (fun _ _ => trivial)) (below_size J0)); replace HB := zq (below_step J0 hb); (try clear hb); (try clear hk); (try clear ho0)))
  (try simp only [Act.put, List.setIfInBounds_toArray, List.set_cons_zero, List.set_cons_succ])
  go_cut [24] (fun v24 wc => ∃ (kq : Nat) (x24_4 : Bool), v24 = .bool x24_4 ∧ Aside0 (decklelaw11_TightAlone.j0 kq t610 t612 x24_4 = some r) ∧ Aside0 (kq ≤ k) ∧ Aside0 (Kd.N k30 30 wc w.heap.size (fun _ => True) v613 t612) ∧ Aside0 (Below w.heap.size w wc))
  case first =>
    have H := HC5.out
    clear HC5
    by_cases c8 : t611 = true
    · subst c8
      rw [if_pos rfl] at H
      have H' := zq H
      clear H
      go_wp2
      go_meet
      case rel => exact ⟨_, (!t615), J5, H', ⟨J30⟩, ⟨J116⟩, ⟨J0⟩⟩
    replace c8 := Bool.eq_false_iff.mpr c8
    subst c8
    rw [if_neg (show ¬ (false = true) by decide)] at H
    have H' := zq H
    clear H
    go_wp2
    go_meet
    case rel => exact ⟨_, (true), J5, H', ⟨J30⟩, ⟨J116⟩, ⟨J0⟩⟩
  case rest =>
    clear HC5
    try clear c1
    try clear p2
    try clear c8
    obtain ⟨kq, x24_4, rfl, HA, HJ4, HO_5, HB⟩ := hcut
    cases kq with
    | zero => exact absurd HA.out (by simp [decklelaw11_TightAlone.j0])
    | succ kj4 =>
      have H := HA.out
      clear HA
      simp only [decklelaw11_TightAlone.j0] at H
      by_cases c9 : x24_4 = true
      · subst c9
        rw [if_pos rfl] at H
        obtain rfl := Option.some.inj H
        go_wp2
        go_ret
        exact ⟨J2, J0⟩
      replace c9 := Bool.eq_false_iff.mpr c9
      subst c9
      rw [if_neg (show ¬ (false = true) by decide)] at H
      obtain ⟨y616, hy616⟩ : ∃ y_ : List (List (S30)), y_ = (([t612] : List (List (S30)))) := ⟨_, rfl⟩
      rw (occs := .pos [1]) [← hy616] at H
      have Ny616 := zq hy616
      clear hy616
      replace H := Option.bind_eq_some_iff.mp H
      obtain ⟨⟨t619, t622⟩, A100, H⟩ := H
      dsimp only at H
      have A10 := zq A100
      clear A100
      by_cases c11 : t622 = true
      rotate_left
      · replace c11 := Bool.eq_false_iff.mpr c11
        subst c11
        rw [if_neg (show ¬ (false = true) by decide)] at H
        by_cases c35 : t610 = true
        · subst c35
          rw [if_pos rfl] at H
          replace H := Option.bind_eq_some_iff.mp H
          obtain ⟨t623, A360, H⟩ := H
          have A36 := zq A360
          clear A360
          obtain rfl := Option.some.inj H
          obtain ⟨Ao37, co37, eo37⟩ := Kd.N_slice HO_5.out
          subst eo37
          go_wp2_with (first | ((with_reducible refine gate_dst (N := 28) rfl ?_); refine Kd.N_lit (Kd.slice 30 k30) _ 22 ?hg (N' := 28) ?hd (xs := ([t612] : List (List (S30)))) (inner := [.slice Ao37 t612.length co37]) (ok := fun _ => True) (okp := fun _ => True) ?hr ?hp (fun _ hk => hk) trivial (Below.refl _ _) (Nat.le_refl _) J27 ?_; (case hd => rfl); (case hg => rfl); (case hr => first | (go_simp; done) | (go_simp; rfl)); (case hp => exact (Reps.one (show Kd.FK (Kd.slice 30 k30) _ _ t612 [.slice Ao37 t612.length co37] from (Kd.FK_slice_mk (Kd.N_reads' (Kd.N_mono (ok' := fun _ => True) (HO_5.out) (fun _ _ => trivial))).2.1 (Kd.N_F (Kd.N_mono (ok' := fun _ => True) (HO_5.out) (fun _ _ => trivial))))) (Reps.none _ _))); intro v617 w38 ho39 hb hg_ hnew_; clear hg_ hnew_; (first | rw [← Ny616.out] at ho39 | (simp only [Int.reduceToNat] at ho39; rw [← Ny616.out] at ho39)); have HO618 := zq (Kd.N_lower ho39 (below_size J0)); replace HB := zq (below_step J0 hb); replace HO_5 := zq (Kd.N_below (zn HO_5.out) hb); clear hb ho39; obtain ⟨Ao40, co40, eo40⟩ := Kd.N_slice HO618.out; subst eo40) | ((with_reducible refine gate_callee (f := 22) rfl ?_); refine goesL_ (some 29) rfl rfl Try.func22 J8 rfl #[.slice none 0 0, .slice Ao40 y616.length co40] rfl J1 ?_; (refine (array_Nest.calls kj4 (fun _ => True) _ _ ([] : List Int) (fun _ => True) _ _ y616 t619 false _ ?side1 ?side2 A10.out).mono ?_); (case side1 => exact Kd.V_nil _ _ _ _ _); (case side2 => exact Kd.V_mono (ok' := fun _ => True) (Kd.N_V (HO618.out)) (fun _ _ => trivial)); rintro e w41 ⟨v620, rfl, ho0, hb⟩; refine ⟨_, rfl, ?_⟩; replace HB := zq (below_step J0 hb); replace HO_5 := zq (Kd.N_below (zn HO_5.out) hb); (try clear hb); (try clear hk); (try clear ho0)) | (go_at_call 25; (with_reducible refine (array_Depth.calls kj4 _ _ t612 t623 _ ?side1 ?side2 A36.out).mono ?_); (case side1 => exact zc ((Kd.N_reads' HO_5.out).2.2)); (case side2 => exact (Kd.N_reads' HO_5.out).2.1); rintro e w42 ⟨rfl, hb⟩; replace HB := zq (below_step J0 hb); (try clear hb); (try clear hk)))
          go_ret
          exact ⟨J2, J0⟩
        · replace c35 := Bool.eq_false_iff.mpr c35
          subst c35
          rw [if_neg (show ¬ (false = true) by decide)] at H
          exact absurd H J27
      subst c11
      rw [if_pos rfl] at H
      replace H := Option.bind_eq_some_iff.mp H
      obtain ⟨⟨t624, t627⟩, A120, H⟩ := H
      dsimp only at H
      have A12 := zq A120
      clear A120
      by_cases c13 : (t612.length : Int) = 0
      · rw [if_pos c13] at H
        exact absurd H J27
      rw [if_neg c13] at H
      have c13b0 : ((t612.length : Int) == 0) = false := beq_eq_false_iff_ne.mpr c13
      have c13b1 : ((t612.length : Int) != 0) = true := bne_iff_ne.mpr c13
      have c13b2 : ¬ (t612 = []) := fun h_ => c13 (by rw [h_]; rfl)
      have HC14 := zq H
      clear H
      obtain ⟨Ao15, co15, eo15⟩ := Kd.N_slice HO_5.out
      subst eo15
      go_upto_region 12 with (first | ((with_reducible refine gate_dst (N := 28) rfl ?_); refine Kd.N_lit (Kd.slice 30 k30) _ 22 ?hg (N' := 28) ?hd (xs := ([t612] : List (List (S30)))) (inner := [.slice Ao15 t612.length co15]) (ok := fun _ => True) (okp := fun _ => True) ?hr ?hp (fun _ hk => hk) trivial (Below.refl _ _) (Nat.le_refl _) J27 ?_; (case hd => rfl); (case hg => rfl); (case hr => first | (go_simp; done) | (go_simp; rfl)); (case hp => exact (Reps.one (show Kd.FK (Kd.slice 30 k30) _ _ t612 [.slice Ao15 t612.length co15] from (Kd.FK_slice_mk (Kd.N_reads' (Kd.N_mono (ok' := fun _ => True) (HO_5.out) (fun _ _ => trivial))).2.1 (Kd.N_F (Kd.N_mono (ok' := fun _ => True) (HO_5.out) (fun _ _ => trivial))))) (Reps.none _ _))); intro v617 w16 ho17 hb hg_ hnew_; clear hg_ hnew_; (first | rw [← Ny616.out] at ho17 | (simp only [Int.reduceToNat] at ho17; rw [← Ny616.out] at ho17)); have HO618 := zq (Kd.N_lower ho17 (below_size J0)); replace HB := zq (below_step J0 hb); replace HO_5 := zq (Kd.N_below (zn HO_5.out) hb); clear hb ho17; obtain ⟨Ao18, co18, eo18⟩ := Kd.N_slice HO618.out; subst eo18) | ((with_reducible refine gate_callee (f := 22) rfl ?_); refine goesL_ (some 29) rfl rfl Try.func22 J8 rfl #[.slice none 0 0, .slice Ao18 y616.length co18] rfl J1 ?_; (refine (array_Nest.calls kj4 (fun _ => True) _ _ ([] : List Int) (fun _ => True) _ _ y616 t619 true _ ?side1 ?side2 A10.out).mono ?_); (case side1 => exact Kd.V_nil _ _ _ _ _); (case side2 => exact Kd.V_mono (ok' := fun _ => True) (Kd.N_V (HO618.out)) (fun _ _ => trivial)); rintro e w19 ⟨v620, rfl, ho0, hb⟩; refine ⟨_, rfl, ?_⟩; replace HO618 := zq (Kd.N_elder' (zn HO618.out) (Kd.N_base ho0) hb); have HO621 := zq (Kd.N_lower (Kd.N_mono (ok' := fun _ => True) ho0 (fun _ _ => trivial)) (below_size J0)); replace HB := zq (below_step J0 hb); replace HO_5 := zq (Kd.N_below (zn HO_5.out) hb); (try clear hb); (try clear hk); (try clear ho0); obtain ⟨Ao20, co20, eo20⟩ := Kd.N_slice HO621.out; subst eo20) | ((with_reducible refine gate_callee (f := 11) rfl ?_); refine goesL_ (some 42) rfl rfl Try.func11 J8 rfl #[.slice Ao20 t619.length co20] rfl J1 ?_; (with_reducible refine (tight_Make.calls kj4 (fun _ => True) _ _ t619 t624 t627 _ ?side1 A12.out).mono ?_); (case side1 => exact Kd.V_mono (ok' := fun _ => True) (Kd.N_V (HO621.out)) (fun _ _ => trivial)); rintro e w21 ⟨v625, rfl, ho0, hb⟩; refine ⟨_, rfl, ?_⟩; replace HO618 := zq (Kd.N_elder' (zn HO618.out) (Kd.N_base ho0) hb); replace HO621 := zq (Kd.N_elder' (zn HO621.out) (Kd.N_base ho0) hb); have HO626 := zq (Kd.N_lower (Kd.N_mono (ok' := fun _ => True) ho0 (fun _ _ => trivial)) (below_size J0)); replace HB := zq (below_step J0 hb); replace HO_5 := zq (Kd.N_below (zn HO_5.out) hb); (try clear hb); (try clear hk); (try clear ho0)))
      (try simp only [Act.put, List.setIfInBounds_toArray, List.set_cons_zero, List.set_cons_succ])
      go_cut [60] (fun v60 wc => ∃ (kq : Nat) (x60_13 : Bool), v60 = .bool x60_13 ∧ Aside0 (decklelaw11_TightAlone.j1 kq t610 t612 t619 t624 t627 x60_13 = some r) ∧ Aside0 (kq ≤ kj4) ∧ Aside0 (Kd.N k30 30 wc w.heap.size (fun _ => True) (.slice Ao15 t612.length co15) t612) ∧ Aside0 (Kd.N k30 30 wc w.heap.size (fun k_ => some k_ ≠ (v625 : Value).ownBlock) (.slice Ao20 t619.length co20) t619) ∧ Aside0 (Kd.N k30 30 wc w.heap.size (fun _ => True) v625 t624) ∧ Aside0 (Below w.heap.size w wc))
      case first =>
        have H := HC14.out
        clear HC14
        by_cases c22 : 0 < (t612.length : Int)
        rotate_left
        · rw [if_neg c22] at H
          exact absurd H J27
        rw [if_pos c22] at H
        have c22b0 := decide_eq_true c22
        have c22b1 : decide (0 < t612.length) = true := decide_eq_true J33
        clear c22
        (first | rw [c22b0] | (simp only [i64_w, i32_w]; rw [c22b0]) | skip)
        by_cases c23 : (((rd_T30 t612 0).f1).length : Int) = 0
        rotate_left
        · rw [if_neg c23] at H
          have c23b0 : ((((rd_T30 t612 0).f1).length : Int) == 0) = false := beq_eq_false_iff_ne.mpr c23
          have c23b1 : ((((rd_T30 t612 0).f1).length : Int) != 0) = true := bne_iff_ne.mpr c23
          have c23b2 : ¬ (((rd_T30 t612 0).f1) = []) := fun h_ => c23 (by rw [h_]; rfl)
          have H' := zq H
          clear H
          have p628 : 0 ≤ (0 : Int) := J33
          have q628 : 0 < (t612.length : Int) := of_decide_eq_true J3
          obtain ⟨ad628, A628_1, c628_1, A628_2, c628_2, A628_3, c628_3, e628, hx628_0, hx628_1, hx628_2, hx628_3, hl628_1, hi628_1, hl628_2, hi628_2, hl628_3, hi628_3⟩ := at_T30 (Kd.N_reads' HO_5.out).2.2 0 p628 q628
          cases e628
          have qi628 : (0 < t612.length) = True := eq_true J33
          (try rw [show ((0 : Int)).toNat = 0 from rfl] at hx628_0)
          (try rw [show 0 * 4 = 0 from rfl] at hx628_0)
          (try rw [Addr.add_zero'] at hx628_0)
          (try rw [show ((0 : Int)).toNat = 0 from rfl] at hx628_1)
          (try rw [show 0 * 4 = 0 from rfl] at hx628_1)
          (try rw [Addr.add_zero'] at hx628_1)
          (try rw [show ((0 : Int)).toNat = 0 from rfl] at hx628_2)
          (try rw [show 0 * 4 = 0 from rfl] at hx628_2)
          (try rw [Addr.add_zero'] at hx628_2)
          (try rw [show ((0 : Int)).toNat = 0 from rfl] at hx628_3)
          (try rw [show 0 * 4 = 0 from rfl] at hx628_3)
          (try rw [Addr.add_zero'] at hx628_3)
          have HR628_1 := zq hi628_1
          have HC628_1 := zq hl628_1
          clear hi628_1 hl628_1
          have HR628_2 := zq hi628_2
          have HC628_2 := zq hl628_2
          clear hi628_2 hl628_2
          have HR628_3 := zq hi628_3
          have HC628_3 := zq hl628_3
          clear hi628_3 hl628_3
          replace p628 := eq_true p628
          replace q628 := eq_true q628
          go_wp2
          go_meet
          case rel => exact ⟨_, (false), J5, H', ⟨by have := HJ4.out; first | omega | exact Nat.le_refl _⟩, ⟨J120⟩, ⟨J104⟩, ⟨J102⟩, ⟨J0⟩⟩
        rw [if_pos c23] at H
        have c23b0 : ((((rd_T30 t612 0).f1).length : Int) == 0) = true := beq_iff_eq.mpr c23
        have c23b1 : ((((rd_T30 t612 0).f1).length : Int) != 0) = false := bne_eq_false_iff_eq.mpr c23
        clear c23
        have H' := zq H
        clear H
        have p628 : 0 ≤ (0 : Int) := J33
        have q628 : 0 < (t612.length : Int) := of_decide_eq_true J3
        obtain ⟨ad628, A628_1, c628_1, A628_2, c628_2, A628_3, c628_3, e628, hx628_0, hx628_1, hx628_2, hx628_3, hl628_1, hi628_1, hl628_2, hi628_2, hl628_3, hi628_3⟩ := at_T30 (Kd.N_reads' HO_5.out).2.2 0 p628 q628
        cases e628
        have qi628 : (0 < t612.length) = True := eq_true J33
        (try rw [show ((0 : Int)).toNat = 0 from rfl] at hx628_0)
        (try rw [show 0 * 4 = 0 from rfl] at hx628_0)
        (try rw [Addr.add_zero'] at hx628_0)
        (try rw [show ((0 : Int)).toNat = 0 from rfl] at hx628_1)
        (try rw [show 0 * 4 = 0 from rfl] at hx628_1)
        (try rw [Addr.add_zero'] at hx628_1)
        (try rw [show ((0 : Int)).toNat = 0 from rfl] at hx628_2)
        (try rw [show 0 * 4 = 0 from rfl] at hx628_2)
        (try rw [Addr.add_zero'] at hx628_2)
        (try rw [show ((0 : Int)).toNat = 0 from rfl] at hx628_3)
        (try rw [show 0 * 4 = 0 from rfl] at hx628_3)
        (try rw [Addr.add_zero'] at hx628_3)
        have HR628_1 := zq hi628_1
        have HC628_1 := zq hl628_1
        clear hi628_1 hl628_1
        have HR628_2 := zq hi628_2
        have HC628_2 := zq hl628_2
        clear hi628_2 hl628_2
        have HR628_3 := zq hi628_3
        have HC628_3 := zq hl628_3
        clear hi628_3 hl628_3
        replace p628 := eq_true p628
        replace q628 := eq_true q628
        have p629 : 0 ≤ (0 : Int) := J33
        have q629 : 0 < (t612.length : Int) := of_decide_eq_true J3
        obtain ⟨ad629, A629_1, c629_1, A629_2, c629_2, A629_3, c629_3, e629, hx629_0, hx629_1, hx629_2, hx629_3, hl629_1, hi629_1, hl629_2, hi629_2, hl629_3, hi629_3⟩ := at_T30 (Kd.N_reads' HO_5.out).2.2 0 p629 q629
        obtain rfl : ad628 = ad629 := (by injection e629)
        have qi629 : (0 < t612.length) = True := eq_true J33
        (try rw [show ((0 : Int)).toNat = 0 from rfl] at hx629_0)
        (try rw [show 0 * 4 = 0 from rfl] at hx629_0)
        (try rw [Addr.add_zero'] at hx629_0)
        (try rw [show ((0 : Int)).toNat = 0 from rfl] at hx629_1)
        (try rw [show 0 * 4 = 0 from rfl] at hx629_1)
        (try rw [Addr.add_zero'] at hx629_1)
        (try rw [show ((0 : Int)).toNat = 0 from rfl] at hx629_2)
        (try rw [show 0 * 4 = 0 from rfl] at hx629_2)
        (try rw [Addr.add_zero'] at hx629_2)
        (try rw [show ((0 : Int)).toNat = 0 from rfl] at hx629_3)
        (try rw [show 0 * 4 = 0 from rfl] at hx629_3)
        (try rw [Addr.add_zero'] at hx629_3)
        have HR629_1 := zq hi629_1
        have HC629_1 := zq hl629_1
        clear hi629_1 hl629_1
        have HR629_2 := zq hi629_2
        have HC629_2 := zq hl629_2
        clear hi629_2 hl629_2
        have HR629_3 := zq hi629_3
        have HC629_3 := zq hl629_3
        clear hi629_3 hl629_3
        replace p629 := eq_true p629
        replace q629 := eq_true q629
        have ea_ := Option.some.inj (hx628_1.symm.trans hx629_1)
        injection ea_ with ea_ en_ ec_
        subst ea_
        subst ec_
        clear en_
        have ea_ := Option.some.inj (hx628_2.symm.trans hx629_2)
        injection ea_ with ea_ en_ ec_
        subst ea_
        subst ec_
        clear en_
        have ea_ := Option.some.inj (hx628_3.symm.trans hx629_3)
        injection ea_ with ea_ en_ ec_
        subst ea_
        subst ec_
        clear en_
        go_wp2
        go_meet
        case rel => exact ⟨_, ((((rd_T30 t612 0).f0) != 5)), J5, H', ⟨by have := HJ4.out; first | omega | exact Nat.le_refl _⟩, ⟨J120⟩, ⟨J104⟩, ⟨J102⟩, ⟨J0⟩⟩
      case rest =>
        clear HC14
        try clear c1
        try clear c2
        try clear p2
        try clear c6
        try clear p6
        try clear q6
        try clear hx6
        try clear qi6
        try clear c8
        try clear c9
        try clear c10
        try clear c11
        try clear c13
        try clear c13b0
        try clear c13b1
        try clear c13b2
        try clear c22
        try clear c22b0
        try clear c22b1
        try clear c23
        try clear c23b0
        try clear c23b1
        try clear c23b2
        try clear hx628_0
        try clear hx628_1
        try clear hx628_2
        try clear hx628_3
        try clear hx629_0
        try clear hx629_1
        try clear hx629_2
        try clear hx629_3
        try clear p2
        try clear p628
        try clear p629
        try clear q628
        try clear q629
        obtain ⟨kq, x60_13, rfl, HA, HJ13, HO_5, HO_7, HO_9, HB⟩ := hcut
        cases kq with
        | zero => exact absurd HA.out (by simp [decklelaw11_TightAlone.j1])
        | succ kj13 =>
          have H := HA.out
          clear HA
          simp only [decklelaw11_TightAlone.j1] at H
          by_cases c24 : x60_13 = true
          · subst c24
            rw [if_pos rfl] at H
            by_cases c25 : t610 = true
            · subst c25
              rw [if_pos rfl] at H
              by_cases c26 : t627 = true
              · subst c26
                rw [if_pos rfl] at H
                replace H := Option.bind_eq_some_iff.mp H
                obtain ⟨t630, A270, H⟩ := H
                have A27 := zq A270
                clear A270
                obtain rfl := Option.some.inj H
                obtain ⟨Ao28, co28, eo28⟩ := Kd.N_slice HO_9.out
                subst eo28
                go_wp2_with (first | (go_at_call 16; (with_reducible refine (deckleref10_Same.calls kj13 _ _ t624 _ _ t612 t630 _ ?side1 ?side2 ?side3 ?side4 A27.out).mono ?_); (case side1 => exact zc ((Kd.N_reads' HO_9.out).2.2)); (case side2 => exact (Kd.N_reads' HO_9.out).2.1); (case side3 => exact zc ((Kd.N_reads' HO_5.out).2.2)); (case side4 => exact (Kd.N_reads' HO_5.out).2.1); rintro e w29 ⟨rfl, hb⟩; replace HO_5 := zq (Kd.N_below (zn HO_5.out) hb); replace HO_7 := zq (Kd.N_below (zn HO_7.out) hb); replace HO_9 := zq (Kd.N_below (zn HO_9.out) hb); replace HB := zq (below_step J0 hb); (try clear hb); (try clear hk)))
                go_ret
                exact ⟨J2, J0⟩
              · replace c26 := Bool.eq_false_iff.mpr c26
                subst c26
                rw [if_neg (show ¬ (false = true) by decide)] at H
                exact absurd H J27
            · replace c25 := Bool.eq_false_iff.mpr c25
              subst c25
              rw [if_neg (show ¬ (false = true) by decide)] at H
              exact absurd H J27
          replace c24 := Bool.eq_false_iff.mpr c24
          subst c24
          rw [if_neg (show ¬ (false = true) by decide)] at H
          by_cases c30 : t610 = true
          rotate_left
          · replace c30 := Bool.eq_false_iff.mpr c30
            subst c30
            rw [if_neg (show ¬ (false = true) by decide)] at H
            exact absurd H J27
          subst c30
          rw [if_pos rfl] at H
          by_cases c31 : t627 = true
          rotate_left
          · replace c31 := Bool.eq_false_iff.mpr c31
            subst c31
            rw [if_neg (show ¬ (false = true) by decide)] at H
            exact absurd H J27
          subst c31
          rw [if_pos rfl] at H
          replace H := Option.bind_eq_some_iff.mp H
          obtain ⟨t631, A320, H⟩ := H
          have A32 := zq A320
          clear A320
          obtain rfl := Option.some.inj H
          obtain ⟨Ao33, co33, eo33⟩ := Kd.N_slice HO_9.out
          subst eo33
          go_wp2_with (first | (go_at_call 16; (with_reducible refine (deckleref10_Same.calls kj13 _ _ t624 _ _ t619 t631 _ ?side1 ?side2 ?side3 ?side4 A32.out).mono ?_); (case side1 => exact zc ((Kd.N_reads' HO_9.out).2.2)); (case side2 => exact (Kd.N_reads' HO_9.out).2.1); (case side3 => exact zc ((Kd.N_reads' HO_7.out).2.2)); (case side4 => exact (Kd.N_reads' HO_7.out).2.1); rintro e w34 ⟨rfl, hb⟩; replace HO_5 := zq (Kd.N_below (zn HO_5.out) hb); replace HB := zq (below_step J0 hb); (try clear hb); (try clear hk)))
          go_ret
          exact ⟨J2, J0⟩
end Go.Proofs.Ytecdklheppcihaa.HTightNumbers
