-- Written by the session's program hy.py.
import Derived.Test.YtgbmbcippldhnaaHArrayKidsx0
import Derived.Test.YtgbmbcippldhnaaHArrayKidsx3
import Derived.Test.YtgbmbcippldhnaaHArrayKidsx6
import Derived.Test.YtgbmbcippldhnaaHArrayKidsx7
import Derived.Test.YtgbmbcippldhnaaHArrayKidsx8
import Derived.Test.YtgbmbcippldhnaaHArrayKidsx9
import Derived.Test.YtgbmbcippldhnaaHArrayKidsx10
namespace Go.Proofs.Ytgbmbcippldhnaa.HArrayKids
open Go.RowKit Go.Proofs.YtgbmbcippldhnaaW.PrintWords Go.Proofs.YtgbmbcippldhnaaW.PrintLast Go.Proofs.YtgbmbcippldhnaaW.PrintMore
attribute [local go_sem] max2_int min2_int max_two min_two max_three min_three max_four min_four   -- for this text's walks alone
set_option linter.unusedVariables false
set_option linter.unusedSimpArgs false

/-! ### decklelaw10_ArrayKids: function 4 -/
mutual
def decklelaw10_ArrayKids.j0 : Nat → List (S32) → Bool → Bool → Bool → Option (Bool)
  | 0, _, _, _, _ => none
  | k + 1, x0, x3, x4, x22 => if x22 = true then (if x3 = true then (if x4 = true then ((array_Items.f k x0).bind fun t358 => (if t358 = 0 then ((array_Depth.f k x0).bind fun t359 => (if t359 = 0 then ((array_Rank.f k x0).bind fun t360 => (if t360 = 0 then ((array_Kids.f k x0).bind fun t361 => (some ((t361.length : Int) == 0))) else (none))) else (none))) else (none))) else (some true)) else (none)) else ((array_Kids.f k x0).bind fun t364 => (if 0 < (x0.length : Int) then ((shape_Count.f k ((rd_T32 x0 0).f1)).bind fun bt368 => (if ((rd_T32 x0 0).f0) = 5 then (decklelaw10_ArrayKids.l0 k x0 x3 t364 bt368.1 bt368.1 0 0) else (if x3 = true then (if (x0.length : Int) = 1 then (if (t364.length : Int) = 0 then ((array_Depth.f k x0).bind fun t371 => (if t371 = 1 then ((array_Items.f k x0).bind fun t372 => (some (t372 == bt368.1))) else (none))) else (none)) else (none)) else (none)))) else (none)))
def decklelaw10_ArrayKids.l0 : Nat → List (S32) → Bool → List (List (S32)) → Int → Int → Int → Int → Option (Bool)
  | 0, _, _, _, _, _, _, _ => none
  | k + 1, x0, x3, x5, x6, x8, x9, x10 => if x10 < (x5.length : Int) then (if 0 ≤ x10 then ((array_Items.f k (rd_L5 x5 x10)).bind fun t374 => ((array_Depth.f k (rd_L5 x5 x10)).bind fun t376 => ((array_Right.f k (rd_L5 x5 x10)).bind fun t378 => (if t378 = true then (decklelaw10_ArrayKids.l0 k x0 x3 x5 x6 (wrap64 (x8 + t374)) (mx x9 t376) (wrap64 (x10 + 1))) else (none))))) else (none)) else (if 0 < (x0.length : Int) then ((array_Nest.f k ((rd_T32 x0 0).f1) x5).bind fun bt380 => (if x3 = true then (if (x5.length : Int) = x6 then ((array_Items.f k x0).bind fun t384 => (if t384 = x8 then ((array_Depth.f k x0).bind fun t385 => (if t385 = (wrap64 (x9 + 1)) then (if bt380.2 = true then ((array_Same.f k bt380.1 x0).bind fun t386 => (some t386)) else (none)) else (none))) else (none))) else (none)) else (none))) else (none))
end
def decklelaw10_ArrayKids.f (k : Nat) (l0 : List (S32)) : Option (Bool) := (decklelaw10_small.f k).bind fun t355 => ((decklelaw10_Few.f k l0).bind fun t356 => (if t356 = true then ((array_Right.f k l0).bind fun t357 => (decklelaw10_ArrayKids.j0 k l0 t355 t356 (!t357))) else (decklelaw10_ArrayKids.j0 k l0 t355 t356 true)))
set_option maxHeartbeats 8000000 in
set_option maxRecDepth 100000 in
theorem decklelaw10_ArrayKids.calls (k : Nat) (A0 : Option Addr) (c0 : Nat) (l0 : List (S32)) (r : Bool) (w : World) (hr0 : Kd.C k32 w A0 l0.length l0) (hc0 : l0.length ≤ c0) (h : decklelaw10_ArrayKids.f k l0 = some r) :
    Calls Try.prog 4 #[.slice A0 l0.length c0] w fun e w' => e = .returned (.bool r) ∧ Below w.heap.size w w' := by
  have HR0 := Aside0.mk hr0
  have HC0 := Aside0.mk hc0
  clear hr0 hc0
  have HB := Aside0.mk (Below.refl w.heap.size w)
  have H : ((decklelaw10_small.f k).bind fun t355 => ((decklelaw10_Few.f k l0).bind fun t356 => (if t356 = true then ((array_Right.f k l0).bind fun t357 => (decklelaw10_ArrayKids.j0 k l0 t355 t356 (!t357))) else (decklelaw10_ArrayKids.j0 k l0 t355 t356 true)))) = some r := h
  clear h
  replace H := Option.bind_eq_some_iff.mp H
  obtain ⟨t355, A20, H⟩ := H
  replace H : ((decklelaw10_Few.f k l0).bind fun t356 => (if t356 = true then ((array_Right.f k l0).bind fun t357 => (decklelaw10_ArrayKids.j0 k l0 t355 t356 (!t357))) else (decklelaw10_ArrayKids.j0 k l0 t355 t356 true))) = some r := H
  have A2 := Aside0.mk A20
  clear A20
  replace H := Option.bind_eq_some_iff.mp H
  obtain ⟨t356, A30, H⟩ := H
  replace H : (if t356 = true then ((array_Right.f k l0).bind fun t357 => (decklelaw10_ArrayKids.j0 k l0 t355 t356 (!t357))) else (decklelaw10_ArrayKids.j0 k l0 t355 t356 true)) = some r := H
  have A3 := Aside0.mk A30
  clear A30
  have HC4 := Aside0.mk H
  clear H
  go_enter Try.func4, Try.ntmps4
  go_upto_region 3 with (first | ((with_reducible refine gate_callee (f := 8) rfl ?_); refine goesL_ (some 13) rfl rfl Try.func8 (by kernel_rfl) rfl #[] rfl (by (try simp only [List.map_toArray, List.map_cons, List.map_nil]); first | done | rfl | (simp only [List.length_drop, List.length_take]; rfl)) ?_; (with_reducible refine (decklelaw10_small.calls k  t355 _ A2.out).mono ?_); rintro e w5 ⟨rfl, hb⟩; refine ⟨_, rfl, ?_⟩; have n0_ := Aside0.mk (below_step (by repeat (first | (with_reducible first | exact HB.out | apply below_alloc | apply pw_below_drewN | apply below_drew1) | exact HB.out)) hb); clear HB; have HB := n0_; clear n0_; (try clear hb); (try clear hb2); (try clear hk); (try clear hi)) | ((with_reducible refine gate_callee (f := 9) rfl ?_); refine goesL_ (some 15) rfl rfl Try.func9 (by kernel_rfl) rfl #[.slice A0 l0.length c0] rfl (by (try simp only [List.map_toArray, List.map_cons, List.map_nil]); first | done | rfl | (simp only [List.length_drop, List.length_take]; rfl)) ?_; (with_reducible refine (decklelaw10_Few.calls k _ _ l0 t356 _ ?side1 ?side2 A3.out).mono ?_); (case side1 => repeat (first | exact (Kd.C_below HR0.out HB.out) | (with_reducible refine Kd.C_alloc ?_ _) | (with_reducible refine Kd.C_drewN ?_ _) | (with_reducible refine Kd.C_drew ?_))); (case side2 => exact HC0.out); rintro e w' ⟨rfl, ⟨nd, rfl⟩⟩; refine ⟨_, rfl, ?_⟩))
  (try simp only [Act.put, List.setIfInBounds_toArray, List.set_cons_zero, List.set_cons_succ])
  go_cut [22] (fun v22 wc => ∃ (kq : Nat) (x22_3 : Bool), v22 = .bool x22_3 ∧ Aside0 (decklelaw10_ArrayKids.j0 kq l0 t355 t356 x22_3 = some r) ∧ Aside0 (kq ≤ k) ∧ Aside0 (Below w.heap.size w wc))
  case first =>
    have H := HC4.out
    clear HC4
    by_cases c6 : t356 = true
    rotate_left
    · replace c6 := Bool.eq_false_iff.mpr c6
      subst c6
      have H1 : (decklelaw10_ArrayKids.j0 k l0 t355 false true) = some r := by rw [if_neg (show ¬ (false = true) by decide)] at H; exact H
      clear H
      have H := H1
      clear H1
      have H' := Aside0.mk H
      clear H
      go_wp2
      go_meet
      case rel => exact ⟨_, (true), (by first | rfl | (simp; done) | (simp [*]; done)), H', ⟨by first | omega | exact Nat.le_refl _⟩, ⟨by repeat (first | (with_reducible first | exact HB.out | apply below_alloc | apply pw_below_drewN | apply below_drew1) | exact HB.out)⟩⟩
    subst c6
    have H1 : ((array_Right.f k l0).bind fun t357 => (decklelaw10_ArrayKids.j0 k l0 t355 true (!t357))) = some r := by rw [if_pos rfl] at H; exact H
    clear H
    have H := H1
    clear H1
    replace H := Option.bind_eq_some_iff.mp H
    obtain ⟨t357, A70, H⟩ := H
    replace H : (decklelaw10_ArrayKids.j0 k l0 t355 true (!t357)) = some r := H
    have A7 := Aside0.mk A70
    clear A70
    have H' := Aside0.mk H
    clear H
    go_wp2_with (first | (go_at_call 14; (with_reducible refine (array_Right.calls k _ _ l0 t357 _ ?side1 ?side2 A7.out).mono ?_); (case side1 => repeat (first | exact (Kd.C_below HR0.out HB.out) | (with_reducible refine Kd.C_alloc ?_ _) | (with_reducible refine Kd.C_drewN ?_ _) | (with_reducible refine Kd.C_drew ?_))); (case side2 => exact HC0.out); rintro e w8 ⟨rfl, hb⟩; have n0_ := Aside0.mk (below_step (by repeat (first | (with_reducible first | exact HB.out | apply below_alloc | apply pw_below_drewN | apply below_drew1) | exact HB.out)) hb); clear HB; have HB := n0_; clear n0_; (try clear hb); (try clear hb2); (try clear hk); (try clear hi)))
    go_meet
    case rel => exact ⟨_, (!t357), (by first | rfl | (simp; done) | (simp [*]; done)), H', ⟨by first | omega | exact Nat.le_refl _⟩, ⟨by repeat (first | (with_reducible first | exact HB.out | apply below_alloc | apply pw_below_drewN | apply below_drew1) | exact HB.out)⟩⟩
  case rest =>
    clear HC4
    try clear p2
    try clear c4
    try clear c6
    try clear c8
    obtain ⟨kq, x22_3, rfl, HA, HJ3, HB⟩ := hcut
    cases kq with
    | zero => exact absurd HA.out (by simp [decklelaw10_ArrayKids.j0])
    | succ kj3 =>
      have H := HA.out
      clear HA
      simp only [decklelaw10_ArrayKids.j0] at H
      by_cases c9 : x22_3 = true
      · subst c9
        have H1 : (if t355 = true then (if t356 = true then ((array_Items.f kj3 l0).bind fun t358 => (if t358 = 0 then ((array_Depth.f kj3 l0).bind fun t359 => (if t359 = 0 then ((array_Rank.f kj3 l0).bind fun t360 => (if t360 = 0 then ((array_Kids.f kj3 l0).bind fun t361 => (some ((t361.length : Int) == 0))) else (none))) else (none))) else (none))) else (some true)) else (none)) = some r := by rw [if_pos rfl] at H; exact H
        clear H
        have H := H1
        clear H1
        by_cases c10 : t355 = true
        · subst c10
          have H1 : (if t356 = true then ((array_Items.f kj3 l0).bind fun t358 => (if t358 = 0 then ((array_Depth.f kj3 l0).bind fun t359 => (if t359 = 0 then ((array_Rank.f kj3 l0).bind fun t360 => (if t360 = 0 then ((array_Kids.f kj3 l0).bind fun t361 => (some ((t361.length : Int) == 0))) else (none))) else (none))) else (none))) else (some true)) = some r := by rw [if_pos rfl] at H; exact H
          clear H
          have H := H1
          clear H1
          by_cases c11 : t356 = true
          · subst c11
            have H1 : ((array_Items.f kj3 l0).bind fun t358 => (if t358 = 0 then ((array_Depth.f kj3 l0).bind fun t359 => (if t359 = 0 then ((array_Rank.f kj3 l0).bind fun t360 => (if t360 = 0 then ((array_Kids.f kj3 l0).bind fun t361 => (some ((t361.length : Int) == 0))) else (none))) else (none))) else (none))) = some r := by rw [if_pos rfl] at H; exact H
            clear H
            have H := H1
            clear H1
            replace H := Option.bind_eq_some_iff.mp H
            obtain ⟨t358, A120, H⟩ := H
            replace H : (if t358 = 0 then ((array_Depth.f kj3 l0).bind fun t359 => (if t359 = 0 then ((array_Rank.f kj3 l0).bind fun t360 => (if t360 = 0 then ((array_Kids.f kj3 l0).bind fun t361 => (some ((t361.length : Int) == 0))) else (none))) else (none))) else (none)) = some r := H
            have A12 := Aside0.mk A120
            clear A120
            by_cases c13 : t358 = 0
            · rw [if_pos c13] at H
              have c13b0 : (t358 == 0) = true := beq_iff_eq.mpr c13
              have c13b1 : (t358 != 0) = false := bne_eq_false_iff_eq.mpr c13
              clear c13
              replace H := Option.bind_eq_some_iff.mp H
              obtain ⟨t359, A140, H⟩ := H
              replace H : (if t359 = 0 then ((array_Rank.f kj3 l0).bind fun t360 => (if t360 = 0 then ((array_Kids.f kj3 l0).bind fun t361 => (some ((t361.length : Int) == 0))) else (none))) else (none)) = some r := H
              have A14 := Aside0.mk A140
              clear A140
              by_cases c15 : t359 = 0
              · rw [if_pos c15] at H
                have c15b0 : (t359 == 0) = true := beq_iff_eq.mpr c15
                have c15b1 : (t359 != 0) = false := bne_eq_false_iff_eq.mpr c15
                clear c15
                replace H := Option.bind_eq_some_iff.mp H
                obtain ⟨t360, A160, H⟩ := H
                replace H : (if t360 = 0 then ((array_Kids.f kj3 l0).bind fun t361 => (some ((t361.length : Int) == 0))) else (none)) = some r := H
                have A16 := Aside0.mk A160
                clear A160
                by_cases c17 : t360 = 0
                · rw [if_pos c17] at H
                  have c17b0 : (t360 == 0) = true := beq_iff_eq.mpr c17
                  have c17b1 : (t360 != 0) = false := bne_eq_false_iff_eq.mpr c17
                  clear c17
                  replace H := Option.bind_eq_some_iff.mp H
                  obtain ⟨t361, A180, H⟩ := H
                  replace H : (some ((t361.length : Int) == 0)) = some r := H
                  have A18 := Aside0.mk A180
                  clear A180
                  obtain rfl := Option.some.inj H
                  go_wp2_with (first | (go_at_call 18; (with_reducible refine (array_Items.calls kj3 _ _ l0 t358 _ ?side1 ?side2 A12.out).mono ?_); (case side1 => repeat (first | exact (Kd.C_below HR0.out HB.out) | (with_reducible refine Kd.C_alloc ?_ _) | (with_reducible refine Kd.C_drewN ?_ _) | (with_reducible refine Kd.C_drew ?_))); (case side2 => exact HC0.out); rintro e w19 ⟨rfl, hb⟩; have n0_ := Aside0.mk (below_step (by repeat (first | (with_reducible first | exact HB.out | apply below_alloc | apply pw_below_drewN | apply below_drew1) | exact HB.out)) hb); clear HB; have HB := n0_; clear n0_; (try clear hb); (try clear hb2); (try clear hk); (try clear hi)) | (go_at_call 20; (with_reducible refine (array_Depth.calls kj3 _ _ l0 t359 _ ?side1 ?side2 A14.out).mono ?_); (case side1 => repeat (first | exact (Kd.C_below HR0.out HB.out) | (with_reducible refine Kd.C_alloc ?_ _) | (with_reducible refine Kd.C_drewN ?_ _) | (with_reducible refine Kd.C_drew ?_))); (case side2 => exact HC0.out); rintro e w20 ⟨rfl, hb⟩; have n0_ := Aside0.mk (below_step (by repeat (first | (with_reducible first | exact HB.out | apply below_alloc | apply pw_below_drewN | apply below_drew1) | exact HB.out)) hb); clear HB; have HB := n0_; clear n0_; (try clear hb); (try clear hb2); (try clear hk); (try clear hi)) | (go_at_call 22; (with_reducible refine (array_Rank.calls kj3 _ _ l0 t360 _ ?side1 ?side2 A16.out).mono ?_); (case side1 => repeat (first | exact (Kd.C_below HR0.out HB.out) | (with_reducible refine Kd.C_alloc ?_ _) | (with_reducible refine Kd.C_drewN ?_ _) | (with_reducible refine Kd.C_drew ?_))); (case side2 => exact HC0.out); rintro e w21 ⟨rfl, hb⟩; have n0_ := Aside0.mk (below_step (by repeat (first | (with_reducible first | exact HB.out | apply below_alloc | apply pw_below_drewN | apply below_drew1) | exact HB.out)) hb); clear HB; have HB := n0_; clear n0_; (try clear hb); (try clear hb2); (try clear hk); (try clear hi)) | (go_at_call 10; (with_reducible refine (array_Kids.calls kj3 (fun k_ => k_ < w.heap.size) _ _ l0 t361 _ ?side1 A18.out).mono ?_); (case side1 => exact Kd.V_mk HC0.out (Kd.F_below (Kd.C_F k32_heap HR0.out) (by repeat (first | (with_reducible first | exact HB.out | apply below_alloc | apply pw_below_drewN | apply below_drew1) | exact HB.out)))); rintro e w22 ⟨v362, rfl, ho0, hb⟩; have n0_ := Aside0.mk (Kd.N_lower (Kd.N_mono (ok' := fun k_ => True) ho0 (fun k_ hk_ => trivial)) (below_size (by repeat (first | (with_reducible first | exact HB.out | apply below_alloc | apply pw_below_drewN | apply below_drew1) | exact HB.out)))); have n1_ := Aside0.mk (below_step (by repeat (first | (with_reducible first | exact HB.out | apply below_alloc | apply pw_below_drewN | apply below_drew1) | exact HB.out)) hb); clear HB; have HO363 := n0_; have HB := n1_; clear n0_ n1_; (try clear hb); (try clear hb2); (try clear hk); (try clear hi); (try clear ho0); obtain ⟨Ao23, co23, eo23⟩ := Kd.N_slice HO363.out; subst eo23))
                  go_ret
                  exact ⟨by first | rfl | (simp [errW_none, errW_some] <;> rfl) | (simp [*, errW_none, errW_some] <;> rfl), by repeat (first | (with_reducible first | exact HB.out | apply below_alloc | apply pw_below_drewN | apply below_drew1) | exact HB.out)⟩
                · rw [if_neg c17] at H
                  exact absurd H (by simp)
              · rw [if_neg c15] at H
                exact absurd H (by simp)
            · rw [if_neg c13] at H
              exact absurd H (by simp)
          · replace c11 := Bool.eq_false_iff.mpr c11
            subst c11
            have H1 : (some true) = some r := by rw [if_neg (show ¬ (false = true) by decide)] at H; exact H
            clear H
            have H := H1
            clear H1
            obtain rfl := Option.some.inj H
            go_wp2
            go_ret
            exact ⟨by first | rfl | (simp [errW_none, errW_some] <;> rfl) | (simp [*, errW_none, errW_some] <;> rfl), by repeat (first | (with_reducible first | exact HB.out | apply below_alloc | apply pw_below_drewN | apply below_drew1) | exact HB.out)⟩
        · replace c10 := Bool.eq_false_iff.mpr c10
          subst c10
          have H1 : (none) = some r := by rw [if_neg (show ¬ (false = true) by decide)] at H; exact H
          clear H
          have H := H1
          clear H1
          exact absurd H (by simp)
      replace c9 := Bool.eq_false_iff.mpr c9
      subst c9
      have H1 : ((array_Kids.f kj3 l0).bind fun t364 => (if 0 < (l0.length : Int) then ((shape_Count.f kj3 ((rd_T32 l0 0).f1)).bind fun bt368 => (if ((rd_T32 l0 0).f0) = 5 then (decklelaw10_ArrayKids.l0 kj3 l0 t355 t364 bt368.1 bt368.1 0 0) else (if t355 = true then (if (l0.length : Int) = 1 then (if (t364.length : Int) = 0 then ((array_Depth.f kj3 l0).bind fun t371 => (if t371 = 1 then ((array_Items.f kj3 l0).bind fun t372 => (some (t372 == bt368.1))) else (none))) else (none)) else (none)) else (none)))) else (none))) = some r := by rw [if_neg (show ¬ (false = true) by decide)] at H; exact H
      clear H
      have H := H1
      clear H1
      replace H := Option.bind_eq_some_iff.mp H
      obtain ⟨t364, A240, H⟩ := H
      replace H : (if 0 < (l0.length : Int) then ((shape_Count.f kj3 ((rd_T32 l0 0).f1)).bind fun bt368 => (if ((rd_T32 l0 0).f0) = 5 then (decklelaw10_ArrayKids.l0 kj3 l0 t355 t364 bt368.1 bt368.1 0 0) else (if t355 = true then (if (l0.length : Int) = 1 then (if (t364.length : Int) = 0 then ((array_Depth.f kj3 l0).bind fun t371 => (if t371 = 1 then ((array_Items.f kj3 l0).bind fun t372 => (some (t372 == bt368.1))) else (none))) else (none)) else (none)) else (none)))) else (none)) = some r := H
      have A24 := Aside0.mk A240
      clear A240
      by_cases c25 : 0 < (l0.length : Int)
      rotate_left
      · rw [if_neg c25] at H
        exact absurd H (by simp)
      rw [if_pos c25] at H
      have c25b0 : decide (0 < (l0.length : Int)) = true := decide_eq_true c25
      have c25b1 : decide (0 < l0.length) = true := decide_eq_true (by omega)
      clear c25
      replace H := Option.bind_eq_some_iff.mp H
      obtain ⟨⟨t368, t369⟩, A260, H⟩ := H
      replace H : (if ((rd_T32 l0 0).f0) = 5 then (decklelaw10_ArrayKids.l0 kj3 l0 t355 t364 t368 t368 0 0) else (if t355 = true then (if (l0.length : Int) = 1 then (if (t364.length : Int) = 0 then ((array_Depth.f kj3 l0).bind fun t371 => (if t371 = 1 then ((array_Items.f kj3 l0).bind fun t372 => (some (t372 == t368))) else (none))) else (none)) else (none)) else (none))) = some r := H
      have A26 := Aside0.mk A260
      clear A260
      by_cases c27 : ((rd_T32 l0 0).f0) = 5
      rotate_left
      · rw [if_neg c27] at H
        have c27b0 : (((rd_T32 l0 0).f0) == 5) = false := beq_eq_false_iff_ne.mpr c27
        have c27b1 : (((rd_T32 l0 0).f0) != 5) = true := bne_iff_ne.mpr c27
        by_cases c56 : t355 = true
        · subst c56
          have H1 : (if (l0.length : Int) = 1 then (if (t364.length : Int) = 0 then ((array_Depth.f kj3 l0).bind fun t371 => (if t371 = 1 then ((array_Items.f kj3 l0).bind fun t372 => (some (t372 == t368))) else (none))) else (none)) else (none)) = some r := by rw [if_pos rfl] at H; exact H
          clear H
          have H := H1
          clear H1
          by_cases c57 : (l0.length : Int) = 1
          · rw [if_pos c57] at H
            have c57b0 : ((l0.length : Int) == 1) = true := beq_iff_eq.mpr c57
            have c57b1 : ((l0.length : Int) != 1) = false := bne_eq_false_iff_eq.mpr c57
            clear c57
            by_cases c58 : (t364.length : Int) = 0
            · rw [if_pos c58] at H
              have c58b0 : ((t364.length : Int) == 0) = true := beq_iff_eq.mpr c58
              have c58b1 : ((t364.length : Int) != 0) = false := bne_eq_false_iff_eq.mpr c58
              clear c58
              replace H := Option.bind_eq_some_iff.mp H
              obtain ⟨t371, A590, H⟩ := H
              replace H : (if t371 = 1 then ((array_Items.f kj3 l0).bind fun t372 => (some (t372 == t368))) else (none)) = some r := H
              have A59 := Aside0.mk A590
              clear A590
              by_cases c60 : t371 = 1
              · rw [if_pos c60] at H
                have c60b0 : (t371 == 1) = true := beq_iff_eq.mpr c60
                have c60b1 : (t371 != 1) = false := bne_eq_false_iff_eq.mpr c60
                clear c60
                replace H := Option.bind_eq_some_iff.mp H
                obtain ⟨t372, A610, H⟩ := H
                replace H : (some (t372 == t368)) = some r := H
                have A61 := Aside0.mk A610
                clear A610
                obtain rfl := Option.some.inj H
                go_wp2_with (first | ((with_reducible refine gate_callee (f := 10) rfl ?_); refine goesL_ (some 50) rfl rfl Try.func10 (by kernel_rfl) rfl #[.slice A0 l0.length c0] rfl (by (try simp only [List.map_toArray, List.map_cons, List.map_nil]); first | done | rfl | (simp only [List.length_drop, List.length_take]; rfl)) ?_; (with_reducible refine (array_Kids.calls kj3 (fun k_ => k_ < w.heap.size) _ _ l0 t364 _ ?side1 A24.out).mono ?_); (case side1 => exact Kd.V_mk HC0.out (Kd.F_below (Kd.C_F k32_heap HR0.out) (by repeat (first | (with_reducible first | exact HB.out | apply below_alloc | apply pw_below_drewN | apply below_drew1) | exact HB.out)))); rintro e w62 ⟨v365, rfl, ho0, hb⟩; refine ⟨_, rfl, ?_⟩; have n0_ := Aside0.mk (Kd.N_lower (Kd.N_mono (ok' := fun k_ => True) ho0 (fun k_ hk_ => trivial)) (below_size (by repeat (first | (with_reducible first | exact HB.out | apply below_alloc | apply pw_below_drewN | apply below_drew1) | exact HB.out)))); have n1_ := Aside0.mk (below_step (by repeat (first | (with_reducible first | exact HB.out | apply below_alloc | apply pw_below_drewN | apply below_drew1) | exact HB.out)) hb); clear HB; have HO366 := n0_; have HB := n1_; clear n0_ n1_; (try clear hb); (try clear hb2); (try clear hk); (try clear hi); (try clear ho0); have p367 : 0 ≤ (0 : Int) := (by omega); have q367 : 0 < (l0.length : Int) := of_decide_eq_true (by first | (with_reducible assumption) | assumption); obtain ⟨ad367, A367_1, c367_1, A367_2, c367_2, A367_3, c367_3, e367, hx367_0, hx367_1, hx367_2, hx367_3, hl367_1, hi367_1, hl367_2, hi367_2, hl367_3, hi367_3⟩ := at_T32 HR0.out 0 p367 q367; cases e367; have qi367 : (0 < l0.length) = True := eq_true (by omega); (try rw [show ((0 : Int)).toNat = 0 from rfl] at hx367_0); (try rw [show 0 * 4 = 0 from rfl] at hx367_0); (try rw [Addr.add_zero'] at hx367_0); (try rw [show ((0 : Int)).toNat = 0 from rfl] at hx367_1); (try rw [show 0 * 4 = 0 from rfl] at hx367_1); (try rw [Addr.add_zero'] at hx367_1); (try rw [show ((0 : Int)).toNat = 0 from rfl] at hx367_2); (try rw [show 0 * 4 = 0 from rfl] at hx367_2); (try rw [Addr.add_zero'] at hx367_2); (try rw [show ((0 : Int)).toNat = 0 from rfl] at hx367_3); (try rw [show 0 * 4 = 0 from rfl] at hx367_3); (try rw [Addr.add_zero'] at hx367_3); replace hx367_0 := (HB.out.cell (World.block_lt_of_cell? w _ hx367_0)).trans hx367_0; replace hx367_1 := (HB.out.cell (World.block_lt_of_cell? w _ hx367_1)).trans hx367_1; replace hx367_2 := (HB.out.cell (World.block_lt_of_cell? w _ hx367_2)).trans hx367_2; replace hx367_3 := (HB.out.cell (World.block_lt_of_cell? w _ hx367_3)).trans hx367_3; have HR367_1 := Aside0.mk hi367_1; have HC367_1 := Aside0.mk hl367_1; clear hi367_1 hl367_1; have HR367_2 := Aside0.mk hi367_2; have HC367_2 := Aside0.mk hl367_2; clear hi367_2 hl367_2; have HR367_3 := Aside0.mk hi367_3; have HC367_3 := Aside0.mk hl367_3; clear hi367_3 hl367_3; replace p367 := eq_true p367; replace q367 := eq_true q367) | ((with_reducible refine gate_callee (f := 25) rfl ?_); refine goesL_ (some 56) rfl rfl Try.func25 (by kernel_rfl) rfl #[.slice A367_1 ((rd_T32 l0 0).f1).length c367_1] rfl (by (try simp only [List.map_toArray, List.map_cons, List.map_nil]); first | done | rfl | (simp only [List.length_drop, List.length_take]; rfl)) ?_; (with_reducible refine (shape_Count.calls kj3 _ _ ((rd_T32 l0 0).f1) t368 t369 _ ?side1 ?side2 A26.out).mono ?_); (case side1 => repeat (first | exact (Kd.C_below HR367_1.out HB.out) | (with_reducible refine Kd.C_alloc ?_ _) | (with_reducible refine Kd.C_drewN ?_ _) | (with_reducible refine Kd.C_drew ?_))); (case side2 => exact HC367_1.out); rintro e w' ⟨rfl, ⟨nd, rfl⟩⟩; refine ⟨_, rfl, ?_⟩; have p370 : 0 ≤ (0 : Int) := (by omega); have q370 : 0 < (l0.length : Int) := of_decide_eq_true (by first | (with_reducible assumption) | assumption); obtain ⟨ad370, A370_1, c370_1, A370_2, c370_2, A370_3, c370_3, e370, hx370_0, hx370_1, hx370_2, hx370_3, hl370_1, hi370_1, hl370_2, hi370_2, hl370_3, hi370_3⟩ := at_T32 HR0.out 0 p370 q370; obtain rfl : ad367 = ad370 := (by injection e370); have qi370 : (0 < l0.length) = True := eq_true (by omega); (try rw [show ((0 : Int)).toNat = 0 from rfl] at hx370_0); (try rw [show 0 * 4 = 0 from rfl] at hx370_0); (try rw [Addr.add_zero'] at hx370_0); (try rw [show ((0 : Int)).toNat = 0 from rfl] at hx370_1); (try rw [show 0 * 4 = 0 from rfl] at hx370_1); (try rw [Addr.add_zero'] at hx370_1); (try rw [show ((0 : Int)).toNat = 0 from rfl] at hx370_2); (try rw [show 0 * 4 = 0 from rfl] at hx370_2); (try rw [Addr.add_zero'] at hx370_2); (try rw [show ((0 : Int)).toNat = 0 from rfl] at hx370_3); (try rw [show 0 * 4 = 0 from rfl] at hx370_3); (try rw [Addr.add_zero'] at hx370_3); replace hx370_0 := (HB.out.cell (World.block_lt_of_cell? w _ hx370_0)).trans hx370_0; replace hx370_1 := (HB.out.cell (World.block_lt_of_cell? w _ hx370_1)).trans hx370_1; replace hx370_2 := (HB.out.cell (World.block_lt_of_cell? w _ hx370_2)).trans hx370_2; replace hx370_3 := (HB.out.cell (World.block_lt_of_cell? w _ hx370_3)).trans hx370_3; have HR370_1 := Aside0.mk hi370_1; have HC370_1 := Aside0.mk hl370_1; clear hi370_1 hl370_1; have HR370_2 := Aside0.mk hi370_2; have HC370_2 := Aside0.mk hl370_2; clear hi370_2 hl370_2; have HR370_3 := Aside0.mk hi370_3; have HC370_3 := Aside0.mk hl370_3; clear hi370_3 hl370_3; replace p370 := eq_true p370; replace q370 := eq_true q370; have ea_ := Option.some.inj (hx367_1.symm.trans hx370_1); injection ea_ with ea_ en_ ec_; subst ea_; subst ec_; clear en_; have ea_ := Option.some.inj (hx367_2.symm.trans hx370_2); injection ea_ with ea_ en_ ec_; subst ea_; subst ec_; clear en_; have ea_ := Option.some.inj (hx367_3.symm.trans hx370_3); injection ea_ with ea_ en_ ec_; subst ea_; subst ec_; clear en_; obtain ⟨Ao63, co63, eo63⟩ := Kd.N_slice HO366.out; subst eo63) | (go_at_call 20; (with_reducible refine (array_Depth.calls kj3 _ _ l0 t371 _ ?side1 ?side2 A59.out).mono ?_); (case side1 => repeat (first | exact (Kd.C_below HR0.out (by repeat (first | (with_reducible first | exact HB.out | apply below_alloc | apply pw_below_drewN | apply below_drew1) | exact HB.out))) | (with_reducible refine Kd.C_alloc ?_ _) | (with_reducible refine Kd.C_drewN ?_ _) | (with_reducible refine Kd.C_drew ?_))); (case side2 => exact HC0.out); rintro e w64 ⟨rfl, hb⟩; have n0_ := Aside0.mk (Kd.N_below (by (with_reducible repeat (first | apply Kd.N_alloc | apply Kd.N_drewN | apply Kd.N_drew)); exact HO366.out) hb); have n1_ := Aside0.mk (below_step (by repeat (first | (with_reducible first | exact HB.out | apply below_alloc | apply pw_below_drewN | apply below_drew1) | exact HB.out)) hb); clear HO366; clear HB; have HO366 := n0_; have HB := n1_; clear n0_ n1_; (try clear hb); (try clear hb2); (try clear hk); (try clear hi)) | (go_at_call 18; (with_reducible refine (array_Items.calls kj3 _ _ l0 t372 _ ?side1 ?side2 A61.out).mono ?_); (case side1 => repeat (first | exact (Kd.C_below HR0.out HB.out) | (with_reducible refine Kd.C_alloc ?_ _) | (with_reducible refine Kd.C_drewN ?_ _) | (with_reducible refine Kd.C_drew ?_))); (case side2 => exact HC0.out); rintro e w65 ⟨rfl, hb⟩; have n0_ := Aside0.mk (Kd.N_below (by (with_reducible repeat (first | apply Kd.N_alloc | apply Kd.N_drewN | apply Kd.N_drew)); exact HO366.out) hb); have n1_ := Aside0.mk (below_step (by repeat (first | (with_reducible first | exact HB.out | apply below_alloc | apply pw_below_drewN | apply below_drew1) | exact HB.out)) hb); clear HO366; clear HB; have HO366 := n0_; have HB := n1_; clear n0_ n1_; (try clear hb); (try clear hb2); (try clear hk); (try clear hi)))
                go_ret
                exact ⟨by first | rfl | (simp [errW_none, errW_some] <;> rfl) | (simp [*, errW_none, errW_some] <;> rfl), by repeat (first | (with_reducible first | exact HB.out | apply below_alloc | apply pw_below_drewN | apply below_drew1) | exact HB.out)⟩
              · rw [if_neg c60] at H
                exact absurd H (by simp)
            · rw [if_neg c58] at H
              exact absurd H (by simp)
          · rw [if_neg c57] at H
            exact absurd H (by simp)
        · replace c56 := Bool.eq_false_iff.mpr c56
          subst c56
          have H1 : (none) = some r := by rw [if_neg (show ¬ (false = true) by decide)] at H; exact H
          clear H
          have H := H1
          clear H1
          exact absurd H (by simp)
      rw [if_pos c27] at H
      have c27b0 : (((rd_T32 l0 0).f0) == 5) = true := beq_iff_eq.mpr c27
      have c27b1 : (((rd_T32 l0 0).f0) != 5) = false := bne_eq_false_iff_eq.mpr c27
      clear c27
      have H' := Aside0.mk H
      clear H
      go_wp2_with (first | ((with_reducible refine gate_callee (f := 10) rfl ?_); refine goesL_ (some 50) rfl rfl Try.func10 (by kernel_rfl) rfl #[.slice A0 l0.length c0] rfl (by (try simp only [List.map_toArray, List.map_cons, List.map_nil]); first | done | rfl | (simp only [List.length_drop, List.length_take]; rfl)) ?_; (with_reducible refine (array_Kids.calls kj3 (fun k_ => k_ < w.heap.size) _ _ l0 t364 _ ?side1 A24.out).mono ?_); (case side1 => exact Kd.V_mk HC0.out (Kd.F_below (Kd.C_F k32_heap HR0.out) (by repeat (first | (with_reducible first | exact HB.out | apply below_alloc | apply pw_below_drewN | apply below_drew1) | exact HB.out)))); rintro e w28 ⟨v365, rfl, ho0, hb⟩; refine ⟨_, rfl, ?_⟩; have n0_ := Aside0.mk (Kd.N_lower (Kd.N_mono (ok' := fun k_ => True) ho0 (fun k_ hk_ => trivial)) (below_size (by repeat (first | (with_reducible first | exact HB.out | apply below_alloc | apply pw_below_drewN | apply below_drew1) | exact HB.out)))); have n1_ := Aside0.mk (below_step (by repeat (first | (with_reducible first | exact HB.out | apply below_alloc | apply pw_below_drewN | apply below_drew1) | exact HB.out)) hb); clear HB; have HO366 := n0_; have HB := n1_; clear n0_ n1_; (try clear hb); (try clear hb2); (try clear hk); (try clear hi); (try clear ho0); have p367 : 0 ≤ (0 : Int) := (by omega); have q367 : 0 < (l0.length : Int) := of_decide_eq_true (by first | (with_reducible assumption) | assumption); obtain ⟨ad367, A367_1, c367_1, A367_2, c367_2, A367_3, c367_3, e367, hx367_0, hx367_1, hx367_2, hx367_3, hl367_1, hi367_1, hl367_2, hi367_2, hl367_3, hi367_3⟩ := at_T32 HR0.out 0 p367 q367; cases e367; have qi367 : (0 < l0.length) = True := eq_true (by omega); (try rw [show ((0 : Int)).toNat = 0 from rfl] at hx367_0); (try rw [show 0 * 4 = 0 from rfl] at hx367_0); (try rw [Addr.add_zero'] at hx367_0); (try rw [show ((0 : Int)).toNat = 0 from rfl] at hx367_1); (try rw [show 0 * 4 = 0 from rfl] at hx367_1); (try rw [Addr.add_zero'] at hx367_1); (try rw [show ((0 : Int)).toNat = 0 from rfl] at hx367_2); (try rw [show 0 * 4 = 0 from rfl] at hx367_2); (try rw [Addr.add_zero'] at hx367_2); (try rw [show ((0 : Int)).toNat = 0 from rfl] at hx367_3); (try rw [show 0 * 4 = 0 from rfl] at hx367_3); (try rw [Addr.add_zero'] at hx367_3); replace hx367_0 := (HB.out.cell (World.block_lt_of_cell? w _ hx367_0)).trans hx367_0; replace hx367_1 := (HB.out.cell (World.block_lt_of_cell? w _ hx367_1)).trans hx367_1; replace hx367_2 := (HB.out.cell (World.block_lt_of_cell? w _ hx367_2)).trans hx367_2; replace hx367_3 := (HB.out.cell (World.block_lt_of_cell? w _ hx367_3)).trans hx367_3; have HR367_1 := Aside0.mk hi367_1; have HC367_1 := Aside0.mk hl367_1; clear hi367_1 hl367_1; have HR367_2 := Aside0.mk hi367_2; have HC367_2 := Aside0.mk hl367_2; clear hi367_2 hl367_2; have HR367_3 := Aside0.mk hi367_3; have HC367_3 := Aside0.mk hl367_3; clear hi367_3 hl367_3; replace p367 := eq_true p367; replace q367 := eq_true q367) | ((with_reducible refine gate_callee (f := 25) rfl ?_); refine goesL_ (some 56) rfl rfl Try.func25 (by kernel_rfl) rfl #[.slice A367_1 ((rd_T32 l0 0).f1).length c367_1] rfl (by (try simp only [List.map_toArray, List.map_cons, List.map_nil]); first | done | rfl | (simp only [List.length_drop, List.length_take]; rfl)) ?_; (with_reducible refine (shape_Count.calls kj3 _ _ ((rd_T32 l0 0).f1) t368 t369 _ ?side1 ?side2 A26.out).mono ?_); (case side1 => repeat (first | exact (Kd.C_below HR367_1.out HB.out) | (with_reducible refine Kd.C_alloc ?_ _) | (with_reducible refine Kd.C_drewN ?_ _) | (with_reducible refine Kd.C_drew ?_))); (case side2 => exact HC367_1.out); rintro e w' ⟨rfl, ⟨nd, rfl⟩⟩; refine ⟨_, rfl, ?_⟩; have p370 : 0 ≤ (0 : Int) := (by omega); have q370 : 0 < (l0.length : Int) := of_decide_eq_true (by first | (with_reducible assumption) | assumption); obtain ⟨ad370, A370_1, c370_1, A370_2, c370_2, A370_3, c370_3, e370, hx370_0, hx370_1, hx370_2, hx370_3, hl370_1, hi370_1, hl370_2, hi370_2, hl370_3, hi370_3⟩ := at_T32 HR0.out 0 p370 q370; obtain rfl : ad367 = ad370 := (by injection e370); have qi370 : (0 < l0.length) = True := eq_true (by omega); (try rw [show ((0 : Int)).toNat = 0 from rfl] at hx370_0); (try rw [show 0 * 4 = 0 from rfl] at hx370_0); (try rw [Addr.add_zero'] at hx370_0); (try rw [show ((0 : Int)).toNat = 0 from rfl] at hx370_1); (try rw [show 0 * 4 = 0 from rfl] at hx370_1); (try rw [Addr.add_zero'] at hx370_1); (try rw [show ((0 : Int)).toNat = 0 from rfl] at hx370_2); (try rw [show 0 * 4 = 0 from rfl] at hx370_2); (try rw [Addr.add_zero'] at hx370_2); (try rw [show ((0 : Int)).toNat = 0 from rfl] at hx370_3); (try rw [show 0 * 4 = 0 from rfl] at hx370_3); (try rw [Addr.add_zero'] at hx370_3); replace hx370_0 := (HB.out.cell (World.block_lt_of_cell? w _ hx370_0)).trans hx370_0; replace hx370_1 := (HB.out.cell (World.block_lt_of_cell? w _ hx370_1)).trans hx370_1; replace hx370_2 := (HB.out.cell (World.block_lt_of_cell? w _ hx370_2)).trans hx370_2; replace hx370_3 := (HB.out.cell (World.block_lt_of_cell? w _ hx370_3)).trans hx370_3; have HR370_1 := Aside0.mk hi370_1; have HC370_1 := Aside0.mk hl370_1; clear hi370_1 hl370_1; have HR370_2 := Aside0.mk hi370_2; have HC370_2 := Aside0.mk hl370_2; clear hi370_2 hl370_2; have HR370_3 := Aside0.mk hi370_3; have HC370_3 := Aside0.mk hl370_3; clear hi370_3 hl370_3; replace p370 := eq_true p370; replace q370 := eq_true q370; have ea_ := Option.some.inj (hx367_1.symm.trans hx370_1); injection ea_ with ea_ en_ ec_; subst ea_; subst ec_; clear en_; have ea_ := Option.some.inj (hx367_2.symm.trans hx370_2); injection ea_ with ea_ en_ ec_; subst ea_; subst ec_; clear en_; have ea_ := Option.some.inj (hx367_3.symm.trans hx370_3); injection ea_ with ea_ en_ ec_; subst ea_; subst ec_; clear en_))
      go_loopg [8, 9, 10] kj3 (fun kq v8 v9 v10 w' => ∃ (x8_2 : Int) (x9_2 : Int) (x10_2 : Int), v8 = .int .i64 x8_2 ∧ v9 = .int .i64 x9_2 ∧ v10 = .int .i64 x10_2 ∧ Aside0 (decklelaw10_ArrayKids.l0 kq l0 t355 t364 t368 x8_2 x9_2 x10_2 = some r) ∧ Aside0 (kq ≤ kj3) ∧ Aside0 (Kd.N (Kd.slice 32 k32) 22 w' w.heap.size (fun _ => True) v365 t364) ∧ Aside0 (Below w.heap.size w w'))
      case atStart => exact ⟨(t368), (0), (0), (by first | rfl | (simp; done) | (simp [*]; done)), (by first | rfl | (simp; done) | (simp [*]; done)), (by first | rfl | (simp; done) | (simp [*]; done)), H', ⟨Nat.le_refl _⟩, ⟨by (with_reducible repeat (first | apply Kd.N_alloc | apply Kd.N_drewN | apply Kd.N_drew)); exact HO366.out⟩, ⟨by repeat (first | (with_reducible first | exact HB.out | apply below_alloc | apply pw_below_drewN | apply below_drew1) | exact HB.out)⟩⟩
      case round =>
        clear H'
        try clear c1
        try clear c2
        try clear p2
        try clear c3
        try clear p3
        try clear q3
        try clear hx3
        try clear qi3
        try clear c4
        try clear c6
        try clear c8
        try clear c9
        try clear c10
        try clear c11
        try clear c13
        try clear c13b0
        try clear c13b1
        try clear c15
        try clear c15b0
        try clear c15b1
        try clear c17
        try clear c17b0
        try clear c17b1
        try clear c25
        try clear c25b0
        try clear c25b1
        try clear c27
        try clear c27b0
        try clear c27b1
        try clear hx367_0
        try clear hx367_1
        try clear hx367_2
        try clear hx367_3
        try clear hx370_0
        try clear hx370_1
        try clear hx370_2
        try clear hx370_3
        try clear p2
        try clear p367
        try clear p370
        try clear q367
        try clear q370
        obtain ⟨x8_2, x9_2, x10_2, rfl, rfl, rfl, HA, HK2, HO_5, HB⟩ := hrel
        cases gk with
        | zero => exact absurd HA.out (by simp [decklelaw10_ArrayKids.l0])
        | succ k2 =>
          have H := HA.out
          clear HA
          simp only [decklelaw10_ArrayKids.l0] at H
          by_cases c29 : x10_2 < (t364.length : Int)
          · rw [if_pos c29] at H
            have c29b0 : decide (x10_2 < (t364.length : Int)) = true := decide_eq_true c29
            clear c29
            by_cases c30 : 0 ≤ x10_2
            · rw [if_pos c30] at H
              have c30b0 : decide (0 ≤ x10_2) = true := decide_eq_true c30
              clear c30
              replace H := Option.bind_eq_some_iff.mp H
              obtain ⟨t374, A310, H⟩ := H
              replace H : ((array_Depth.f k2 (rd_L5 t364 x10_2)).bind fun t376 => ((array_Right.f k2 (rd_L5 t364 x10_2)).bind fun t378 => (if t378 = true then (decklelaw10_ArrayKids.l0 k2 l0 t355 t364 t368 (wrap64 (x8_2 + t374)) (mx x9_2 t376) (wrap64 (x10_2 + 1))) else (none)))) = some r := H
              have A31 := Aside0.mk A310
              clear A310
              replace H := Option.bind_eq_some_iff.mp H
              obtain ⟨t376, A320, H⟩ := H
              replace H : ((array_Right.f k2 (rd_L5 t364 x10_2)).bind fun t378 => (if t378 = true then (decklelaw10_ArrayKids.l0 k2 l0 t355 t364 t368 (wrap64 (x8_2 + t374)) (mx x9_2 t376) (wrap64 (x10_2 + 1))) else (none))) = some r := H
              have A32 := Aside0.mk A320
              clear A320
              obtain ⟨ji33, hji33⟩ : ∃ j_ : Int, (mx x9_2 t376) = j_ := ⟨_, rfl⟩
              replace H : ((array_Right.f k2 (rd_L5 t364 x10_2)).bind fun t378 => (if t378 = true then (decklelaw10_ArrayKids.l0 k2 l0 t355 t364 t368 (wrap64 (x8_2 + t374)) ji33 (wrap64 (x10_2 + 1))) else (none))) = some r := by first | (rw [hji33] at H; exact H) | (simp only [hji33] at H ⊢; exact H)
              (try rw [hji33] at A31)
              (try rw [hji33] at A32)
              have hji33_ : (if x9_2 < t376 then t376 else x9_2) = ji33 := hji33
              replace H := Option.bind_eq_some_iff.mp H
              obtain ⟨t378, A340, H⟩ := H
              replace H : (if t378 = true then (decklelaw10_ArrayKids.l0 k2 l0 t355 t364 t368 (wrap64 (x8_2 + t374)) ji33 (wrap64 (x10_2 + 1))) else (none)) = some r := H
              have A34 := Aside0.mk A340
              clear A340
              by_cases c35 : t378 = true
              · subst c35
                have H1 : (decklelaw10_ArrayKids.l0 k2 l0 t355 t364 t368 (wrap64 (x8_2 + t374)) ji33 (wrap64 (x10_2 + 1))) = some r := by rw [if_pos rfl] at H; exact H
                clear H
                have H := H1
                clear H1
                have H' := Aside0.mk H
                clear H
                obtain ⟨Ao36, co36, eo36⟩ := Kd.N_slice HO_5.out
                subst eo36
                have p373 : 0 ≤ (x10_2 : Int) := of_decide_eq_true (by first | (with_reducible assumption) | assumption)
                have q373 : x10_2 < (t364.length : Int) := of_decide_eq_true (by first | (with_reducible assumption) | assumption)
                obtain ⟨ad373, A373_0, c373_0, e373, hx373_0, hl373_0, hi373_0⟩ := at_L5 (Kd.N_reads' HO_5.out).2.2 x10_2 p373 q373
                cases e373
                obtain ⟨ce373, hce373, hMe373, hcc373⟩ := Kd.N_get HO_5.out [] x10_2 p373 (by first | exact q373 | exact of_decide_eq_true (by first | (with_reducible assumption) | assumption) | (have e_ := (Kd.N_reads' HO_5.out).1; omega))
                obtain ⟨ua373_0, uc373_0, rfl, ul373_0, ge373_0⟩ := Kd.FK_slice_open hMe373
                have hv373_0 := hcc373 0 _ rfl
                rw [Nat.add_zero, show ((Kd.slice 32 k32)).sz = 1 from rfl, Nat.mul_one] at hv373_0
                replace hv373_0 := Option.some.inj (hv373_0.symm.trans hx373_0)
                injection hv373_0 with hva_ hvn_ hvc_
                rw [hva_] at ge373_0
                rw [hvc_] at ul373_0
                have HL373_0 := Aside0.mk (show Kd.V k32 32 _ w.heap.size _ _ (rd_L5 t364 x10_2) from Kd.V_mk ul373_0 ge373_0)
                clear hva_ hvn_ hvc_ ge373_0 ul373_0
                clear hcc373 hce373
                have HR373_0 := Aside0.mk hi373_0
                have HC373_0 := Aside0.mk hl373_0
                clear hi373_0 hl373_0
                replace p373 := eq_true p373
                replace q373 := eq_true q373
                go_wp2_with (first | ((with_reducible refine gate_callee (f := 18) rfl ?_); refine goesL_ (some 98) rfl rfl Try.func18 (by kernel_rfl) rfl #[.slice A373_0 (rd_L5 t364 x10_2).length c373_0] rfl (by (try simp only [List.map_toArray, List.map_cons, List.map_nil]); first | done | rfl | (simp only [List.length_drop, List.length_take]; rfl)) ?_; (with_reducible refine (array_Items.calls k2 _ _ (rd_L5 t364 x10_2) t374 _ ?side1 ?side2 A31.out).mono ?_); (case side1 => repeat (first | exact (by repeat (first | (with_reducible exact HR373_0.out) | (with_reducible refine Kd.C_alloc ?_ _) | (with_reducible refine Kd.C_drewN ?_ _) | (with_reducible refine Kd.C_drew ?_) | exact HR373_0.out)) | (with_reducible refine Kd.C_alloc ?_ _) | (with_reducible refine Kd.C_drewN ?_ _) | (with_reducible refine Kd.C_drew ?_))); (case side2 => exact HC373_0.out); rintro e w37 ⟨rfl, hb⟩; refine ⟨_, rfl, ?_⟩; have n0_ := Aside0.mk (Kd.N_below (by (with_reducible repeat (first | apply Kd.N_alloc | apply Kd.N_drewN | apply Kd.N_drew)); exact HO_5.out) hb); have n1_ := Aside0.mk (Kd.V_below (by (with_reducible repeat (first | apply Kd.V_alloc | apply Kd.V_drewN | apply Kd.V_drew)); exact HL373_0.out) hb); have n2_ := Aside0.mk (Kd.C_below (by repeat (first | (with_reducible exact HR373_0.out) | (with_reducible refine Kd.C_alloc ?_ _) | (with_reducible refine Kd.C_drewN ?_ _) | (with_reducible refine Kd.C_drew ?_) | exact HR373_0.out)) hb); have n3_ := Aside0.mk (below_step (by repeat (first | (with_reducible first | exact HB.out | apply below_alloc | apply pw_below_drewN | apply below_drew1) | exact HB.out)) hb); clear HO_5; clear HL373_0; clear HR373_0; clear HB; have HO_5 := n0_; have HL373_0 := n1_; have HR373_0 := n2_; have HB := n3_; clear n0_ n1_ n2_ n3_; (try clear hb); (try clear hb2); (try clear hk); (try clear hi); have p375 : 0 ≤ (x10_2 : Int) := of_decide_eq_true (by first | (with_reducible assumption) | assumption); have q375 : x10_2 < (t364.length : Int) := of_decide_eq_true (by first | (with_reducible assumption) | assumption); obtain ⟨ad375, A375_0, c375_0, e375, hx375_0, hl375_0, hi375_0⟩ := at_L5 (Kd.N_reads' HO_5.out).2.2 x10_2 p375 q375; obtain rfl : ad373 = ad375 := (by injection e375); obtain ⟨ce375, hce375, hMe375, hcc375⟩ := Kd.N_get HO_5.out [] x10_2 p375 (by first | exact q375 | exact of_decide_eq_true (by first | (with_reducible assumption) | assumption) | (have e_ := (Kd.N_reads' HO_5.out).1; omega)); obtain ⟨ua375_0, uc375_0, rfl, ul375_0, ge375_0⟩ := Kd.FK_slice_open hMe375; have hv375_0 := hcc375 0 _ rfl; rw [Nat.add_zero, show ((Kd.slice 32 k32)).sz = 1 from rfl, Nat.mul_one] at hv375_0; replace hv375_0 := Option.some.inj (hv375_0.symm.trans hx375_0); injection hv375_0 with hva_ hvn_ hvc_; rw [hva_] at ge375_0; rw [hvc_] at ul375_0; have HL375_0 := Aside0.mk (show Kd.V k32 32 _ w.heap.size _ _ (rd_L5 t364 x10_2) from Kd.V_mk ul375_0 ge375_0); clear hva_ hvn_ hvc_ ge375_0 ul375_0; clear hcc375 hce375; have HR375_0 := Aside0.mk hi375_0; have HC375_0 := Aside0.mk hl375_0; clear hi375_0 hl375_0; replace p375 := eq_true p375; replace q375 := eq_true q375) | ((with_reducible refine gate_callee (f := 20) rfl ?_); refine goesL_ (some 105) rfl rfl Try.func20 (by kernel_rfl) rfl #[.slice A375_0 (rd_L5 t364 x10_2).length c375_0] rfl (by (try simp only [List.map_toArray, List.map_cons, List.map_nil]); first | done | rfl | (simp only [List.length_drop, List.length_take]; rfl)) ?_; (with_reducible refine (array_Depth.calls k2 _ _ (rd_L5 t364 x10_2) t376 _ ?side1 ?side2 A32.out).mono ?_); (case side1 => repeat (first | exact (by repeat (first | (with_reducible exact HR375_0.out) | (with_reducible refine Kd.C_alloc ?_ _) | (with_reducible refine Kd.C_drewN ?_ _) | (with_reducible refine Kd.C_drew ?_) | exact HR375_0.out)) | (with_reducible refine Kd.C_alloc ?_ _) | (with_reducible refine Kd.C_drewN ?_ _) | (with_reducible refine Kd.C_drew ?_))); (case side2 => exact HC375_0.out); rintro e w38 ⟨rfl, hb⟩; refine ⟨_, rfl, ?_⟩; have n0_ := Aside0.mk (Kd.N_below (by (with_reducible repeat (first | apply Kd.N_alloc | apply Kd.N_drewN | apply Kd.N_drew)); exact HO_5.out) hb); have n1_ := Aside0.mk (Kd.V_below (by (with_reducible repeat (first | apply Kd.V_alloc | apply Kd.V_drewN | apply Kd.V_drew)); exact HL373_0.out) hb); have n2_ := Aside0.mk (Kd.V_below (by (with_reducible repeat (first | apply Kd.V_alloc | apply Kd.V_drewN | apply Kd.V_drew)); exact HL375_0.out) hb); have n3_ := Aside0.mk (Kd.C_below (by repeat (first | (with_reducible exact HR373_0.out) | (with_reducible refine Kd.C_alloc ?_ _) | (with_reducible refine Kd.C_drewN ?_ _) | (with_reducible refine Kd.C_drew ?_) | exact HR373_0.out)) hb); have n4_ := Aside0.mk (Kd.C_below (by repeat (first | (with_reducible exact HR375_0.out) | (with_reducible refine Kd.C_alloc ?_ _) | (with_reducible refine Kd.C_drewN ?_ _) | (with_reducible refine Kd.C_drew ?_) | exact HR375_0.out)) hb); have n5_ := Aside0.mk (below_step (by repeat (first | (with_reducible first | exact HB.out | apply below_alloc | apply pw_below_drewN | apply below_drew1) | exact HB.out)) hb); clear HO_5; clear HL373_0; clear HL375_0; clear HR373_0; clear HR375_0; clear HB; have HO_5 := n0_; have HL373_0 := n1_; have HL375_0 := n2_; have HR373_0 := n3_; have HR375_0 := n4_; have HB := n5_; clear n0_ n1_ n2_ n3_ n4_ n5_; (try clear hb); (try clear hb2); (try clear hk); (try clear hi); have p377 : 0 ≤ (x10_2 : Int) := of_decide_eq_true (by first | (with_reducible assumption) | assumption); have q377 : x10_2 < (t364.length : Int) := of_decide_eq_true (by first | (with_reducible assumption) | assumption); obtain ⟨ad377, A377_0, c377_0, e377, hx377_0, hl377_0, hi377_0⟩ := at_L5 (Kd.N_reads' HO_5.out).2.2 x10_2 p377 q377; obtain rfl : ad373 = ad377 := (by injection e377); obtain ⟨ce377, hce377, hMe377, hcc377⟩ := Kd.N_get HO_5.out [] x10_2 p377 (by first | exact q377 | exact of_decide_eq_true (by first | (with_reducible assumption) | assumption) | (have e_ := (Kd.N_reads' HO_5.out).1; omega)); obtain ⟨ua377_0, uc377_0, rfl, ul377_0, ge377_0⟩ := Kd.FK_slice_open hMe377; have hv377_0 := hcc377 0 _ rfl; rw [Nat.add_zero, show ((Kd.slice 32 k32)).sz = 1 from rfl, Nat.mul_one] at hv377_0; replace hv377_0 := Option.some.inj (hv377_0.symm.trans hx377_0); injection hv377_0 with hva_ hvn_ hvc_; rw [hva_] at ge377_0; rw [hvc_] at ul377_0; have HL377_0 := Aside0.mk (show Kd.V k32 32 _ w.heap.size _ _ (rd_L5 t364 x10_2) from Kd.V_mk ul377_0 ge377_0); clear hva_ hvn_ hvc_ ge377_0 ul377_0; clear hcc377 hce377; have HR377_0 := Aside0.mk hi377_0; have HC377_0 := Aside0.mk hl377_0; clear hi377_0 hl377_0; replace p377 := eq_true p377; replace q377 := eq_true q377) | ((with_reducible refine gate_callee (f := 14) rfl ?_); refine goesL_ (some 111) rfl rfl Try.func14 (by kernel_rfl) rfl #[.slice A377_0 (rd_L5 t364 x10_2).length c377_0] rfl (by (try simp only [List.map_toArray, List.map_cons, List.map_nil]); first | done | rfl | (simp only [List.length_drop, List.length_take]; rfl)) ?_; (with_reducible refine (array_Right.calls k2 _ _ (rd_L5 t364 x10_2) true _ ?side1 ?side2 A34.out).mono ?_); (case side1 => repeat (first | exact (by repeat (first | (with_reducible exact HR377_0.out) | (with_reducible refine Kd.C_alloc ?_ _) | (with_reducible refine Kd.C_drewN ?_ _) | (with_reducible refine Kd.C_drew ?_) | exact HR377_0.out)) | (with_reducible refine Kd.C_alloc ?_ _) | (with_reducible refine Kd.C_drewN ?_ _) | (with_reducible refine Kd.C_drew ?_))); (case side2 => exact HC377_0.out); rintro e w39 ⟨rfl, hb⟩; refine ⟨_, rfl, ?_⟩; have n0_ := Aside0.mk (Kd.N_below (by (with_reducible repeat (first | apply Kd.N_alloc | apply Kd.N_drewN | apply Kd.N_drew)); exact HO_5.out) hb); have n1_ := Aside0.mk (Kd.V_below (by (with_reducible repeat (first | apply Kd.V_alloc | apply Kd.V_drewN | apply Kd.V_drew)); exact HL373_0.out) hb); have n2_ := Aside0.mk (Kd.V_below (by (with_reducible repeat (first | apply Kd.V_alloc | apply Kd.V_drewN | apply Kd.V_drew)); exact HL375_0.out) hb); have n3_ := Aside0.mk (Kd.V_below (by (with_reducible repeat (first | apply Kd.V_alloc | apply Kd.V_drewN | apply Kd.V_drew)); exact HL377_0.out) hb); have n4_ := Aside0.mk (Kd.C_below (by repeat (first | (with_reducible exact HR373_0.out) | (with_reducible refine Kd.C_alloc ?_ _) | (with_reducible refine Kd.C_drewN ?_ _) | (with_reducible refine Kd.C_drew ?_) | exact HR373_0.out)) hb); have n5_ := Aside0.mk (Kd.C_below (by repeat (first | (with_reducible exact HR375_0.out) | (with_reducible refine Kd.C_alloc ?_ _) | (with_reducible refine Kd.C_drewN ?_ _) | (with_reducible refine Kd.C_drew ?_) | exact HR375_0.out)) hb); have n6_ := Aside0.mk (Kd.C_below (by repeat (first | (with_reducible exact HR377_0.out) | (with_reducible refine Kd.C_alloc ?_ _) | (with_reducible refine Kd.C_drewN ?_ _) | (with_reducible refine Kd.C_drew ?_) | exact HR377_0.out)) hb); have n7_ := Aside0.mk (below_step (by repeat (first | (with_reducible first | exact HB.out | apply below_alloc | apply pw_below_drewN | apply below_drew1) | exact HB.out)) hb); clear HO_5; clear HL373_0; clear HL375_0; clear HL377_0; clear HR373_0; clear HR375_0; clear HR377_0; clear HB; have HO_5 := n0_; have HL373_0 := n1_; have HL375_0 := n2_; have HL377_0 := n3_; have HR373_0 := n4_; have HR375_0 := n5_; have HR377_0 := n6_; have HB := n7_; clear n0_ n1_ n2_ n3_ n4_ n5_ n6_ n7_; (try clear hb); (try clear hb2); (try clear hk); (try clear hi)))
                go_roundg k2
                case measure => have := HJ3.out; have := HK2.out; omega
                case rel => exact ⟨(wrap64 (x8_2 + t374)), (ji33), (wrap64 (x10_2 + 1)), (by first | rfl | (simp; done) | (simp [*]; done)), (by first | rfl | (simp; done) | (simp only [← hji33] <;> (first | rfl | simp)) | (simp [*]; done)), (by first | rfl | (simp; done) | (simp [*]; done)), H', ⟨by have := HJ3.out; have := HK2.out; omega⟩, ⟨by (with_reducible repeat (first | apply Kd.N_alloc | apply Kd.N_drewN | apply Kd.N_drew)); exact HO_5.out⟩, ⟨by repeat (first | (with_reducible first | exact HB.out | apply below_alloc | apply pw_below_drewN | apply below_drew1) | exact HB.out)⟩⟩
              · replace c35 := Bool.eq_false_iff.mpr c35
                subst c35
                have H1 : (none) = some r := by rw [if_neg (show ¬ (false = true) by decide)] at H; exact H
                clear H
                have H := H1
                clear H1
                exact absurd H (by simp)
            · rw [if_neg c30] at H
              exact absurd H (by simp)
          rw [if_neg c29] at H
          have c29b0 : decide (x10_2 < (t364.length : Int)) = false := decide_eq_false c29
          clear c29
          by_cases c40 : 0 < (l0.length : Int)
          rotate_left
          · rw [if_neg c40] at H
            exact absurd H (by simp)
          rw [if_pos c40] at H
          have c40b0 : decide (0 < (l0.length : Int)) = true := decide_eq_true c40
          have c40b1 : decide (0 < l0.length) = true := decide_eq_true (by omega)
          clear c40
          replace H := Option.bind_eq_some_iff.mp H
          obtain ⟨⟨t380, t383⟩, A410, H⟩ := H
          replace H : (if t355 = true then (if (t364.length : Int) = t368 then ((array_Items.f k2 l0).bind fun t384 => (if t384 = x8_2 then ((array_Depth.f k2 l0).bind fun t385 => (if t385 = (wrap64 (x9_2 + 1)) then (if t383 = true then ((array_Same.f k2 t380 l0).bind fun t386 => (some t386)) else (none)) else (none))) else (none))) else (none)) else (none)) = some r := H
          have A41 := Aside0.mk A410
          clear A410
          by_cases c42 : t355 = true
          rotate_left
          · replace c42 := Bool.eq_false_iff.mpr c42
            subst c42
            have H1 : (none) = some r := by rw [if_neg (show ¬ (false = true) by decide)] at H; exact H
            clear H
            have H := H1
            clear H1
            exact absurd H (by simp)
          subst c42
          have H1 : (if (t364.length : Int) = t368 then ((array_Items.f k2 l0).bind fun t384 => (if t384 = x8_2 then ((array_Depth.f k2 l0).bind fun t385 => (if t385 = (wrap64 (x9_2 + 1)) then (if t383 = true then ((array_Same.f k2 t380 l0).bind fun t386 => (some t386)) else (none)) else (none))) else (none))) else (none)) = some r := by rw [if_pos rfl] at H; exact H
          clear H
          have H := H1
          clear H1
          by_cases c43 : (t364.length : Int) = t368
          rotate_left
          · rw [if_neg c43] at H
            exact absurd H (by simp)
          rw [if_pos c43] at H
          have c43b0 : ((t364.length : Int) == t368) = true := beq_iff_eq.mpr c43
          have c43b1 : ((t364.length : Int) != t368) = false := bne_eq_false_iff_eq.mpr c43
          clear c43
          replace H := Option.bind_eq_some_iff.mp H
          obtain ⟨t384, A440, H⟩ := H
          replace H : (if t384 = x8_2 then ((array_Depth.f k2 l0).bind fun t385 => (if t385 = (wrap64 (x9_2 + 1)) then (if t383 = true then ((array_Same.f k2 t380 l0).bind fun t386 => (some t386)) else (none)) else (none))) else (none)) = some r := H
          have A44 := Aside0.mk A440
          clear A440
          by_cases c45 : t384 = x8_2
          rotate_left
          · rw [if_neg c45] at H
            exact absurd H (by simp)
          rw [if_pos c45] at H
          have c45b0 : (t384 == x8_2) = true := beq_iff_eq.mpr c45
          have c45b1 : (t384 != x8_2) = false := bne_eq_false_iff_eq.mpr c45
          clear c45
          replace H := Option.bind_eq_some_iff.mp H
          obtain ⟨t385, A460, H⟩ := H
          replace H : (if t385 = (wrap64 (x9_2 + 1)) then (if t383 = true then ((array_Same.f k2 t380 l0).bind fun t386 => (some t386)) else (none)) else (none)) = some r := H
          have A46 := Aside0.mk A460
          clear A460
          by_cases c47 : t385 = (wrap64 (x9_2 + 1))
          rotate_left
          · rw [if_neg c47] at H
            exact absurd H (by simp)
          rw [if_pos c47] at H
          have c47b0 : (t385 == (wrap64 (x9_2 + 1))) = true := beq_iff_eq.mpr c47
          have c47b1 : (t385 != (wrap64 (x9_2 + 1))) = false := bne_eq_false_iff_eq.mpr c47
          clear c47
          by_cases c48 : t383 = true
          rotate_left
          · replace c48 := Bool.eq_false_iff.mpr c48
            subst c48
            have H1 : (none) = some r := by rw [if_neg (show ¬ (false = true) by decide)] at H; exact H
            clear H
            have H := H1
            clear H1
            exact absurd H (by simp)
          subst c48
          have H1 : ((array_Same.f k2 t380 l0).bind fun t386 => (some t386)) = some r := by rw [if_pos rfl] at H; exact H
          clear H
          have H := H1
          clear H1
          replace H := Option.bind_eq_some_iff.mp H
          obtain ⟨t386, A490, H⟩ := H
          replace H : (some t386) = some r := H
          have A49 := Aside0.mk A490
          clear A490
          obtain rfl := Option.some.inj H
          obtain ⟨Ao50, co50, eo50⟩ := Kd.N_slice HO_5.out
          subst eo50
          have p379 : 0 ≤ (0 : Int) := (by omega)
          have q379 : 0 < (l0.length : Int) := of_decide_eq_true (by first | (with_reducible assumption) | assumption)
          obtain ⟨ad379, A379_1, c379_1, A379_2, c379_2, A379_3, c379_3, e379, hx379_0, hx379_1, hx379_2, hx379_3, hl379_1, hi379_1, hl379_2, hi379_2, hl379_3, hi379_3⟩ := at_T32 HR0.out 0 p379 q379
          obtain rfl : ad367 = ad379 := (by injection e379)
          have qi379 : (0 < l0.length) = True := eq_true (by omega)
          (try rw [show ((0 : Int)).toNat = 0 from rfl] at hx379_0)
          (try rw [show 0 * 4 = 0 from rfl] at hx379_0)
          (try rw [Addr.add_zero'] at hx379_0)
          (try rw [show ((0 : Int)).toNat = 0 from rfl] at hx379_1)
          (try rw [show 0 * 4 = 0 from rfl] at hx379_1)
          (try rw [Addr.add_zero'] at hx379_1)
          (try rw [show ((0 : Int)).toNat = 0 from rfl] at hx379_2)
          (try rw [show 0 * 4 = 0 from rfl] at hx379_2)
          (try rw [Addr.add_zero'] at hx379_2)
          (try rw [show ((0 : Int)).toNat = 0 from rfl] at hx379_3)
          (try rw [show 0 * 4 = 0 from rfl] at hx379_3)
          (try rw [Addr.add_zero'] at hx379_3)
          replace hx379_0 := (HB.out.cell (World.block_lt_of_cell? w _ hx379_0)).trans hx379_0
          replace hx379_1 := (HB.out.cell (World.block_lt_of_cell? w _ hx379_1)).trans hx379_1
          replace hx379_2 := (HB.out.cell (World.block_lt_of_cell? w _ hx379_2)).trans hx379_2
          replace hx379_3 := (HB.out.cell (World.block_lt_of_cell? w _ hx379_3)).trans hx379_3
          have HR379_1 := Aside0.mk hi379_1
          have HC379_1 := Aside0.mk hl379_1
          clear hi379_1 hl379_1
          have HR379_2 := Aside0.mk hi379_2
          have HC379_2 := Aside0.mk hl379_2
          clear hi379_2 hl379_2
          have HR379_3 := Aside0.mk hi379_3
          have HC379_3 := Aside0.mk hl379_3
          clear hi379_3 hl379_3
          replace p379 := eq_true p379
          replace q379 := eq_true q379
          go_wp2_with (first | ((with_reducible refine gate_callee (f := 26) rfl ?_); refine goesL_ (some 119) rfl rfl Try.func26 (by kernel_rfl) rfl #[.slice A379_1 ((rd_T32 l0 0).f1).length c379_1, .slice Ao50 t364.length co50] rfl (by (try simp only [List.map_toArray, List.map_cons, List.map_nil]); first | done | rfl | (simp only [List.length_drop, List.length_take]; rfl)) ?_; (with_reducible refine (array_Nest.calls k2 (fun k_ => k_ < w.heap.size) _ _ ((rd_T32 l0 0).f1) (fun k_ => True) _ _ t364 t380 true _ ?side1 ?side2 A41.out).mono ?_); (case side1 => exact Kd.V_mk HC379_1.out (Kd.F_below (Kd.C_F (Kd.heap_int .i64) HR379_1.out) (by repeat (first | (with_reducible first | exact HB.out | apply below_alloc | apply pw_below_drewN | apply below_drew1) | exact HB.out)))); (case side2 => exact Kd.N_V (HO_5.out)); rintro e w51 ⟨v381, rfl, ho0, hb⟩; refine ⟨_, rfl, ?_⟩; have n0_ := Aside0.mk (Kd.N_elder' (by (with_reducible repeat (first | apply Kd.N_alloc | apply Kd.N_drewN | apply Kd.N_drew)); exact HO_5.out) (Kd.N_base ho0) hb); have n1_ := Aside0.mk (Kd.N_lower (Kd.N_mono (ok' := fun k_ => some k_ ≠ (.slice Ao50 t364.length co50 : Value).ownBlock) ho0 (fun k_ hk_ => (Kd.fresh' (Kd.N_lt (by (with_reducible repeat (first | apply Kd.N_alloc | apply Kd.N_drewN | apply Kd.N_drew)); exact HO_5.out)) k_ hk_))) (below_size (by repeat (first | (with_reducible first | exact HB.out | apply below_alloc | apply pw_below_drewN | apply below_drew1) | exact HB.out)))); have n2_ := Aside0.mk (below_step (by repeat (first | (with_reducible first | exact HB.out | apply below_alloc | apply pw_below_drewN | apply below_drew1) | exact HB.out)) hb); clear HO_5; clear HB; have HO_5 := n0_; have HO382 := n1_; have HB := n2_; clear n0_ n1_ n2_; (try clear hb); (try clear hb2); (try clear hk); (try clear hi); (try clear ho0)) | (go_at_call 18; (with_reducible refine (array_Items.calls k2 _ _ l0 t384 _ ?side1 ?side2 A44.out).mono ?_); (case side1 => repeat (first | exact (Kd.C_below HR0.out HB.out) | (with_reducible refine Kd.C_alloc ?_ _) | (with_reducible refine Kd.C_drewN ?_ _) | (with_reducible refine Kd.C_drew ?_))); (case side2 => exact HC0.out); rintro e w52 ⟨rfl, hb⟩; have n0_ := Aside0.mk (Kd.N_below (by (with_reducible repeat (first | apply Kd.N_alloc | apply Kd.N_drewN | apply Kd.N_drew)); exact HO_5.out) hb); have n1_ := Aside0.mk (Kd.N_below (by (with_reducible repeat (first | apply Kd.N_alloc | apply Kd.N_drewN | apply Kd.N_drew)); exact HO382.out) hb); have n2_ := Aside0.mk (below_step (by repeat (first | (with_reducible first | exact HB.out | apply below_alloc | apply pw_below_drewN | apply below_drew1) | exact HB.out)) hb); clear HO_5; clear HO382; clear HB; have HO_5 := n0_; have HO382 := n1_; have HB := n2_; clear n0_ n1_ n2_; (try clear hb); (try clear hb2); (try clear hk); (try clear hi)) | (go_at_call 20; (with_reducible refine (array_Depth.calls k2 _ _ l0 t385 _ ?side1 ?side2 A46.out).mono ?_); (case side1 => repeat (first | exact (Kd.C_below HR0.out HB.out) | (with_reducible refine Kd.C_alloc ?_ _) | (with_reducible refine Kd.C_drewN ?_ _) | (with_reducible refine Kd.C_drew ?_))); (case side2 => exact HC0.out); rintro e w53 ⟨rfl, hb⟩; have n0_ := Aside0.mk (Kd.N_below (by (with_reducible repeat (first | apply Kd.N_alloc | apply Kd.N_drewN | apply Kd.N_drew)); exact HO_5.out) hb); have n1_ := Aside0.mk (Kd.N_below (by (with_reducible repeat (first | apply Kd.N_alloc | apply Kd.N_drewN | apply Kd.N_drew)); exact HO382.out) hb); have n2_ := Aside0.mk (below_step (by repeat (first | (with_reducible first | exact HB.out | apply below_alloc | apply pw_below_drewN | apply below_drew1) | exact HB.out)) hb); clear HO_5; clear HO382; clear HB; have HO_5 := n0_; have HO382 := n1_; have HB := n2_; clear n0_ n1_ n2_; (try clear hb); (try clear hb2); (try clear hk); (try clear hi); obtain ⟨Ao54, co54, eo54⟩ := Kd.N_slice HO382.out; subst eo54) | (go_at_call 24; (with_reducible refine (array_Same.calls k2 _ _ t380 _ _ l0 t386 _ ?side1 ?side2 ?side3 ?side4 A49.out).mono ?_); (case side1 => repeat (first | exact (Kd.N_reads' HO382.out).2.2 | (with_reducible refine Kd.C_alloc ?_ _) | (with_reducible refine Kd.C_drewN ?_ _) | (with_reducible refine Kd.C_drew ?_))); (case side2 => exact (Kd.N_reads' HO382.out).2.1); (case side3 => repeat (first | exact (Kd.C_below HR0.out HB.out) | (with_reducible refine Kd.C_alloc ?_ _) | (with_reducible refine Kd.C_drewN ?_ _) | (with_reducible refine Kd.C_drew ?_))); (case side4 => exact HC0.out); rintro e w55 ⟨rfl, hb⟩; have n0_ := Aside0.mk (Kd.N_below (by (with_reducible repeat (first | apply Kd.N_alloc | apply Kd.N_drewN | apply Kd.N_drew)); exact HO_5.out) hb); have n1_ := Aside0.mk (Kd.N_below (by (with_reducible repeat (first | apply Kd.N_alloc | apply Kd.N_drewN | apply Kd.N_drew)); exact HO382.out) hb); have n2_ := Aside0.mk (below_step (by repeat (first | (with_reducible first | exact HB.out | apply below_alloc | apply pw_below_drewN | apply below_drew1) | exact HB.out)) hb); clear HO_5; clear HO382; clear HB; have HO_5 := n0_; have HO382 := n1_; have HB := n2_; clear n0_ n1_ n2_; (try clear hb); (try clear hb2); (try clear hk); (try clear hi)))
          go_ret
          exact ⟨by first | rfl | (simp [errW_none, errW_some] <;> rfl) | (simp [*, errW_none, errW_some] <;> rfl), by repeat (first | (with_reducible first | exact HB.out | apply below_alloc | apply pw_below_drewN | apply below_drew1) | exact HB.out)⟩

end Go.Proofs.Ytgbmbcippldhnaa.HArrayKids
