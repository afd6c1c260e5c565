-- Written by the session's program hy.py.
import Derived.Test.YtgbmbcippldhnaaHArrayTakesx0
import Derived.Test.YtgbmbcippldhnaaHArrayTakesx2
import Derived.Test.YtgbmbcippldhnaaHArrayTakesx6
import Derived.Test.YtgbmbcippldhnaaHArrayTakesx9
import Derived.Test.YtgbmbcippldhnaaHArrayTakesx10
namespace Go.Proofs.Ytgbmbcippldhnaa.HArrayTakes
open Go.RowKit Go.Proofs.YtgbmbcippldhnaaW.PrintWords Go.Proofs.YtgbmbcippldhnaaW.PrintLast Go.Proofs.YtgbmbcippldhnaaW.PrintMore
attribute [local go_sem] max2_int min2_int max_two min_two max_three min_three max_four min_four   -- for this text's walks alone
set_option linter.unusedVariables false
set_option linter.unusedSimpArgs false

/-! ### decklelaw10_ArrayTakes: function 5 -/
mutual
def decklelaw10_ArrayTakes.j0 : Nat → List (S32) → List (S32) → Bool → Bool → Option (Bool)
  | 0, _, _, _, _ => none
  | k + 1, x0, x1, x5, x20 => if x20 = true then (some x5) else ((array_Take.f k x0).bind fun t358 => (if t358 < 0 then (decklelaw10_ArrayTakes.j1 k x0 x5 t358 true) else (if t358 > (x0.length : Int) then (decklelaw10_ArrayTakes.j1 k x0 x5 t358 true) else (if t358 > 0 then (if 0 ≤ t358 then (if t358 ≤ (x0.length : Int) then ((array_Right.f k (x0.take (t358 : Int).toNat)).bind fun t363 => (if t363 = true then ((array_Copy.f x0).bind fun t364 => (if t364.length + x1.length < 1759218604441 then ((array_Take.f k (t364 ++ x1)).bind fun t370 => (decklelaw10_ArrayTakes.j1 k x0 x5 t358 (t370 != t358))) else (none))) else (decklelaw10_ArrayTakes.j1 k x0 x5 t358 true))) else (none)) else (none)) else (decklelaw10_ArrayTakes.j1 k x0 x5 t358 false)))))
def decklelaw10_ArrayTakes.j1 : Nat → List (S32) → Bool → Int → Bool → Option (Bool)
  | 0, _, _, _, _ => none
  | k + 1, x0, x5, x8, x51 => if x51 = true then (none) else (decklelaw10_ArrayTakes.l0 k x0 x5 x8 0)
def decklelaw10_ArrayTakes.l0 : Nat → List (S32) → Bool → Int → Int → Option (Bool)
  | 0, _, _, _, _ => none
  | k + 1, x0, x5, x8, x9 => if x9 < x8 then (if 0 ≤ x9 then (if x9 ≤ (x0.length : Int) then ((array_Take.f k (x0.take (x9 : Int).toNat)).bind fun t376 => (if t376 = 0 then ((array_Right.f k (x0.take (x9 : Int).toNat)).bind fun t381 => (if t381 = true then (none) else (decklelaw10_ArrayTakes.l0 k x0 x5 x8 (wrap64 (x9 + 1))))) else (none))) else (none)) else (none)) else (if x5 = true then ((array_Right.f k x0).bind fun t371 => (if x8 > 0 then (some (t371 == (x8 == (x0.length : Int)))) else (some (t371 == false)))) else (none))
end
def decklelaw10_ArrayTakes.f (k : Nat) (l0 : List (S32)) (l1 : List (S32)) : Option (Bool) := (decklelaw10_small.f k).bind fun t355 => ((decklelaw10_Few.f k l0).bind fun t356 => ((decklelaw10_Few.f k l1).bind fun t357 => (if t356 = true then (decklelaw10_ArrayTakes.j0 k l0 l1 t355 (!t357)) else (decklelaw10_ArrayTakes.j0 k l0 l1 t355 true))))
theorem decklelaw10_ArrayTakes.mono_l : ∀ k, (∀ y0 y1 y2 y3, LeO (decklelaw10_ArrayTakes.j0 k y0 y1 y2 y3) (decklelaw10_ArrayTakes.j0 (k + 1) y0 y1 y2 y3)) ∧ (∀ y0 y1 y2 y3, LeO (decklelaw10_ArrayTakes.j1 k y0 y1 y2 y3) (decklelaw10_ArrayTakes.j1 (k + 1) y0 y1 y2 y3)) ∧ (∀ y0 y1 y2 y3, LeO (decklelaw10_ArrayTakes.l0 k y0 y1 y2 y3) (decklelaw10_ArrayTakes.l0 (k + 1) y0 y1 y2 y3))
  | 0 => ⟨fun _ _ _ _ r h => by simp [decklelaw10_ArrayTakes.j0] at h, fun _ _ _ _ r h => by simp [decklelaw10_ArrayTakes.j1] at h, fun _ _ _ _ r h => by simp [decklelaw10_ArrayTakes.l0] at h⟩
  | k + 1 => by
    obtain ⟨ih0, ih1, ih2⟩ := decklelaw10_ArrayTakes.mono_l k
    refine ⟨?_, ?_, ?_⟩
    · intro y0 y1 y2 y3
      unfold decklelaw10_ArrayTakes.j0
      repeat' first
      | (with_reducible exact ih0 _ _ _ _)
      | (with_reducible exact ih1 _ _ _ _)
      | (with_reducible exact ih2 _ _ _ _)
      | (with_reducible exact array_Right.mono _ _)
      | (with_reducible exact array_Take.mono _ _)
      | (with_reducible exact decklelaw10_Few.mono _ _)
      | (with_reducible exact decklelaw10_small.mono _)
      | (with_reducible exact LeO.refl _)
      | (with_reducible exact LeO.none _)
      | (with_reducible refine LeO.ite ?_ ?_)
      | (with_reducible refine LeO.bind ?_ (fun _ => ?_))
      | exact ih0 _ _ _ _
      | exact ih1 _ _ _ _
      | exact ih2 _ _ _ _
      | exact array_Right.mono _ _
      | exact array_Take.mono _ _
      | exact decklelaw10_Few.mono _ _
      | exact decklelaw10_small.mono _
      | exact LeO.none _
      | refine LeO.ite ?_ ?_
      | refine LeO.bind ?_ (fun _ => ?_)
    · intro y0 y1 y2 y3
      unfold decklelaw10_ArrayTakes.j1
      repeat' first
      | (with_reducible exact ih0 _ _ _ _)
      | (with_reducible exact ih1 _ _ _ _)
      | (with_reducible exact ih2 _ _ _ _)
      | (with_reducible exact array_Right.mono _ _)
      | (with_reducible exact array_Take.mono _ _)
      | (with_reducible exact decklelaw10_Few.mono _ _)
      | (with_reducible exact decklelaw10_small.mono _)
      | (with_reducible exact LeO.refl _)
      | (with_reducible exact LeO.none _)
      | (with_reducible refine LeO.ite ?_ ?_)
      | (with_reducible refine LeO.bind ?_ (fun _ => ?_))
      | exact ih0 _ _ _ _
      | exact ih1 _ _ _ _
      | exact ih2 _ _ _ _
      | exact array_Right.mono _ _
      | exact array_Take.mono _ _
      | exact decklelaw10_Few.mono _ _
      | exact decklelaw10_small.mono _
      | exact LeO.none _
      | refine LeO.ite ?_ ?_
      | refine LeO.bind ?_ (fun _ => ?_)
    · intro y0 y1 y2 y3
      unfold decklelaw10_ArrayTakes.l0
      repeat' first
      | (with_reducible exact ih0 _ _ _ _)
      | (with_reducible exact ih1 _ _ _ _)
      | (with_reducible exact ih2 _ _ _ _)
      | (with_reducible exact array_Right.mono _ _)
      | (with_reducible exact array_Take.mono _ _)
      | (with_reducible exact decklelaw10_Few.mono _ _)
      | (with_reducible exact decklelaw10_small.mono _)
      | (with_reducible exact LeO.refl _)
      | (with_reducible exact LeO.none _)
      | (with_reducible refine LeO.ite ?_ ?_)
      | (with_reducible refine LeO.bind ?_ (fun _ => ?_))
      | exact ih0 _ _ _ _
      | exact ih1 _ _ _ _
      | exact ih2 _ _ _ _
      | exact array_Right.mono _ _
      | exact array_Take.mono _ _
      | exact decklelaw10_Few.mono _ _
      | exact decklelaw10_small.mono _
      | exact LeO.none _
      | refine LeO.ite ?_ ?_
      | refine LeO.bind ?_ (fun _ => ?_)
theorem decklelaw10_ArrayTakes.mono : ∀ a0 a1 k, LeO (decklelaw10_ArrayTakes.f k a0 a1) (decklelaw10_ArrayTakes.f (k + 1) a0 a1) := by
  intro a0 a1 k
  obtain ⟨ih0, ih1, ih2⟩ := decklelaw10_ArrayTakes.mono_l k
  unfold decklelaw10_ArrayTakes.f
  repeat' first
      | (with_reducible exact ih0 _ _ _ _)
      | (with_reducible exact ih1 _ _ _ _)
      | (with_reducible exact ih2 _ _ _ _)
      | (with_reducible exact array_Right.mono _ _)
      | (with_reducible exact array_Take.mono _ _)
      | (with_reducible exact decklelaw10_Few.mono _ _)
      | (with_reducible exact decklelaw10_small.mono _)
      | (with_reducible exact LeO.refl _)
      | (with_reducible exact LeO.none _)
      | (with_reducible refine LeO.ite ?_ ?_)
      | (with_reducible refine LeO.bind ?_ (fun _ => ?_))
      | exact ih0 _ _ _ _
      | exact ih1 _ _ _ _
      | exact ih2 _ _ _ _
      | exact array_Right.mono _ _
      | exact array_Take.mono _ _
      | exact decklelaw10_Few.mono _ _
      | exact decklelaw10_small.mono _
      | exact LeO.none _
      | refine LeO.ite ?_ ?_
      | refine LeO.bind ?_ (fun _ => ?_)
set_option maxHeartbeats 8000000 in
set_option maxRecDepth 100000 in
theorem decklelaw10_ArrayTakes.calls (k : Nat) (A0 : Option Addr) (c0 : Nat) (l0 : List (S32)) (P1_ : Nat → Prop) (A1 : Option Addr) (c1 : Nat) (l1 : List (S32)) (r : Bool) (w : World) (hr0 : Kd.C k32 w A0 l0.length l0) (hc0 : l0.length ≤ c0) (hs1 : Kd.V k32 32 w w.heap.size (fun k_ => P1_ k_) (.slice A1 l1.length c1) l1) (h : decklelaw10_ArrayTakes.f k l0 l1 = some r) :
    Calls Try.prog 5 #[.slice A0 l0.length c0, .slice A1 l1.length c1] w fun e w' => e = .returned (.bool r) ∧ Below w.heap.size w w' := by
  have HR0 := Aside0.mk hr0
  have HC0 := Aside0.mk hc0
  clear hr0 hc0
  have HO1 := Aside0.mk (show Kd.V k32 32 w w.heap.size (fun k_ => (P1_ k_ ∨ w.heap.size ≤ k_)) (.slice A1 l1.length c1) l1 from Kd.V_mono hs1 (fun k_ hk => .inl hk))
  have HB := Aside0.mk (Below.refl w.heap.size w)
  have H : ((decklelaw10_small.f k).bind fun t355 => ((decklelaw10_Few.f k l0).bind fun t356 => ((decklelaw10_Few.f k l1).bind fun t357 => (if t356 = true then (decklelaw10_ArrayTakes.j0 k l0 l1 t355 (!t357)) else (decklelaw10_ArrayTakes.j0 k l0 l1 t355 true))))) = some r := h
  clear h
  replace H := Option.bind_eq_some_iff.mp H
  obtain ⟨t355, A30, H⟩ := H
  replace H : ((decklelaw10_Few.f k l0).bind fun t356 => ((decklelaw10_Few.f k l1).bind fun t357 => (if t356 = true then (decklelaw10_ArrayTakes.j0 k l0 l1 t355 (!t357)) else (decklelaw10_ArrayTakes.j0 k l0 l1 t355 true)))) = some r := H
  have A3 := Aside0.mk A30
  clear A30
  replace H := Option.bind_eq_some_iff.mp H
  obtain ⟨t356, A40, H⟩ := H
  replace H : ((decklelaw10_Few.f k l1).bind fun t357 => (if t356 = true then (decklelaw10_ArrayTakes.j0 k l0 l1 t355 (!t357)) else (decklelaw10_ArrayTakes.j0 k l0 l1 t355 true))) = some r := H
  have A4 := Aside0.mk A40
  clear A40
  replace H := Option.bind_eq_some_iff.mp H
  obtain ⟨t357, A50, H⟩ := H
  replace H : (if t356 = true then (decklelaw10_ArrayTakes.j0 k l0 l1 t355 (!t357)) else (decklelaw10_ArrayTakes.j0 k l0 l1 t355 true)) = some r := H
  have A5 := Aside0.mk A50
  clear A50
  have HC6 := Aside0.mk H
  clear H
  go_enter Try.func5, Try.ntmps5
  go_upto_region 4 with (first | ((first | ((with_reducible refine gate_callee (f := 8) rfl ?_); refine goesL_ (some 10) rfl rfl Try.func8 (by kernel_rfl) rfl #[] rfl (by (try simp only [List.map_toArray, List.map_cons, List.map_nil]); first | done | rfl | (simp only [List.length_drop, List.length_take]; rfl)) ?_) | go_at_call 8); (with_reducible refine (decklelaw10_small.calls k  t355 _ A3.out).mono ?_); rintro e w7 ⟨rfl, hb⟩; (try refine ⟨_, rfl, ?_⟩); have n0_ := Aside0.mk (Kd.V_below (by (with_reducible repeat (first | apply Kd.V_alloc | apply Kd.V_drewN | apply Kd.V_drew)); exact HO1.out) hb); have n1_ := Aside0.mk (below_step (by repeat (first | (with_reducible first | exact HB.out | apply below_alloc | apply pw_below_drewN | apply below_drew1) | exact HB.out)) hb); clear HO1; clear HB; have HO1 := n0_; have HB := n1_; clear n0_ n1_; (try clear hb); (try clear hb2); (try clear hk); (try clear hi)) | ((first | ((with_reducible refine gate_callee (f := 9) rfl ?_); refine goesL_ (some 12) rfl rfl Try.func9 (by kernel_rfl) rfl #[.slice A0 l0.length c0] rfl (by (try simp only [List.map_toArray, List.map_cons, List.map_nil]); first | done | rfl | (simp only [List.length_drop, List.length_take]; rfl)) ?_) | go_at_call 9); (with_reducible refine (decklelaw10_Few.calls k _ _ l0 t356 _ ?side1 ?side2 A4.out).mono ?_); (case side1 => repeat (first | exact (Kd.C_below HR0.out HB.out) | (with_reducible refine Kd.C_alloc ?_ _) | (with_reducible refine Kd.C_drewN ?_ _) | (with_reducible refine Kd.C_drew ?_))); (case side2 => exact HC0.out); rintro e w' ⟨rfl, ⟨nd, rfl⟩⟩; refine ⟨_, rfl, ?_⟩) | ((first | ((with_reducible refine gate_callee (f := 9) rfl ?_); refine goesL_ (some 14) rfl rfl Try.func9 (by kernel_rfl) rfl #[.slice A1 l1.length c1] rfl (by (try simp only [List.map_toArray, List.map_cons, List.map_nil]); first | done | rfl | (simp only [List.length_drop, List.length_take]; rfl)) ?_) | go_at_call 9); (with_reducible refine (decklelaw10_Few.calls k _ _ l1 t357 _ ?side1 ?side2 A5.out).mono ?_); (case side1 => repeat (first | exact (Kd.V_reads' HO1.out).2.2 | (with_reducible refine Kd.C_alloc ?_ _) | (with_reducible refine Kd.C_drewN ?_ _) | (with_reducible refine Kd.C_drew ?_))); (case side2 => exact (Kd.V_reads' HO1.out).2.1); rintro e w' ⟨rfl, ⟨nd, rfl⟩⟩; refine ⟨_, rfl, ?_⟩))
  (try simp only [Act.put, List.setIfInBounds_toArray, List.set_cons_zero, List.set_cons_succ])
  go_cut [20] (fun v20 wc => ∃ (kq : Nat) (x20_5 : Bool), v20 = .bool x20_5 ∧ Aside0 (decklelaw10_ArrayTakes.j0 kq l0 l1 t355 x20_5 = some r) ∧ Aside0 (kq ≤ k) ∧ Aside0 (Kd.V k32 32 wc w.heap.size (fun k_ => (P1_ k_ ∨ w.heap.size ≤ k_)) (.slice A1 l1.length c1) l1) ∧ Aside0 (Below w.heap.size w wc))
  case first =>
    have H := HC6.out
    clear HC6
    by_cases c8 : t356 = true
    · subst c8
      have H1 : (decklelaw10_ArrayTakes.j0 k l0 l1 t355 (!t357)) = some r := by rw [if_pos rfl] at H; exact H
      clear H
      have H := H1
      clear H1
      have H' := Aside0.mk H
      clear H
      go_wp2
      go_meet
      case rel => exact ⟨_, (!t357), (by first | rfl | (simp; done) | (simp [*]; done)), H', ⟨by first | omega | exact Nat.le_refl _⟩, ⟨by (with_reducible repeat (first | apply Kd.V_alloc | apply Kd.V_drewN | apply Kd.V_drew)); exact HO1.out⟩, ⟨by repeat (first | (with_reducible first | exact HB.out | apply below_alloc | apply pw_below_drewN | apply below_drew1) | exact HB.out)⟩⟩
    replace c8 := Bool.eq_false_iff.mpr c8
    subst c8
    have H1 : (decklelaw10_ArrayTakes.j0 k l0 l1 t355 true) = some r := by rw [if_neg (show ¬ (false = true) by decide)] at H; exact H
    clear H
    have H := H1
    clear H1
    have H' := Aside0.mk H
    clear H
    go_wp2
    go_meet
    case rel => exact ⟨_, (true), (by first | rfl | (simp; done) | (simp [*]; done)), H', ⟨by first | omega | exact Nat.le_refl _⟩, ⟨by (with_reducible repeat (first | apply Kd.V_alloc | apply Kd.V_drewN | apply Kd.V_drew)); exact HO1.out⟩, ⟨by repeat (first | (with_reducible first | exact HB.out | apply below_alloc | apply pw_below_drewN | apply below_drew1) | exact HB.out)⟩⟩
  case rest =>
    clear HC6
    try clear c1
    try clear p2
    try clear c5
    try clear c8
    obtain ⟨kq, x20_5, rfl, HA, HJ5, HO_1, HB⟩ := hcut
    cases kq with
    | zero => exact absurd HA.out (by simp [decklelaw10_ArrayTakes.j0])
    | succ kj5 =>
      have H := HA.out
      clear HA
      simp only [decklelaw10_ArrayTakes.j0] at H
      by_cases c9 : x20_5 = true
      · subst c9
        have H1 : (some t355) = some r := by rw [if_pos rfl] at H; exact H
        clear H
        have H := H1
        clear H1
        obtain rfl := Option.some.inj H
        go_wp2
        go_ret
        exact ⟨by first | rfl | (simp [errW_none, errW_some] <;> rfl) | (simp [*, errW_none, errW_some] <;> rfl), by repeat (first | (with_reducible first | exact HB.out | apply below_alloc | apply pw_below_drewN | apply below_drew1) | exact HB.out)⟩
      replace c9 := Bool.eq_false_iff.mpr c9
      subst c9
      have H1 : ((array_Take.f kj5 l0).bind fun t358 => (if t358 < 0 then (decklelaw10_ArrayTakes.j1 kj5 l0 t355 t358 true) else (if t358 > (l0.length : Int) then (decklelaw10_ArrayTakes.j1 kj5 l0 t355 t358 true) else (if t358 > 0 then (if 0 ≤ t358 then (if t358 ≤ (l0.length : Int) then ((array_Right.f kj5 (l0.take (t358 : Int).toNat)).bind fun t363 => (if t363 = true then ((array_Copy.f l0).bind fun t364 => (if t364.length + l1.length < 1759218604441 then ((array_Take.f kj5 (t364 ++ l1)).bind fun t370 => (decklelaw10_ArrayTakes.j1 kj5 l0 t355 t358 (t370 != t358))) else (none))) else (decklelaw10_ArrayTakes.j1 kj5 l0 t355 t358 true))) else (none)) else (none)) else (decklelaw10_ArrayTakes.j1 kj5 l0 t355 t358 false))))) = some r := by rw [if_neg (show ¬ (false = true) by decide)] at H; exact H
      clear H
      have H := H1
      clear H1
      replace H := Option.bind_eq_some_iff.mp H
      obtain ⟨t358, A100, H⟩ := H
      replace H : (if t358 < 0 then (decklelaw10_ArrayTakes.j1 kj5 l0 t355 t358 true) else (if t358 > (l0.length : Int) then (decklelaw10_ArrayTakes.j1 kj5 l0 t355 t358 true) else (if t358 > 0 then (if 0 ≤ t358 then (if t358 ≤ (l0.length : Int) then ((array_Right.f kj5 (l0.take (t358 : Int).toNat)).bind fun t363 => (if t363 = true then ((array_Copy.f l0).bind fun t364 => (if t364.length + l1.length < 1759218604441 then ((array_Take.f kj5 (t364 ++ l1)).bind fun t370 => (decklelaw10_ArrayTakes.j1 kj5 l0 t355 t358 (t370 != t358))) else (none))) else (decklelaw10_ArrayTakes.j1 kj5 l0 t355 t358 true))) else (none)) else (none)) else (decklelaw10_ArrayTakes.j1 kj5 l0 t355 t358 false)))) = some r := H
      have A10 := Aside0.mk A100
      clear A100
      have HC11 := Aside0.mk H
      clear H
      go_upto_region 7 with (first | ((first | ((with_reducible refine gate_callee (f := 16) rfl ?_); refine goesL_ (some 23) rfl rfl Try.func16 (by kernel_rfl) rfl #[.slice A0 l0.length c0] rfl (by (try simp only [List.map_toArray, List.map_cons, List.map_nil]); first | done | rfl | (simp only [List.length_drop, List.length_take]; rfl)) ?_) | go_at_call 16); (with_reducible refine (array_Take.calls kj5 _ _ l0 t358 _ ?side1 ?side2 A10.out).mono ?_); (case side1 => repeat (first | exact (Kd.C_below HR0.out HB.out) | (with_reducible refine Kd.C_alloc ?_ _) | (with_reducible refine Kd.C_drewN ?_ _) | (with_reducible refine Kd.C_drew ?_))); (case side2 => exact HC0.out); rintro e w12 ⟨rfl, hb⟩; (try refine ⟨_, rfl, ?_⟩); have n0_ := Aside0.mk (Kd.V_below (by (with_reducible repeat (first | apply Kd.V_alloc | apply Kd.V_drewN | apply Kd.V_drew)); exact HO_1.out) hb); have n1_ := Aside0.mk (below_step (by repeat (first | (with_reducible first | exact HB.out | apply below_alloc | apply pw_below_drewN | apply below_drew1) | exact HB.out)) hb); clear HO_1; clear HB; have HO_1 := n0_; have HB := n1_; clear n0_ n1_; (try clear hb); (try clear hb2); (try clear hk); (try clear hi)))
      (try simp only [Act.put, List.setIfInBounds_toArray, List.set_cons_zero, List.set_cons_succ])
      go_cut [51] (fun v51 wc => ∃ (kq : Nat) (x51_10 : Bool), v51 = .bool x51_10 ∧ Aside0 (decklelaw10_ArrayTakes.j1 kq l0 t355 t358 x51_10 = some r) ∧ Aside0 (kq ≤ kj5) ∧ Aside0 (Below w.heap.size w wc))
      case first =>
        have H := HC11.out
        clear HC11
        by_cases c13 : t358 < 0
        · rw [if_pos c13] at H
          have c13b0 : decide (t358 < 0) = true := decide_eq_true c13
          clear c13
          (first | rw [c13b0] | (simp only [i64_w, i32_w]; rw [c13b0]) | skip)
          have H' := Aside0.mk H
          clear H
          go_wp2
          go_meet
          case rel => exact ⟨_, (true), (by first | rfl | (simp; done) | (simp [*]; done)), H', ⟨by have := HJ5.out; first | omega | exact Nat.le_refl _⟩, ⟨by repeat (first | (with_reducible first | exact HB.out | apply below_alloc | apply pw_below_drewN | apply below_drew1) | exact HB.out)⟩⟩
        rw [if_neg c13] at H
        have c13b0 : decide (t358 < 0) = false := decide_eq_false c13
        clear c13
        (first | rw [c13b0] | (simp only [i64_w, i32_w]; rw [c13b0]) | skip)
        by_cases c14 : t358 > (l0.length : Int)
        · rw [if_pos c14] at H
          have c14b0 : decide ((l0.length : Int) < t358) = true := decide_eq_true c14
          clear c14
          have H' := Aside0.mk H
          clear H
          go_wp2
          go_meet
          case rel => exact ⟨_, (true), (by first | rfl | (simp; done) | (simp [*]; done)), H', ⟨by have := HJ5.out; first | omega | exact Nat.le_refl _⟩, ⟨by repeat (first | (with_reducible first | exact HB.out | apply below_alloc | apply pw_below_drewN | apply below_drew1) | exact HB.out)⟩⟩
        rw [if_neg c14] at H
        have c14b0 : decide ((l0.length : Int) < t358) = false := decide_eq_false c14
        clear c14
        by_cases c15 : t358 > 0
        rotate_left
        · rw [if_neg c15] at H
          have c15b0 : decide (0 < t358) = false := decide_eq_false c15
          clear c15
          have H' := Aside0.mk H
          clear H
          go_wp2
          go_meet
          case rel => exact ⟨_, (false), (by first | rfl | (simp; done) | (simp [*]; done)), H', ⟨by have := HJ5.out; first | omega | exact Nat.le_refl _⟩, ⟨by repeat (first | (with_reducible first | exact HB.out | apply below_alloc | apply pw_below_drewN | apply below_drew1) | exact HB.out)⟩⟩
        rw [if_pos c15] at H
        have c15b0 : decide (0 < t358) = true := decide_eq_true c15
        clear c15
        by_cases c16 : 0 ≤ t358
        rotate_left
        · rw [if_neg c16] at H
          exact absurd H (by simp)
        rw [if_pos c16] at H
        have c16b0 := eq_true c16
        have c16b1 : decide (0 ≤ t358) = true := decide_eq_true c16
        clear c16
        by_cases c17 : t358 ≤ (l0.length : Int)
        rotate_left
        · rw [if_neg c17] at H
          exact absurd H (by simp)
        rw [if_pos c17] at H
        have c17b0 := eq_true c17
        have c17b1 : decide (t358 ≤ (l0.length : Int)) = true := decide_eq_true c17
        clear c17
        obtain ⟨y359, hy359⟩ : ∃ y_ : List (S32), y_ = (l0.take (t358 : Int).toNat) := ⟨_, rfl⟩
        replace H : ((array_Right.f kj5 y359).bind fun t363 => (if t363 = true then ((array_Copy.f l0).bind fun t364 => (if t364.length + l1.length < 1759218604441 then ((array_Take.f kj5 (t364 ++ l1)).bind fun t370 => (decklelaw10_ArrayTakes.j1 kj5 l0 t355 t358 (t370 != t358))) else (none))) else (decklelaw10_ArrayTakes.j1 kj5 l0 t355 t358 true))) = some r := by first | (rw [hy359]; with_reducible exact H) | (have H2_ := (Option.bind_some _ _).symm.trans H; rw [hy359]; with_reducible exact H2_) | (have H2_ := (Option.bind_some _ _).symm.trans H; with_reducible exact H2_) | with_reducible exact H | (rw [hy359]; exact H) | exact H
        have Ny359 := Aside0.mk hy359
        clear hy359
        replace H := Option.bind_eq_some_iff.mp H
        obtain ⟨t363, A180, H⟩ := H
        replace H : (if t363 = true then ((array_Copy.f l0).bind fun t364 => (if t364.length + l1.length < 1759218604441 then ((array_Take.f kj5 (t364 ++ l1)).bind fun t370 => (decklelaw10_ArrayTakes.j1 kj5 l0 t355 t358 (t370 != t358))) else (none))) else (decklelaw10_ArrayTakes.j1 kj5 l0 t355 t358 true)) = some r := H
        have A18 := Aside0.mk A180
        clear A180
        by_cases c19 : t363 = true
        rotate_left
        · replace c19 := Bool.eq_false_iff.mpr c19
          subst c19
          have H1 : (decklelaw10_ArrayTakes.j1 kj5 l0 t355 t358 true) = some r := by rw [if_neg (show ¬ (false = true) by decide)] at H; exact H
          clear H
          have H := H1
          clear H1
          have H' := Aside0.mk H
          clear H
          have q29 : (t358 : Int) ≤ ((l0.length : Int) : Int) := of_decide_eq_true (by first | (with_reducible assumption) | assumption)
          obtain ⟨i029, hi029, _, hsz29, _⟩ := info_parts info32
          have hroom29 : l0.length ≤ c0 := HC0.out
          have hC29 : Kd.C k32 _ A0 l0.length l0 := HR0.out
          have hcut29 := cut_to (P := Try.prog) 22 32 .i64 Try.underlying22 hi029 A0 l0.length c0 t358 (of_decide_eq_true (by first | (with_reducible assumption) | assumption)) q29 hroom29
          have hr29 := Kd.C_take (m := (t358 : Int).toNat) hC29 (by omega)
          have hy29 : y359.length = (t358 : Int).toNat := (by rw [Ny359.out, List.length_take]; omega)
          rw [← Ny359.out] at hr29
          rw [← hy29] at hcut29
          have HR362 := Aside0.mk hr29
          have HC362 := Aside0.mk (show y359.length ≤ c0 from by omega)
          clear hr29 hC29 hroom29 hi029 hsz29
          have KY29 := Aside0.mk hy29
          clear hy29
          replace q29 := eq_true q29
          go_wp2_with (first | (go_at_call 14; (with_reducible refine (array_Right.calls kj5 _ _ y359 false _ ?side1 ?side2 A18.out).mono ?_); (case side1 => repeat (first | exact (Kd.C_below HR362.out HB.out) | (with_reducible refine Kd.C_alloc ?_ _) | (with_reducible refine Kd.C_drewN ?_ _) | (with_reducible refine Kd.C_drew ?_))); (case side2 => exact HC362.out); rintro e w30 ⟨rfl, hb⟩; have n0_ := Aside0.mk (Kd.V_below (by (with_reducible repeat (first | apply Kd.V_alloc | apply Kd.V_drewN | apply Kd.V_drew)); exact HO_1.out) hb); have n1_ := Aside0.mk (below_step (by repeat (first | (with_reducible first | exact HB.out | apply below_alloc | apply pw_below_drewN | apply below_drew1) | exact HB.out)) hb); clear HO_1; clear HB; have HO_1 := n0_; have HB := n1_; clear n0_ n1_; (try clear hb); (try clear hb2); (try clear hk); (try clear hi)))
          go_meet
          case rel => exact ⟨_, (true), (by first | rfl | (simp; done) | (simp [*]; done)), H', ⟨by have := HJ5.out; first | omega | exact Nat.le_refl _⟩, ⟨by repeat (first | (with_reducible first | exact HB.out | apply below_alloc | apply pw_below_drewN | apply below_drew1) | exact HB.out)⟩⟩
        subst c19
        have H1 : ((array_Copy.f l0).bind fun t364 => (if t364.length + l1.length < 1759218604441 then ((array_Take.f kj5 (t364 ++ l1)).bind fun t370 => (decklelaw10_ArrayTakes.j1 kj5 l0 t355 t358 (t370 != t358))) else (none))) = some r := by rw [if_pos rfl] at H; exact H
        clear H
        have H := H1
        clear H1
        replace H := Option.bind_eq_some_iff.mp H
        obtain ⟨t364, A200, H⟩ := H
        replace H : (if t364.length + l1.length < 1759218604441 then ((array_Take.f kj5 (t364 ++ l1)).bind fun t370 => (decklelaw10_ArrayTakes.j1 kj5 l0 t355 t358 (t370 != t358))) else (none)) = some r := H
        have A20 := Aside0.mk A200
        clear A200
        by_cases c21 : t364.length + l1.length < 1759218604441
        rotate_left
        · rw [if_neg c21] at H
          exact absurd H (by simp)
        rw [if_pos c21] at H
        have LMc21 := Aside0.mk c21
        clear c21
        obtain ⟨y367, hy367⟩ : ∃ y_ : List (S32), y_ = (t364 ++ l1) := ⟨_, rfl⟩
        replace H : ((array_Take.f kj5 y367).bind fun t370 => (decklelaw10_ArrayTakes.j1 kj5 l0 t355 t358 (t370 != t358))) = some r := by first | (rw [hy367]; with_reducible exact H) | (have H2_ := (Option.bind_some _ _).symm.trans H; rw [hy367]; with_reducible exact H2_) | (have H2_ := (Option.bind_some _ _).symm.trans H; with_reducible exact H2_) | with_reducible exact H | (rw [hy367]; exact H) | exact H
        have Ny367 := Aside0.mk hy367
        clear hy367
        replace H := Option.bind_eq_some_iff.mp H
        obtain ⟨t370, A220, H⟩ := H
        replace H : (decklelaw10_ArrayTakes.j1 kj5 l0 t355 t358 (t370 != t358)) = some r := H
        have A22 := Aside0.mk A220
        clear A220
        have H' := Aside0.mk H
        clear H
        have q23 : (t358 : Int) ≤ ((l0.length : Int) : Int) := of_decide_eq_true (by first | (with_reducible assumption) | assumption)
        obtain ⟨i023, hi023, _, hsz23, _⟩ := info_parts info32
        have hroom23 : l0.length ≤ c0 := HC0.out
        have hC23 : Kd.C k32 _ A0 l0.length l0 := HR0.out
        have hcut23 := cut_to (P := Try.prog) 22 32 .i64 Try.underlying22 hi023 A0 l0.length c0 t358 (of_decide_eq_true (by first | (with_reducible assumption) | assumption)) q23 hroom23
        have hr23 := Kd.C_take (m := (t358 : Int).toNat) hC23 (by omega)
        have hy23 : y359.length = (t358 : Int).toNat := (by rw [Ny359.out, List.length_take]; omega)
        rw [← Ny359.out] at hr23
        rw [← hy23] at hcut23
        have HR362 := Aside0.mk hr23
        have HC362 := Aside0.mk (show y359.length ≤ c0 from by omega)
        clear hr23 hC23 hroom23 hi023 hsz23
        have KY23 := Aside0.mk hy23
        clear hy23
        replace q23 := eq_true q23
        go_wp2_with (first | (go_at_call 14; (with_reducible refine (array_Right.calls kj5 _ _ y359 true _ ?side1 ?side2 A18.out).mono ?_); (case side1 => repeat (first | exact (Kd.C_below HR362.out HB.out) | (with_reducible refine Kd.C_alloc ?_ _) | (with_reducible refine Kd.C_drewN ?_ _) | (with_reducible refine Kd.C_drew ?_))); (case side2 => exact HC362.out); rintro e w24 ⟨rfl, hb⟩; have n0_ := Aside0.mk (Kd.V_below (by (with_reducible repeat (first | apply Kd.V_alloc | apply Kd.V_drewN | apply Kd.V_drew)); exact HO_1.out) hb); have n1_ := Aside0.mk (below_step (by repeat (first | (with_reducible first | exact HB.out | apply below_alloc | apply pw_below_drewN | apply below_drew1) | exact HB.out)) hb); clear HO_1; clear HB; have HO_1 := n0_; have HB := n1_; clear n0_ n1_; (try clear hb); (try clear hb2); (try clear hk); (try clear hi)) | (go_at_call 13; (with_reducible refine (array_Copy.calls _ _ l0 t364 _ ?side1 ?side2 A20.out).mono ?_); (case side1 => repeat (first | exact (Kd.C_below HR0.out HB.out) | (with_reducible refine Kd.C_alloc ?_ _) | (with_reducible refine Kd.C_drewN ?_ _) | (with_reducible refine Kd.C_drew ?_))); (case side2 => exact HC0.out); rintro e w25 ⟨v365, rfl, ho0, hb⟩; have n0_ := Aside0.mk (Kd.V_elder' (by (with_reducible repeat (first | apply Kd.V_alloc | apply Kd.V_drewN | apply Kd.V_drew)); exact HO_1.out) (Kd.N_base (Kd.S_N (Kd.S_bound ho0))) hb); have n1_ := Aside0.mk (Kd.N_lower (Kd.N_mono (ok' := fun k_ => (P1_ k_ ∨ w.heap.size ≤ k_)) (Kd.S_N (Kd.S_bound ho0)) (fun k_ hk_ => (.inr (Nat.le_trans (below_size (by repeat (first | (with_reducible first | exact HB.out | apply below_alloc | apply pw_below_drewN | apply below_drew1) | exact HB.out))) hk_.2.1)))) (below_size (by repeat (first | (with_reducible first | exact HB.out | apply below_alloc | apply pw_below_drewN | apply below_drew1) | exact HB.out)))); have n2_ := Aside0.mk (below_step (by repeat (first | (with_reducible first | exact HB.out | apply below_alloc | apply pw_below_drewN | apply below_drew1) | exact HB.out)) hb); clear HO_1; clear HB; have HO_1 := n0_; have HO366 := n1_; have HB := n2_; clear n0_ n1_ n2_; (try clear hb); (try clear hb2); (try clear hk); (try clear hi); (try clear ho0)) | ((with_reducible refine gate_builtin (b := .append) (xs := #[.tmp 43, .tmp 44]) rfl ?_); (try (refine gate_guard (by rfl) ?_; dsimp only)); at_builtin; refine Kd.N_append_rows k32 (w0 := w) w.heap.size rfl (.tmp 43) (.tmp 44) 22 32 (.agg #[(.int .i64 0), (.slice none 0 0), (.slice none 0 0), (.slice none 0 0)]) 80 rfl Try.underlying22 info32 rfl (by decide) (by omega) v365 t364 l1 _ _ _ (fun k_ => (P1_ k_ ∨ w.heap.size ≤ k_)) (fun k_ => ((fun k_ => (P1_ k_ ∨ w.heap.size ≤ k_))) k_ ∧ some k_ ≠ (v365 : Value).ownBlock) rfl rfl ?aO ?aR (fun _ hk => hk) ?aF ?aB ?aS ?aL ?_; (case aR => exact (by skip; exact Kd.V_F (Kd.V_mono (ok' := (fun k_ => ((fun k_ => (P1_ k_ ∨ w.heap.size ≤ k_))) k_ ∧ some k_ ≠ (v365 : Value).ownBlock)) (HO_1.out) (fun k_ hk => ⟨hk.1, hk.2⟩)))); (case aB => exact (by repeat (first | (with_reducible first | exact HB.out | apply below_alloc | apply pw_below_drewN | apply below_drew1) | exact HB.out))); (case aF => exact (fun k_ hk => (.inr (Nat.le_trans (below_size (by repeat (first | (with_reducible first | exact HB.out | apply below_alloc | apply pw_below_drewN | apply below_drew1) | exact HB.out))) hk)))); (case aO => exact (by (with_reducible repeat (first | apply Kd.N_alloc | apply Kd.N_drewN | apply Kd.N_drew)); exact HO366.out)); (case aS => exact (below_size (by repeat (first | (with_reducible first | exact HB.out | apply below_alloc | apply pw_below_drewN | apply below_drew1) | exact HB.out)))); (case aL => have := LMc21.out; omega); intro v368 w26 ho hb hg hat; rw [← Ny367.out] at ho; have n0_ := Aside0.mk (Kd.V_afterv (ok := (fun k_ => (P1_ k_ ∨ w.heap.size ≤ k_))) (by (with_reducible repeat (first | apply Kd.V_alloc | apply Kd.V_drewN | apply Kd.V_drew)); exact HO_1.out) hg hat); have n1_ := Aside0.mk (hb); have n2_ := Aside0.mk (ho); clear HO_1; clear HB; clear HO366; have HO_1 := n0_; have HB := n1_; have HO369 := n2_; clear n0_ n1_ n2_; clear ho hb hg hat; obtain ⟨Ao27, co27, eo27⟩ := Kd.N_slice HO369.out; subst eo27) | (go_at_call 16; (with_reducible refine (array_Take.calls kj5 _ _ y367 t370 _ ?side1 ?side2 A22.out).mono ?_); (case side1 => repeat (first | exact (Kd.N_reads' HO369.out).2.2 | (with_reducible refine Kd.C_alloc ?_ _) | (with_reducible refine Kd.C_drewN ?_ _) | (with_reducible refine Kd.C_drew ?_))); (case side2 => exact (Kd.N_reads' HO369.out).2.1); rintro e w28 ⟨rfl, hb⟩; have n0_ := Aside0.mk (Kd.V_below (by (with_reducible repeat (first | apply Kd.V_alloc | apply Kd.V_drewN | apply Kd.V_drew)); exact HO_1.out) hb); have n1_ := Aside0.mk (Kd.N_below (by (with_reducible repeat (first | apply Kd.N_alloc | apply Kd.N_drewN | apply Kd.N_drew)); exact HO369.out) hb); have n2_ := Aside0.mk (below_step (by repeat (first | (with_reducible first | exact HB.out | apply below_alloc | apply pw_below_drewN | apply below_drew1) | exact HB.out)) hb); clear HO_1; clear HO369; clear HB; have HO_1 := n0_; have HO369 := n1_; have HB := n2_; clear n0_ n1_ n2_; (try clear hb); (try clear hb2); (try clear hk); (try clear hi)))
        go_meet
        case rel => exact ⟨_, ((t370 != t358)), (by first | rfl | (simp; done) | (simp [*]; done)), H', ⟨by have := HJ5.out; first | omega | exact Nat.le_refl _⟩, ⟨by repeat (first | (with_reducible first | exact HB.out | apply below_alloc | apply pw_below_drewN | apply below_drew1) | exact HB.out)⟩⟩
      case rest =>
        clear HC11
        try clear c1
        try clear c2
        try clear p2
        try clear q2
        try clear c5
        try clear c8
        try clear c9
        try clear c13
        try clear c13b0
        try clear c14
        try clear c14b0
        try clear c15
        try clear c15b0
        try clear c16
        try clear c16b0
        try clear c16b1
        try clear c17
        try clear c17b0
        try clear c17b1
        try clear c19
        try clear c21
        try clear q23
        try clear q29
        try clear p2
        try clear q23
        try clear q29
        obtain ⟨kq, x51_10, rfl, HA, HJ10, HB⟩ := hcut
        cases kq with
        | zero => exact absurd HA.out (by simp [decklelaw10_ArrayTakes.j1])
        | succ kj10 =>
          have H := HA.out
          clear HA
          simp only [decklelaw10_ArrayTakes.j1] at H
          by_cases c31 : x51_10 = true
          · subst c31
            have H1 : (none) = some r := by rw [if_pos rfl] at H; exact H
            clear H
            have H := H1
            clear H1
            exact absurd H (by simp)
          replace c31 := Bool.eq_false_iff.mpr c31
          subst c31
          have H1 : (decklelaw10_ArrayTakes.l0 kj10 l0 t355 t358 0) = some r := by rw [if_neg (show ¬ (false = true) by decide)] at H; exact H
          clear H
          have H := H1
          clear H1
          have H' := Aside0.mk H
          clear H
          go_wp2
          go_loopg [9] kj10 (fun kq v9 w' => ∃ (x9_3 : Int), v9 = .int .i64 x9_3 ∧ Aside0 (decklelaw10_ArrayTakes.l0 kq l0 t355 t358 x9_3 = some r) ∧ Aside0 (kq ≤ kj10) ∧ Aside0 (Below w.heap.size w w'))
          case atStart => exact ⟨(0), (by first | rfl | (simp; done) | (simp [*]; done)), H', ⟨Nat.le_refl _⟩, ⟨by repeat (first | (with_reducible first | exact HB.out | apply below_alloc | apply pw_below_drewN | apply below_drew1) | exact HB.out)⟩⟩
          case round =>
            clear H'
            try clear c1
            try clear c2
            try clear p2
            try clear q2
            try clear c3
            try clear c5
            try clear c8
            try clear c9
            try clear c13
            try clear c13b0
            try clear c14
            try clear c14b0
            try clear c15
            try clear c15b0
            try clear c16
            try clear c16b0
            try clear c16b1
            try clear c17
            try clear c17b0
            try clear c17b1
            try clear c19
            try clear c21
            try clear q23
            try clear q29
            try clear c31
            try clear p2
            try clear q2
            try clear q23
            try clear q29
            obtain ⟨x9_3, rfl, HA, HK3, HB⟩ := hrel
            cases gk with
            | zero => exact absurd HA.out (by simp [decklelaw10_ArrayTakes.l0])
            | succ k3 =>
              have H := HA.out
              clear HA
              simp only [decklelaw10_ArrayTakes.l0] at H
              by_cases c32 : x9_3 < t358
              rotate_left
              · rw [if_neg c32] at H
                have c32b0 : decide (x9_3 < t358) = false := decide_eq_false c32
                clear c32
                by_cases c45 : t355 = true
                · subst c45
                  have H1 : ((array_Right.f k3 l0).bind fun t371 => (if t358 > 0 then (some (t371 == (t358 == (l0.length : Int)))) else (some (t371 == false)))) = some r := by rw [if_pos rfl] at H; exact H
                  clear H
                  have H := H1
                  clear H1
                  replace H := Option.bind_eq_some_iff.mp H
                  obtain ⟨t371, A460, H⟩ := H
                  replace H : (if t358 > 0 then (some (t371 == (t358 == (l0.length : Int)))) else (some (t371 == false))) = some r := H
                  have A46 := Aside0.mk A460
                  clear A460
                  by_cases c47 : t358 > 0
                  · rw [if_pos c47] at H
                    have c47b0 : decide (0 < t358) = true := decide_eq_true c47
                    clear c47
                    obtain rfl := Option.some.inj H
                    go_wp2_with (first | (go_at_call 14; (with_reducible refine (array_Right.calls k3 _ _ l0 t371 _ ?side1 ?side2 A46.out).mono ?_); (case side1 => repeat (first | exact (Kd.C_below HR0.out HB.out) | (with_reducible refine Kd.C_alloc ?_ _) | (with_reducible refine Kd.C_drewN ?_ _) | (with_reducible refine Kd.C_drew ?_))); (case side2 => exact HC0.out); rintro e w48 ⟨rfl, hb⟩; have n0_ := Aside0.mk (below_step (by repeat (first | (with_reducible first | exact HB.out | apply below_alloc | apply pw_below_drewN | apply below_drew1) | exact HB.out)) hb); clear HB; have HB := n0_; clear n0_; (try clear hb); (try clear hb2); (try clear hk); (try clear hi)))
                    go_ret
                    exact ⟨by first | rfl | (simp [errW_none, errW_some] <;> rfl) | (simp [*, errW_none, errW_some] <;> rfl), by repeat (first | (with_reducible first | exact HB.out | apply below_alloc | apply pw_below_drewN | apply below_drew1) | exact HB.out)⟩
                  · rw [if_neg c47] at H
                    have c47b0 : decide (0 < t358) = false := decide_eq_false c47
                    clear c47
                    obtain rfl := Option.some.inj H
                    go_wp2_with (first | (go_at_call 14; (with_reducible refine (array_Right.calls k3 _ _ l0 t371 _ ?side1 ?side2 A46.out).mono ?_); (case side1 => repeat (first | exact (Kd.C_below HR0.out HB.out) | (with_reducible refine Kd.C_alloc ?_ _) | (with_reducible refine Kd.C_drewN ?_ _) | (with_reducible refine Kd.C_drew ?_))); (case side2 => exact HC0.out); rintro e w49 ⟨rfl, hb⟩; have n0_ := Aside0.mk (below_step (by repeat (first | (with_reducible first | exact HB.out | apply below_alloc | apply pw_below_drewN | apply below_drew1) | exact HB.out)) hb); clear HB; have HB := n0_; clear n0_; (try clear hb); (try clear hb2); (try clear hk); (try clear hi)))
                    go_ret
                    exact ⟨by first | rfl | (simp [errW_none, errW_some] <;> rfl) | (simp [*, errW_none, errW_some] <;> rfl), by repeat (first | (with_reducible first | exact HB.out | apply below_alloc | apply pw_below_drewN | apply below_drew1) | exact HB.out)⟩
                · replace c45 := Bool.eq_false_iff.mpr c45
                  subst c45
                  have H1 : (none) = some r := by rw [if_neg (show ¬ (false = true) by decide)] at H; exact H
                  clear H
                  have H := H1
                  clear H1
                  exact absurd H (by simp)
              rw [if_pos c32] at H
              have c32b0 : decide (x9_3 < t358) = true := decide_eq_true c32
              clear c32
              by_cases c33 : 0 ≤ x9_3
              rotate_left
              · rw [if_neg c33] at H
                exact absurd H (by simp)
              rw [if_pos c33] at H
              have c33b0 := eq_true c33
              have c33b1 : decide (0 ≤ x9_3) = true := decide_eq_true c33
              clear c33
              by_cases c34 : x9_3 ≤ (l0.length : Int)
              rotate_left
              · rw [if_neg c34] at H
                exact absurd H (by simp)
              rw [if_pos c34] at H
              have c34b0 := eq_true c34
              have c34b1 : decide (x9_3 ≤ (l0.length : Int)) = true := decide_eq_true c34
              clear c34
              obtain ⟨y372, hy372⟩ : ∃ y_ : List (S32), y_ = (l0.take (x9_3 : Int).toNat) := ⟨_, rfl⟩
              replace H : ((array_Take.f k3 y372).bind fun t376 => (if t376 = 0 then ((array_Right.f k3 (l0.take (x9_3 : Int).toNat)).bind fun t381 => (if t381 = true then (none) else (decklelaw10_ArrayTakes.l0 k3 l0 t355 t358 (wrap64 (x9_3 + 1))))) else (none))) = some r := by first | (rw [hy372]; with_reducible exact H) | (have H2_ := (Option.bind_some _ _).symm.trans H; rw [hy372]; with_reducible exact H2_) | (have H2_ := (Option.bind_some _ _).symm.trans H; with_reducible exact H2_) | with_reducible exact H | (rw [hy372]; exact H) | exact H
              have Ny372 := Aside0.mk hy372
              clear hy372
              replace H := Option.bind_eq_some_iff.mp H
              obtain ⟨t376, A350, H⟩ := H
              replace H : (if t376 = 0 then ((array_Right.f k3 (l0.take (x9_3 : Int).toNat)).bind fun t381 => (if t381 = true then (none) else (decklelaw10_ArrayTakes.l0 k3 l0 t355 t358 (wrap64 (x9_3 + 1))))) else (none)) = some r := H
              have A35 := Aside0.mk A350
              clear A350
              by_cases c36 : t376 = 0
              rotate_left
              · rw [if_neg c36] at H
                exact absurd H (by simp)
              rw [if_pos c36] at H
              have c36b0 : (t376 == 0) = true := beq_iff_eq.mpr c36
              have c36b1 : (t376 != 0) = false := bne_eq_false_iff_eq.mpr c36
              clear c36
              have c37b0 := eq_true (of_decide_eq_true (by first | (with_reducible assumption) | assumption) : 0 ≤ x9_3)
              have c38b0 := eq_true (of_decide_eq_true (by first | (with_reducible assumption) | assumption) : x9_3 ≤ (l0.length : Int))
              have hy377 : y372 = (l0.take (x9_3 : Int).toNat) := Ny372.out
              replace H : ((array_Right.f k3 y372).bind fun t381 => (if t381 = true then (none) else (decklelaw10_ArrayTakes.l0 k3 l0 t355 t358 (wrap64 (x9_3 + 1))))) = some r := by first | (rw [hy377]; with_reducible exact H) | (have H2_ := (Option.bind_some _ _).symm.trans H; rw [hy377]; with_reducible exact H2_) | (have H2_ := (Option.bind_some _ _).symm.trans H; with_reducible exact H2_) | with_reducible exact H | (rw [hy377]; exact H) | exact H
              have Ny377 := Aside0.mk hy377
              clear hy377
              replace H := Option.bind_eq_some_iff.mp H
              obtain ⟨t381, A390, H⟩ := H
              replace H : (if t381 = true then (none) else (decklelaw10_ArrayTakes.l0 k3 l0 t355 t358 (wrap64 (x9_3 + 1)))) = some r := H
              have A39 := Aside0.mk A390
              clear A390
              by_cases c40 : t381 = true
              · subst c40
                have H1 : (none) = some r := by rw [if_pos rfl] at H; exact H
                clear H
                have H := H1
                clear H1
                exact absurd H (by simp)
              replace c40 := Bool.eq_false_iff.mpr c40
              subst c40
              have H1 : (decklelaw10_ArrayTakes.l0 k3 l0 t355 t358 (wrap64 (x9_3 + 1))) = some r := by rw [if_neg (show ¬ (false = true) by decide)] at H; exact H
              clear H
              have H := H1
              clear H1
              have H' := Aside0.mk H
              clear H
              have q41 : (x9_3 : Int) ≤ ((l0.length : Int) : Int) := of_decide_eq_true (by first | (with_reducible assumption) | assumption)
              obtain ⟨i041, hi041, _, hsz41, _⟩ := info_parts info32
              have hroom41 : l0.length ≤ c0 := HC0.out
              have hC41 : Kd.C k32 _ A0 l0.length l0 := HR0.out
              have hcut41 := cut_to (P := Try.prog) 22 32 .i64 Try.underlying22 hi041 A0 l0.length c0 x9_3 (of_decide_eq_true (by first | (with_reducible assumption) | assumption)) q41 hroom41
              have hr41 := Kd.C_take (m := (x9_3 : Int).toNat) hC41 (by omega)
              have hy41 : y372.length = (x9_3 : Int).toNat := (by rw [Ny372.out, List.length_take]; omega)
              rw [← Ny372.out] at hr41
              rw [← hy41] at hcut41
              have HR375 := Aside0.mk hr41
              have HC375 := Aside0.mk (show y372.length ≤ c0 from by omega)
              clear hr41 hC41 hroom41 hi041 hsz41
              have KY41 := Aside0.mk hy41
              clear hy41
              replace q41 := eq_true q41
              go_wp2_with (first | ((first | ((with_reducible refine gate_callee (f := 16) rfl ?_); refine goesL_ (some 60) rfl rfl Try.func16 (by kernel_rfl) rfl #[.slice A0 y372.length c0] rfl (by (try simp only [List.map_toArray, List.map_cons, List.map_nil]); first | done | rfl | (simp only [List.length_drop, List.length_take]; rfl)) ?_) | go_at_call 16); (with_reducible refine (array_Take.calls k3 _ _ y372 t376 _ ?side1 ?side2 A35.out).mono ?_); (case side1 => repeat (first | exact (Kd.C_below HR375.out HB.out) | (with_reducible refine Kd.C_alloc ?_ _) | (with_reducible refine Kd.C_drewN ?_ _) | (with_reducible refine Kd.C_drew ?_))); (case side2 => exact HC375.out); rintro e w42 ⟨rfl, hb⟩; (try refine ⟨_, rfl, ?_⟩); have n0_ := Aside0.mk (below_step (by repeat (first | (with_reducible first | exact HB.out | apply below_alloc | apply pw_below_drewN | apply below_drew1) | exact HB.out)) hb); clear HB; have HB := n0_; clear n0_; (try clear hb); (try clear hb2); (try clear hk); (try clear hi); have q43 : (x9_3 : Int) ≤ ((l0.length : Int) : Int) := of_decide_eq_true (by first | (with_reducible assumption) | assumption); obtain ⟨i043, hi043, _, hsz43, _⟩ := info_parts info32; have hroom43 : l0.length ≤ c0 := HC0.out; have hC43 : Kd.C k32 _ A0 l0.length l0 := HR0.out; have hcut43 := cut_to (P := Try.prog) 22 32 .i64 Try.underlying22 hi043 A0 l0.length c0 x9_3 (of_decide_eq_true (by first | (with_reducible assumption) | assumption)) q43 hroom43; have hr43 := Kd.C_take (m := (x9_3 : Int).toNat) hC43 (by omega); have hy43 : y372.length = (x9_3 : Int).toNat := (by rw [Ny377.out, List.length_take]; omega); rw [← Ny377.out] at hr43; rw [← hy43] at hcut43; have HR380 := Aside0.mk hr43; have HC380 := Aside0.mk (show y372.length ≤ c0 from by omega); clear hr43 hC43 hroom43 hi043 hsz43; have KY43 := Aside0.mk hy43; clear hy43; replace q43 := eq_true q43) | (go_at_call 14; (with_reducible refine (array_Right.calls k3 _ _ y372 false _ ?side1 ?side2 A39.out).mono ?_); (case side1 => repeat (first | exact (Kd.C_below HR380.out HB.out) | (with_reducible refine Kd.C_alloc ?_ _) | (with_reducible refine Kd.C_drewN ?_ _) | (with_reducible refine Kd.C_drew ?_))); (case side2 => exact HC380.out); rintro e w44 ⟨rfl, hb⟩; have n0_ := Aside0.mk (below_step (by repeat (first | (with_reducible first | exact HB.out | apply below_alloc | apply pw_below_drewN | apply below_drew1) | exact HB.out)) hb); clear HB; have HB := n0_; clear n0_; (try clear hb); (try clear hb2); (try clear hk); (try clear hi)))
              go_roundg k3
              case measure => have := HJ5.out; have := HJ10.out; have := HK3.out; omega
              case rel => exact ⟨(wrap64 (x9_3 + 1)), (by first | rfl | (simp; done) | (simp [*]; done)), H', ⟨by have := HJ5.out; have := HJ10.out; have := HK3.out; omega⟩, ⟨by repeat (first | (with_reducible first | exact HB.out | apply below_alloc | apply pw_below_drewN | apply below_drew1) | exact HB.out)⟩⟩

end Go.Proofs.Ytgbmbcippldhnaa.HArrayTakes
