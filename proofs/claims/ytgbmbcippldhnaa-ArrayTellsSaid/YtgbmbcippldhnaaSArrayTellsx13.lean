import Derived.Test.YtgbmbcippldhnaaSArrayTellsx0
import Derived.Test.YtgbmbcippldhnaaSArrayTellsx12
namespace Go.Proofs.Ytgbmbcippldhnaa.HArrayTells
open Go.RowKit Go.Proofs.YtgbmbcippldhnaaW.PrintWords Go.Proofs.YtgbmbcippldhnaaW.PrintLast Go.Proofs.YtgbmbcippldhnaaW.PrintMore
attribute [local go_sem] max2_int min2_int max_two min_two max_three min_three max_four min_four
set_option linter.unusedVariables false
set_option linter.unusedSimpArgs false
mutual
def deckleref10_first.j0 : Nat → List (S32) → Int → Bool → Option (Int × Int × Int)
  | 0, _, _, _ => none
  | k + 1, x0, x1, x22 => if x22 = true then (some (0, 0, 0)) else (if 0 < (x0.length : Int) then ((deckleref10_right.f k ((rd_T32 x0 0).f0) ((rd_T32 x0 0).f1) ((rd_T32 x0 0).f2) ((rd_T32 x0 0).f3)).bind fun bt373 => (if bt373.2 = true then (if ((rd_T32 x0 0).f0) = 5 then (deckleref10_first.l0 k x0 x1 bt373.1 1 bt373.1 0 0) else (some (1, bt373.1, 1))) else (some (0, 0, 0)))) else (none))
def deckleref10_first.l0 : Nat → List (S32) → Int → Int → Int → Int → Int → Int → Option (Int × Int × Int)
  | 0, _, _, _, _, _, _, _ => none
  | k + 1, x0, x1, x7, x9, x10, x11, x12 => if x12 < x7 then (if 0 ≤ x9 then (if x9 ≤ (x0.length : Int) then ((deckleref10_first.f k (x0.drop (x9 : Int).toNat) (wrap64 (x1 - 1))).bind fun bt380 => (if bt380.1 = 0 then (some (0, 0, 0)) else (if (wrap64 (x10 + bt380.2.1)) > 1048576 then (some (0, 0, 0)) else (deckleref10_first.l0 k x0 x1 x7 (wrap64 (x9 + bt380.1)) (wrap64 (x10 + bt380.2.1)) (mx x11 bt380.2.2) (wrap64 (x12 + 1)))))) else (none)) else (none)) else (some (x9, x10, wrap64 (x11 + 1)))
def deckleref10_first.f : Nat → List (S32) → Int → Option (Int × Int × Int)
  | 0, _, _ => none
  | k + 1, l0, a1 => if (l0.length : Int) = 0 then (deckleref10_first.j0 k l0 a1 true) else (deckleref10_first.j0 k l0 a1 (decide (a1 < 1)))
end
set_option maxHeartbeats 8000000 in
set_option maxRecDepth 100000 in
theorem deckleref10_first.calls (k : Nat) : ∀ (A0 : Option Addr) (c0 : Nat) (l0 : List (S32)) (a1 : Int) (r1 : Int) (r2 : Int) (r3 : Int) (w : World) (hr0 : Kd.C k32 w A0 l0.length l0) (hc0 : l0.length ≤ c0) (h : deckleref10_first.f k l0 a1 = some (r1, r2, r3)),
    Calls Try.prog 28 #[.slice A0 l0.length c0, .int .i64 a1] w fun e w' => e = .returned (.tuple #[.int .i64 r1, .int .i64 r2, .int .i64 r3]) ∧ Below w.heap.size w w' := by
  induction k using Nat.strongRecOn with
  | _ k ih =>
  intro A0 c0 l0 a1 r1 r2 r3 w hr0 hc0 h
  cases k with
  | zero => exact absurd h (by simp [deckleref10_first.f])
  | succ k =>
  simp only [deckleref10_first.f] at h
  have hu32 := Try.underlying32
  have HR0 := Aside0.mk hr0
  have HC0 := Aside0.mk hc0
  clear hr0 hc0
  have HB := Aside0.mk (Below.refl w.heap.size w)
  have H : (if (l0.length : Int) = 0 then (deckleref10_first.j0 k l0 a1 true) else (deckleref10_first.j0 k l0 a1 (decide (a1 < 1)))) = some (r1, r2, r3) := h
  clear h
  have HC3 := Aside0.mk H
  clear H
  go_enter Try.func28, Try.ntmps28
  go_upto_region 1 with (fail)
  go_cut [22] (fun v22 wc => ∃ (kq : Nat) (x22_2 : Bool), v22 = .bool x22_2 ∧ Aside0 (deckleref10_first.j0 kq l0 a1 x22_2 = some (r1, r2, r3)) ∧ Aside0 (kq ≤ k) ∧ Aside0 (Below w.heap.size w wc))
  case first =>
    have H := HC3.out
    clear HC3
    by_cases c4 : (l0.length : Int) = 0
    rotate_left
    · rw [if_neg c4] at H
      have c4b0 : ((l0.length : Int) == 0) = false := beq_eq_false_iff_ne.mpr c4
      have c4b1 : ((l0.length : Int) != 0) = true := bne_iff_ne.mpr c4
      have c4b2 : ¬ (l0 = []) := fun h_ => c4 (by rw [h_]; rfl)
      (first | rw [c4b0] | (simp only [i64_w, i32_w]; rw [c4b0]) | skip)
      have H' := Aside0.mk H
      clear H
      go_wp2
      go_meet
      case rel => exact ⟨_, (decide (a1 < 1)), J4, H', ⟨J32⟩, ⟨J0⟩⟩
    rw [if_pos c4] at H
    have c4b0 : ((l0.length : Int) == 0) = true := beq_iff_eq.mpr c4
    have c4b1 : ((l0.length : Int) != 0) = false := bne_eq_false_iff_eq.mpr c4
    clear c4
    (first | rw [c4b0] | (simp only [i64_w, i32_w]; rw [c4b0]) | skip)
    have H' := Aside0.mk H
    clear H
    go_wp2
    go_meet
    case rel => exact ⟨_, (true), J4, H', ⟨J32⟩, ⟨J0⟩⟩
  case rest =>
    clear HC3
    try clear c2
    try clear p2
    try clear c4
    try clear c4b0
    try clear c4b1
    try clear c4b2
    obtain ⟨kq, x22_2, rfl, HA, HJ2, HB⟩ := hcut
    cases kq with
    | zero => exact absurd HA.out (by simp [deckleref10_first.j0])
    | succ kj2 =>
      have H := HA.out
      clear HA
      simp only [deckleref10_first.j0] at H
      by_cases c5 : x22_2 = true
      · subst c5
        have H1 : (some (0, 0, 0)) = some (r1, r2, r3) := J17
        clear H
        have H := H1
        clear H1
        simp only [Option.some.injEq, Prod.mk.injEq] at H
        obtain ⟨rfl, rfl, rfl⟩ := H
        go_wp2
        go_ret3
        exact ⟨J3, J0⟩
      replace c5 := Bool.eq_false_iff.mpr c5
      subst c5
      have H1 : (if 0 < (l0.length : Int) then ((deckleref10_right.f kj2 ((rd_T32 l0 0).f0) ((rd_T32 l0 0).f1) ((rd_T32 l0 0).f2) ((rd_T32 l0 0).f3)).bind fun bt373 => (if bt373.2 = true then (if ((rd_T32 l0 0).f0) = 5 then (deckleref10_first.l0 kj2 l0 a1 bt373.1 1 bt373.1 0 0) else (some (1, bt373.1, 1))) else (some (0, 0, 0)))) else (none)) = some (r1, r2, r3) := J10
      clear H
      have H := H1
      clear H1
      by_cases c6 : 0 < (l0.length : Int)
      rotate_left
      · rw [if_neg c6] at H
        exact absurd H J28
      rw [if_pos c6] at H
      have c6b0 := decide_eq_true c6
      have c6b1 : decide (0 < l0.length) = true := decide_eq_true J31
      clear c6
      replace H := Option.bind_eq_some_iff.mp H
      obtain ⟨⟨t373, t374⟩, A70, H⟩ := H
      replace H : (if t374 = true then (if ((rd_T32 l0 0).f0) = 5 then (deckleref10_first.l0 kj2 l0 a1 t373 1 t373 0 0) else (some (1, t373, 1))) else (some (0, 0, 0))) = some (r1, r2, r3) := H
      have A7 := Aside0.mk A70
      clear A70
      by_cases c8 : t374 = true
      rotate_left
      · replace c8 := Bool.eq_false_iff.mpr c8
        subst c8
        have H1 : (some (0, 0, 0)) = some (r1, r2, r3) := J10
        clear H
        have H := H1
        clear H1
        simp only [Option.some.injEq, Prod.mk.injEq] at H
        obtain ⟨rfl, rfl, rfl⟩ := H
        have p372 : 0 ≤ (0 : Int) := J31
        have q372 : 0 < (l0.length : Int) := of_decide_eq_true J2
        obtain ⟨ad372, A372_1, c372_1, A372_2, c372_2, A372_3, c372_3, e372, hx372_0, hx372_1, hx372_2, hx372_3, hl372_1, hi372_1, hl372_2, hi372_2, hl372_3, hi372_3⟩ := at_T32 HR0.out 0 p372 q372
        cases e372
        have qi372 : (0 < l0.length) = True := eq_true J31
        (try rw [show ((0 : Int)).toNat = 0 from rfl] at hx372_0)
        (try rw [show 0 * 4 = 0 from rfl] at hx372_0)
        (try rw [Addr.add_zero'] at hx372_0)
        (try rw [show ((0 : Int)).toNat = 0 from rfl] at hx372_1)
        (try rw [show 0 * 4 = 0 from rfl] at hx372_1)
        (try rw [Addr.add_zero'] at hx372_1)
        (try rw [show ((0 : Int)).toNat = 0 from rfl] at hx372_2)
        (try rw [show 0 * 4 = 0 from rfl] at hx372_2)
        (try rw [Addr.add_zero'] at hx372_2)
        (try rw [show ((0 : Int)).toNat = 0 from rfl] at hx372_3)
        (try rw [show 0 * 4 = 0 from rfl] at hx372_3)
        (try rw [Addr.add_zero'] at hx372_3)
        replace hx372_0 := (HB.out.cell (World.block_lt_of_cell? w _ hx372_0)).trans hx372_0
        replace hx372_1 := (HB.out.cell (World.block_lt_of_cell? w _ hx372_1)).trans hx372_1
        replace hx372_2 := (HB.out.cell (World.block_lt_of_cell? w _ hx372_2)).trans hx372_2
        replace hx372_3 := (HB.out.cell (World.block_lt_of_cell? w _ hx372_3)).trans hx372_3
        have HR372_1 := Aside0.mk hi372_1
        have HC372_1 := Aside0.mk hl372_1
        clear hi372_1 hl372_1
        have HR372_2 := Aside0.mk hi372_2
        have HC372_2 := Aside0.mk hl372_2
        clear hi372_2 hl372_2
        have HR372_3 := Aside0.mk hi372_3
        have HC372_3 := Aside0.mk hl372_3
        clear hi372_3 hl372_3
        replace p372 := eq_true p372
        replace q372 := eq_true q372
        go_wp2_with (first | ((with_reducible refine gate_callee (f := 44) rfl ?_); refine goesL_ (some 27) rfl rfl Try.func44 J8 rfl #[.agg #[.int .i64 ((rd_T32 l0 0).f0), .slice A372_1 ((rd_T32 l0 0).f1).length c372_1, .slice A372_2 ((rd_T32 l0 0).f2).length c372_2, .slice A372_3 ((rd_T32 l0 0).f3).length c372_3]] rfl J1 ?_; (with_reducible refine (deckleref10_right.calls kj2 ((rd_T32 l0 0).f0) _ _ ((rd_T32 l0 0).f1) _ _ ((rd_T32 l0 0).f2) _ _ ((rd_T32 l0 0).f3) t373 false _ ?side1 ?side2 ?side3 ?side4 ?side5 ?side6 A7.out).mono ?_); (case side1 => repeat (first | exact (Kd.C_below HR372_1.out HB.out) | (with_reducible refine Kd.C_alloc ?_ _) | (with_reducible refine Kd.C_drewN ?_ _) | (with_reducible refine Kd.C_drew ?_))); (case side2 => exact HC372_1.out); (case side3 => repeat (first | exact (Kd.C_below HR372_2.out HB.out) | (with_reducible refine Kd.C_alloc ?_ _) | (with_reducible refine Kd.C_drewN ?_ _) | (with_reducible refine Kd.C_drew ?_))); (case side4 => exact HC372_2.out); (case side5 => repeat (first | exact (Kd.C_below HR372_3.out HB.out) | (with_reducible refine Kd.C_alloc ?_ _) | (with_reducible refine Kd.C_drewN ?_ _) | (with_reducible refine Kd.C_drew ?_))); (case side6 => exact HC372_3.out); rintro e w25 ⟨rfl, hb⟩; refine ⟨_, rfl, ?_⟩; have n0_ := Aside0.mk (below_step J0 hb); clear HB; have HB := n0_; clear n0_; (try clear hb); (try clear hb2); (try clear hk); (try clear hi)))
        go_ret3
        exact ⟨J3, J0⟩
      subst c8
      have H1 : (if ((rd_T32 l0 0).f0) = 5 then (deckleref10_first.l0 kj2 l0 a1 t373 1 t373 0 0) else (some (1, t373, 1))) = some (r1, r2, r3) := J17
      clear H
      have H := H1
      clear H1
      by_cases c9 : ((rd_T32 l0 0).f0) = 5
      rotate_left
      · rw [if_neg c9] at H
        have c9b0 : (((rd_T32 l0 0).f0) == 5) = false := beq_eq_false_iff_ne.mpr c9
        have c9b1 : (((rd_T32 l0 0).f0) != 5) = true := bne_iff_ne.mpr c9
        simp only [Option.some.injEq, Prod.mk.injEq] at H
        obtain ⟨rfl, rfl, rfl⟩ := H
        have p372 : 0 ≤ (0 : Int) := J31
        have q372 : 0 < (l0.length : Int) := of_decide_eq_true J2
        obtain ⟨ad372, A372_1, c372_1, A372_2, c372_2, A372_3, c372_3, e372, hx372_0, hx372_1, hx372_2, hx372_3, hl372_1, hi372_1, hl372_2, hi372_2, hl372_3, hi372_3⟩ := at_T32 HR0.out 0 p372 q372
        cases e372
        have qi372 : (0 < l0.length) = True := eq_true J31
        (try rw [show ((0 : Int)).toNat = 0 from rfl] at hx372_0)
        (try rw [show 0 * 4 = 0 from rfl] at hx372_0)
        (try rw [Addr.add_zero'] at hx372_0)
        (try rw [show ((0 : Int)).toNat = 0 from rfl] at hx372_1)
        (try rw [show 0 * 4 = 0 from rfl] at hx372_1)
        (try rw [Addr.add_zero'] at hx372_1)
        (try rw [show ((0 : Int)).toNat = 0 from rfl] at hx372_2)
        (try rw [show 0 * 4 = 0 from rfl] at hx372_2)
        (try rw [Addr.add_zero'] at hx372_2)
        (try rw [show ((0 : Int)).toNat = 0 from rfl] at hx372_3)
        (try rw [show 0 * 4 = 0 from rfl] at hx372_3)
        (try rw [Addr.add_zero'] at hx372_3)
        replace hx372_0 := (HB.out.cell (World.block_lt_of_cell? w _ hx372_0)).trans hx372_0
        replace hx372_1 := (HB.out.cell (World.block_lt_of_cell? w _ hx372_1)).trans hx372_1
        replace hx372_2 := (HB.out.cell (World.block_lt_of_cell? w _ hx372_2)).trans hx372_2
        replace hx372_3 := (HB.out.cell (World.block_lt_of_cell? w _ hx372_3)).trans hx372_3
        have HR372_1 := Aside0.mk hi372_1
        have HC372_1 := Aside0.mk hl372_1
        clear hi372_1 hl372_1
        have HR372_2 := Aside0.mk hi372_2
        have HC372_2 := Aside0.mk hl372_2
        clear hi372_2 hl372_2
        have HR372_3 := Aside0.mk hi372_3
        have HC372_3 := Aside0.mk hl372_3
        clear hi372_3 hl372_3
        replace p372 := eq_true p372
        replace q372 := eq_true q372
        go_wp2_with (first | ((with_reducible refine gate_callee (f := 44) rfl ?_); refine goesL_ (some 27) rfl rfl Try.func44 J8 rfl #[.agg #[.int .i64 ((rd_T32 l0 0).f0), .slice A372_1 ((rd_T32 l0 0).f1).length c372_1, .slice A372_2 ((rd_T32 l0 0).f2).length c372_2, .slice A372_3 ((rd_T32 l0 0).f3).length c372_3]] rfl J1 ?_; (with_reducible refine (deckleref10_right.calls kj2 ((rd_T32 l0 0).f0) _ _ ((rd_T32 l0 0).f1) _ _ ((rd_T32 l0 0).f2) _ _ ((rd_T32 l0 0).f3) t373 true _ ?side1 ?side2 ?side3 ?side4 ?side5 ?side6 A7.out).mono ?_); (case side1 => repeat (first | exact (Kd.C_below HR372_1.out HB.out) | (with_reducible refine Kd.C_alloc ?_ _) | (with_reducible refine Kd.C_drewN ?_ _) | (with_reducible refine Kd.C_drew ?_))); (case side2 => exact HC372_1.out); (case side3 => repeat (first | exact (Kd.C_below HR372_2.out HB.out) | (with_reducible refine Kd.C_alloc ?_ _) | (with_reducible refine Kd.C_drewN ?_ _) | (with_reducible refine Kd.C_drew ?_))); (case side4 => exact HC372_2.out); (case side5 => repeat (first | exact (Kd.C_below HR372_3.out HB.out) | (with_reducible refine Kd.C_alloc ?_ _) | (with_reducible refine Kd.C_drewN ?_ _) | (with_reducible refine Kd.C_drew ?_))); (case side6 => exact HC372_3.out); rintro e w24 ⟨rfl, hb⟩; refine ⟨_, rfl, ?_⟩; have n0_ := Aside0.mk (below_step J0 hb); clear HB; have HB := n0_; clear n0_; (try clear hb); (try clear hb2); (try clear hk); (try clear hi); have p375 : 0 ≤ (0 : Int) := J31; have q375 : 0 < (l0.length : Int) := of_decide_eq_true J2; obtain ⟨ad375, A375_1, c375_1, A375_2, c375_2, A375_3, c375_3, e375, hx375_0, hx375_1, hx375_2, hx375_3, hl375_1, hi375_1, hl375_2, hi375_2, hl375_3, hi375_3⟩ := at_T32 HR0.out 0 p375 q375; obtain rfl : ad372 = ad375 := (by injection e375); have qi375 : (0 < l0.length) = True := eq_true J31; (try rw [show ((0 : Int)).toNat = 0 from rfl] at hx375_0); (try rw [show 0 * 4 = 0 from rfl] at hx375_0); (try rw [Addr.add_zero'] at hx375_0); (try rw [show ((0 : Int)).toNat = 0 from rfl] at hx375_1); (try rw [show 0 * 4 = 0 from rfl] at hx375_1); (try rw [Addr.add_zero'] at hx375_1); (try rw [show ((0 : Int)).toNat = 0 from rfl] at hx375_2); (try rw [show 0 * 4 = 0 from rfl] at hx375_2); (try rw [Addr.add_zero'] at hx375_2); (try rw [show ((0 : Int)).toNat = 0 from rfl] at hx375_3); (try rw [show 0 * 4 = 0 from rfl] at hx375_3); (try rw [Addr.add_zero'] at hx375_3); replace hx375_0 := (HB.out.cell (World.block_lt_of_cell? w _ hx375_0)).trans hx375_0; replace hx375_1 := (HB.out.cell (World.block_lt_of_cell? w _ hx375_1)).trans hx375_1; replace hx375_2 := (HB.out.cell (World.block_lt_of_cell? w _ hx375_2)).trans hx375_2; replace hx375_3 := (HB.out.cell (World.block_lt_of_cell? w _ hx375_3)).trans hx375_3; have HR375_1 := Aside0.mk hi375_1; have HC375_1 := Aside0.mk hl375_1; clear hi375_1 hl375_1; have HR375_2 := Aside0.mk hi375_2; have HC375_2 := Aside0.mk hl375_2; clear hi375_2 hl375_2; have HR375_3 := Aside0.mk hi375_3; have HC375_3 := Aside0.mk hl375_3; clear hi375_3 hl375_3; replace p375 := eq_true p375; replace q375 := eq_true q375))
        go_ret3
        exact ⟨J3, J0⟩
      rw [if_pos c9] at H
      have c9b0 : (((rd_T32 l0 0).f0) == 5) = true := beq_iff_eq.mpr c9
      have c9b1 : (((rd_T32 l0 0).f0) != 5) = false := bne_eq_false_iff_eq.mpr c9
      clear c9
      have H' := Aside0.mk H
      clear H
      have p372 : 0 ≤ (0 : Int) := J31
      have q372 : 0 < (l0.length : Int) := of_decide_eq_true J2
      obtain ⟨ad372, A372_1, c372_1, A372_2, c372_2, A372_3, c372_3, e372, hx372_0, hx372_1, hx372_2, hx372_3, hl372_1, hi372_1, hl372_2, hi372_2, hl372_3, hi372_3⟩ := at_T32 HR0.out 0 p372 q372
      cases e372
      have qi372 : (0 < l0.length) = True := eq_true J31
      (try rw [show ((0 : Int)).toNat = 0 from rfl] at hx372_0)
      (try rw [show 0 * 4 = 0 from rfl] at hx372_0)
      (try rw [Addr.add_zero'] at hx372_0)
      (try rw [show ((0 : Int)).toNat = 0 from rfl] at hx372_1)
      (try rw [show 0 * 4 = 0 from rfl] at hx372_1)
      (try rw [Addr.add_zero'] at hx372_1)
      (try rw [show ((0 : Int)).toNat = 0 from rfl] at hx372_2)
      (try rw [show 0 * 4 = 0 from rfl] at hx372_2)
      (try rw [Addr.add_zero'] at hx372_2)
      (try rw [show ((0 : Int)).toNat = 0 from rfl] at hx372_3)
      (try rw [show 0 * 4 = 0 from rfl] at hx372_3)
      (try rw [Addr.add_zero'] at hx372_3)
      replace hx372_0 := (HB.out.cell (World.block_lt_of_cell? w _ hx372_0)).trans hx372_0
      replace hx372_1 := (HB.out.cell (World.block_lt_of_cell? w _ hx372_1)).trans hx372_1
      replace hx372_2 := (HB.out.cell (World.block_lt_of_cell? w _ hx372_2)).trans hx372_2
      replace hx372_3 := (HB.out.cell (World.block_lt_of_cell? w _ hx372_3)).trans hx372_3
      have HR372_1 := Aside0.mk hi372_1
      have HC372_1 := Aside0.mk hl372_1
      clear hi372_1 hl372_1
      have HR372_2 := Aside0.mk hi372_2
      have HC372_2 := Aside0.mk hl372_2
      clear hi372_2 hl372_2
      have HR372_3 := Aside0.mk hi372_3
      have HC372_3 := Aside0.mk hl372_3
      clear hi372_3 hl372_3
      replace p372 := eq_true p372
      replace q372 := eq_true q372
      go_wp2_with (first | ((with_reducible refine gate_callee (f := 44) rfl ?_); refine goesL_ (some 27) rfl rfl Try.func44 J8 rfl #[.agg #[.int .i64 ((rd_T32 l0 0).f0), .slice A372_1 ((rd_T32 l0 0).f1).length c372_1, .slice A372_2 ((rd_T32 l0 0).f2).length c372_2, .slice A372_3 ((rd_T32 l0 0).f3).length c372_3]] rfl J1 ?_; (with_reducible refine (deckleref10_right.calls kj2 ((rd_T32 l0 0).f0) _ _ ((rd_T32 l0 0).f1) _ _ ((rd_T32 l0 0).f2) _ _ ((rd_T32 l0 0).f3) t373 true _ ?side1 ?side2 ?side3 ?side4 ?side5 ?side6 A7.out).mono ?_); (case side1 => repeat (first | exact (Kd.C_below HR372_1.out HB.out) | (with_reducible refine Kd.C_alloc ?_ _) | (with_reducible refine Kd.C_drewN ?_ _) | (with_reducible refine Kd.C_drew ?_))); (case side2 => exact HC372_1.out); (case side3 => repeat (first | exact (Kd.C_below HR372_2.out HB.out) | (with_reducible refine Kd.C_alloc ?_ _) | (with_reducible refine Kd.C_drewN ?_ _) | (with_reducible refine Kd.C_drew ?_))); (case side4 => exact HC372_2.out); (case side5 => repeat (first | exact (Kd.C_below HR372_3.out HB.out) | (with_reducible refine Kd.C_alloc ?_ _) | (with_reducible refine Kd.C_drewN ?_ _) | (with_reducible refine Kd.C_drew ?_))); (case side6 => exact HC372_3.out); rintro e w10 ⟨rfl, hb⟩; refine ⟨_, rfl, ?_⟩; have n0_ := Aside0.mk (below_step J0 hb); clear HB; have HB := n0_; clear n0_; (try clear hb); (try clear hb2); (try clear hk); (try clear hi); have p375 : 0 ≤ (0 : Int) := J31; have q375 : 0 < (l0.length : Int) := of_decide_eq_true J2; obtain ⟨ad375, A375_1, c375_1, A375_2, c375_2, A375_3, c375_3, e375, hx375_0, hx375_1, hx375_2, hx375_3, hl375_1, hi375_1, hl375_2, hi375_2, hl375_3, hi375_3⟩ := at_T32 HR0.out 0 p375 q375; obtain rfl : ad372 = ad375 := (by injection e375); have qi375 : (0 < l0.length) = True := eq_true J31; (try rw [show ((0 : Int)).toNat = 0 from rfl] at hx375_0); (try rw [show 0 * 4 = 0 from rfl] at hx375_0); (try rw [Addr.add_zero'] at hx375_0); (try rw [show ((0 : Int)).toNat = 0 from rfl] at hx375_1); (try rw [show 0 * 4 = 0 from rfl] at hx375_1); (try rw [Addr.add_zero'] at hx375_1); (try rw [show ((0 : Int)).toNat = 0 from rfl] at hx375_2); (try rw [show 0 * 4 = 0 from rfl] at hx375_2); (try rw [Addr.add_zero'] at hx375_2); (try rw [show ((0 : Int)).toNat = 0 from rfl] at hx375_3); (try rw [show 0 * 4 = 0 from rfl] at hx375_3); (try rw [Addr.add_zero'] at hx375_3); replace hx375_0 := (HB.out.cell (World.block_lt_of_cell? w _ hx375_0)).trans hx375_0; replace hx375_1 := (HB.out.cell (World.block_lt_of_cell? w _ hx375_1)).trans hx375_1; replace hx375_2 := (HB.out.cell (World.block_lt_of_cell? w _ hx375_2)).trans hx375_2; replace hx375_3 := (HB.out.cell (World.block_lt_of_cell? w _ hx375_3)).trans hx375_3; have HR375_1 := Aside0.mk hi375_1; have HC375_1 := Aside0.mk hl375_1; clear hi375_1 hl375_1; have HR375_2 := Aside0.mk hi375_2; have HC375_2 := Aside0.mk hl375_2; clear hi375_2 hl375_2; have HR375_3 := Aside0.mk hi375_3; have HC375_3 := Aside0.mk hl375_3; clear hi375_3 hl375_3; replace p375 := eq_true p375; replace q375 := eq_true q375))
      go_loopg [9, 10, 11, 12] kj2 (fun kq v9 v10 v11 v12 w' => ∃ (x9_2 : Int) (x10_2 : Int) (x11_2 : Int) (x12_2 : Int), v9 = .int .i64 x9_2 ∧ v10 = .int .i64 x10_2 ∧ v11 = .int .i64 x11_2 ∧ v12 = .int .i64 x12_2 ∧ Aside0 (deckleref10_first.l0 kq l0 a1 t373 x9_2 x10_2 x11_2 x12_2 = some (r1, r2, r3)) ∧ Aside0 (kq ≤ kj2) ∧ Aside0 (Below w.heap.size w w'))
      case atStart => exact ⟨(1), (t373), (0), (0), J4, J4, J4, J4, H', ⟨Nat.le_refl _⟩, ⟨J0⟩⟩
      case round =>
        clear H'
        try clear c2
        try clear p2
        try clear c3
        try clear p3
        try clear q3
        try clear hx3
        try clear qi3
        try clear c4
        try clear c4b0
        try clear c4b1
        try clear c4b2
        try clear c5
        try clear c6
        try clear c6b0
        try clear c6b1
        try clear c8
        try clear c9
        try clear c9b0
        try clear c9b1
        try clear hx372_0
        try clear hx372_1
        try clear hx372_2
        try clear hx372_3
        try clear hx375_0
        try clear hx375_1
        try clear hx375_2
        try clear hx375_3
        try clear p2
        try clear p372
        try clear p375
        try clear q372
        try clear q375
        obtain ⟨x9_2, x10_2, x11_2, x12_2, rfl, rfl, rfl, rfl, HA, HK2, HB⟩ := hrel
        cases gk with
        | zero => exact absurd HA.out (by simp [deckleref10_first.l0])
        | succ k2 =>
          have H := HA.out
          clear HA
          simp only [deckleref10_first.l0] at H
          by_cases c11 : x12_2 < t373
          rotate_left
          · rw [if_neg c11] at H
            have c11b0 := decide_eq_false c11
            clear c11
            simp only [Option.some.injEq, Prod.mk.injEq] at H
            obtain ⟨rfl, rfl, rfl⟩ := H
            go_wp2
            go_ret3
            exact ⟨J3, J0⟩
          rw [if_pos c11] at H
          have c11b0 := decide_eq_true c11
          clear c11
          by_cases c12 : 0 ≤ x9_2
          rotate_left
          · rw [if_neg c12] at H
            exact absurd H J28
          rw [if_pos c12] at H
          have c12b0 := eq_true c12
          have c12b1 := decide_eq_true c12
          clear c12
          by_cases c13 : x9_2 ≤ (l0.length : Int)
          rotate_left
          · rw [if_neg c13] at H
            exact absurd H J28
          rw [if_pos c13] at H
          have c13b0 := eq_true c13
          have c13b1 := decide_eq_true c13
          clear c13
          obtain ⟨y376, hy376⟩ : ∃ y_ : List (S32), y_ = (l0.drop (x9_2 : Int).toNat) := ⟨_, rfl⟩
          replace H : ((deckleref10_first.f k2 y376 (wrap64 (a1 - 1))).bind fun bt380 => (if bt380.1 = 0 then (some (0, 0, 0)) else (if (wrap64 (x10_2 + bt380.2.1)) > 1048576 then (some (0, 0, 0)) else (deckleref10_first.l0 k2 l0 a1 t373 (wrap64 (x9_2 + bt380.1)) (wrap64 (x10_2 + bt380.2.1)) (mx x11_2 bt380.2.2) (wrap64 (x12_2 + 1)))))) = some (r1, r2, r3) := by first | (rw [hy376]; with_reducible exact H) | (have H2_ := (Option.bind_some _ _).symm.trans H; rw [hy376]; with_reducible exact H2_) | (have H2_ := (Option.bind_some _ _).symm.trans H; with_reducible exact H2_) | with_reducible exact H | (rw [hy376]; exact H) | exact H
          have Ny376 := Aside0.mk hy376
          clear hy376
          replace H := Option.bind_eq_some_iff.mp H
          obtain ⟨⟨t380, t381, t382⟩, A140, H⟩ := H
          replace H : (if t380 = 0 then (some (0, 0, 0)) else (if (wrap64 (x10_2 + t381)) > 1048576 then (some (0, 0, 0)) else (deckleref10_first.l0 k2 l0 a1 t373 (wrap64 (x9_2 + t380)) (wrap64 (x10_2 + t381)) (mx x11_2 t382) (wrap64 (x12_2 + 1))))) = some (r1, r2, r3) := H
          have A14 := Aside0.mk A140
          clear A140
          by_cases c15 : t380 = 0
          · rw [if_pos c15] at H
            have c15b0 : (t380 == 0) = true := beq_iff_eq.mpr c15
            have c15b1 : (t380 != 0) = false := bne_eq_false_iff_eq.mpr c15
            clear c15
            simp only [Option.some.injEq, Prod.mk.injEq] at H
            obtain ⟨rfl, rfl, rfl⟩ := H
            have q16 : (x9_2 : Int) ≤ ((l0.length : Int) : Int) := of_decide_eq_true J2
            obtain ⟨i016, hi016, _, hsz16, _⟩ := info_parts info32
            have hroom16 : l0.length ≤ c0 := HC0.out
            have hC16 : Kd.C k32 _ (some ad372) l0.length l0 := HR0.out
            have q016 : (0 : Int) ≤ (x9_2 : Int) := of_decide_eq_true J2
            have hcut16 := cut_from (P := Try.prog) 22 32 .i64 Try.underlying22 hi016 4 hsz16 (some ad372) l0.length c0 x9_2 q016 q16
            have hr16 := Kd.C_drop (m := (x9_2 : Int).toNat) (c := c0) hC16 J31 hroom16
            obtain ⟨A16, hA16⟩ : ∃ A_, A_ = (if c0 = (x9_2 : Int).toNat then (some ad372) else ((some ad372) : Option Addr).map (·.add ((x9_2 : Int).toNat * 4))) := ⟨_, rfl⟩
            obtain ⟨c16, hc16⟩ : ∃ c_, c_ = c0 - (x9_2 : Int).toNat := ⟨_, rfl⟩
            have hy16 : y376.length = l0.length - (x9_2 : Int).toNat := (by rw [Ny376.out, List.length_drop] <;> omega)
            rw [show (l0).drop (x9_2 : Int).toNat = y376 from Ny376.out.symm] at hr16
            replace hr16 : Kd.C k32 _ A16 y376.length y376 := (by rw [hA16]; exact hr16)
            rw [← hy16, ← hA16, ← hc16] at hcut16
            have HR379 := Aside0.mk hr16
            have HC379 := Aside0.mk (show y376.length ≤ c16 from by rw [hy16, hc16]; exact Nat.sub_le_sub_right hroom16 _)
            clear hr16 hC16 hroom16 hi016 hsz16 hc16
            have KY16 := Aside0.mk hy16
            have KA16 := Aside0.mk hA16
            clear hy16 hA16
            replace q16 := eq_true q16
            go_wp2_with (first | ((with_reducible refine gate_callee (f := 28) rfl ?_); refine goesL_ (some 50) rfl rfl Try.func28 J8 rfl #[.slice A16 y376.length c16, .int .i64 (wrap64 (a1 - 1))] rfl J1 ?_; (with_reducible refine (ih k2 (by have := HJ2.out; have := HK2.out; omega) _ _ y376 (wrap64 (a1 - 1)) t380 t381 t382 _ ?side1 ?side2 A14.out).mono ?_); (case side1 => repeat (first | exact (Kd.C_below HR379.out HB.out) | (with_reducible refine Kd.C_alloc ?_ _) | (with_reducible refine Kd.C_drewN ?_ _) | (with_reducible refine Kd.C_drew ?_))); (case side2 => exact HC379.out); rintro e w17 ⟨rfl, hb⟩; refine ⟨_, rfl, ?_⟩; have n0_ := Aside0.mk (below_step J0 hb); clear HB; have HB := n0_; clear n0_; (try clear hb); (try clear hb2); (try clear hk); (try clear hi)))
            go_ret3
            exact ⟨J3, J0⟩
          rw [if_neg c15] at H
          have c15b0 : (t380 == 0) = false := beq_eq_false_iff_ne.mpr c15
          have c15b1 : (t380 != 0) = true := bne_iff_ne.mpr c15
          by_cases c18 : (wrap64 (x10_2 + t381)) > 1048576
          · rw [if_pos c18] at H
            have c18b0 := decide_eq_true c18
            clear c18
            simp only [Option.some.injEq, Prod.mk.injEq] at H
            obtain ⟨rfl, rfl, rfl⟩ := H
            have q19 : (x9_2 : Int) ≤ ((l0.length : Int) : Int) := of_decide_eq_true J2
            obtain ⟨i019, hi019, _, hsz19, _⟩ := info_parts info32
            have hroom19 : l0.length ≤ c0 := HC0.out
            have hC19 : Kd.C k32 _ (some ad372) l0.length l0 := HR0.out
            have q019 : (0 : Int) ≤ (x9_2 : Int) := of_decide_eq_true J2
            have hcut19 := cut_from (P := Try.prog) 22 32 .i64 Try.underlying22 hi019 4 hsz19 (some ad372) l0.length c0 x9_2 q019 q19
            have hr19 := Kd.C_drop (m := (x9_2 : Int).toNat) (c := c0) hC19 J31 hroom19
            obtain ⟨A19, hA19⟩ : ∃ A_, A_ = (if c0 = (x9_2 : Int).toNat then (some ad372) else ((some ad372) : Option Addr).map (·.add ((x9_2 : Int).toNat * 4))) := ⟨_, rfl⟩
            obtain ⟨c19, hc19⟩ : ∃ c_, c_ = c0 - (x9_2 : Int).toNat := ⟨_, rfl⟩
            have hy19 : y376.length = l0.length - (x9_2 : Int).toNat := (by rw [Ny376.out, List.length_drop] <;> omega)
            rw [show (l0).drop (x9_2 : Int).toNat = y376 from Ny376.out.symm] at hr19
            replace hr19 : Kd.C k32 _ A19 y376.length y376 := (by rw [hA19]; exact hr19)
            rw [← hy19, ← hA19, ← hc19] at hcut19
            have HR379 := Aside0.mk hr19
            have HC379 := Aside0.mk (show y376.length ≤ c19 from by rw [hy19, hc19]; exact Nat.sub_le_sub_right hroom19 _)
            clear hr19 hC19 hroom19 hi019 hsz19 hc19
            have KY19 := Aside0.mk hy19
            have KA19 := Aside0.mk hA19
            clear hy19 hA19
            replace q19 := eq_true q19
            go_wp2_with (first | ((with_reducible refine gate_callee (f := 28) rfl ?_); refine goesL_ (some 50) rfl rfl Try.func28 J8 rfl #[.slice A19 y376.length c19, .int .i64 (wrap64 (a1 - 1))] rfl J1 ?_; (with_reducible refine (ih k2 (by have := HJ2.out; have := HK2.out; omega) _ _ y376 (wrap64 (a1 - 1)) t380 t381 t382 _ ?side1 ?side2 A14.out).mono ?_); (case side1 => repeat (first | exact (Kd.C_below HR379.out HB.out) | (with_reducible refine Kd.C_alloc ?_ _) | (with_reducible refine Kd.C_drewN ?_ _) | (with_reducible refine Kd.C_drew ?_))); (case side2 => exact HC379.out); rintro e w20 ⟨rfl, hb⟩; refine ⟨_, rfl, ?_⟩; have n0_ := Aside0.mk (below_step J0 hb); clear HB; have HB := n0_; clear n0_; (try clear hb); (try clear hb2); (try clear hk); (try clear hi)))
            go_ret3
            exact ⟨J3, J0⟩
          rw [if_neg c18] at H
          have c18b0 := decide_eq_false c18
          clear c18
          obtain ⟨ji21, hji21⟩ : ∃ j_ : Int, (mx x11_2 t382) = j_ := ⟨_, rfl⟩
          replace H : (deckleref10_first.l0 k2 l0 a1 t373 (wrap64 (x9_2 + t380)) (wrap64 (x10_2 + t381)) ji21 (wrap64 (x12_2 + 1))) = some (r1, r2, r3) := by first | (rw [hji21] at H; exact H) | (simp only [hji21] at H ⊢; exact H)
          (try rw [hji21] at A14)
          have hji21_ : (if x11_2 < t382 then t382 else x11_2) = ji21 := hji21
          have H' := Aside0.mk H
          clear H
          have q22 : (x9_2 : Int) ≤ ((l0.length : Int) : Int) := of_decide_eq_true J2
          obtain ⟨i022, hi022, _, hsz22, _⟩ := info_parts info32
          have hroom22 : l0.length ≤ c0 := HC0.out
          have hC22 : Kd.C k32 _ (some ad372) l0.length l0 := HR0.out
          have q022 : (0 : Int) ≤ (x9_2 : Int) := of_decide_eq_true J2
          have hcut22 := cut_from (P := Try.prog) 22 32 .i64 Try.underlying22 hi022 4 hsz22 (some ad372) l0.length c0 x9_2 q022 q22
          have hr22 := Kd.C_drop (m := (x9_2 : Int).toNat) (c := c0) hC22 J31 hroom22
          obtain ⟨A22, hA22⟩ : ∃ A_, A_ = (if c0 = (x9_2 : Int).toNat then (some ad372) else ((some ad372) : Option Addr).map (·.add ((x9_2 : Int).toNat * 4))) := ⟨_, rfl⟩
          obtain ⟨c22, hc22⟩ : ∃ c_, c_ = c0 - (x9_2 : Int).toNat := ⟨_, rfl⟩
          have hy22 : y376.length = l0.length - (x9_2 : Int).toNat := (by rw [Ny376.out, List.length_drop] <;> omega)
          rw [show (l0).drop (x9_2 : Int).toNat = y376 from Ny376.out.symm] at hr22
          replace hr22 : Kd.C k32 _ A22 y376.length y376 := (by rw [hA22]; exact hr22)
          rw [← hy22, ← hA22, ← hc22] at hcut22
          have HR379 := Aside0.mk hr22
          have HC379 := Aside0.mk (show y376.length ≤ c22 from by rw [hy22, hc22]; exact Nat.sub_le_sub_right hroom22 _)
          clear hr22 hC22 hroom22 hi022 hsz22 hc22
          have KY22 := Aside0.mk hy22
          have KA22 := Aside0.mk hA22
          clear hy22 hA22
          replace q22 := eq_true q22
          go_wp2_with (first | ((with_reducible refine gate_callee (f := 28) rfl ?_); refine goesL_ (some 50) rfl rfl Try.func28 J8 rfl #[.slice A22 y376.length c22, .int .i64 (wrap64 (a1 - 1))] rfl J1 ?_; (with_reducible refine (ih k2 (by have := HJ2.out; have := HK2.out; omega) _ _ y376 (wrap64 (a1 - 1)) t380 t381 t382 _ ?side1 ?side2 A14.out).mono ?_); (case side1 => repeat (first | exact (Kd.C_below HR379.out HB.out) | (with_reducible refine Kd.C_alloc ?_ _) | (with_reducible refine Kd.C_drewN ?_ _) | (with_reducible refine Kd.C_drew ?_))); (case side2 => exact HC379.out); rintro e w23 ⟨rfl, hb⟩; refine ⟨_, rfl, ?_⟩; have n0_ := Aside0.mk (below_step J0 hb); clear HB; have HB := n0_; clear n0_; (try clear hb); (try clear hb2); (try clear hk); (try clear hi)))
          go_roundg k2
          case measure => have := HJ2.out; have := HK2.out; omega
          case rel => exact ⟨(wrap64 (x9_2 + t380)), (wrap64 (x10_2 + t381)), (ji21), (wrap64 (x12_2 + 1)), J4, J4, (by first | rfl | (simp; done) | (simp only [← hji21] <;> (first | rfl | simp)) | (simp [*]; done)), J4, H', ⟨by have := HJ2.out; have := HK2.out; omega⟩, ⟨J0⟩⟩
def deckleref10_Take.f (k : Nat) (l0 : List (S32)) : Option (Int) := (deckleref10_first.f k l0 16).bind fun bt383 => (some bt383.1)
set_option maxHeartbeats 8000000 in
set_option maxRecDepth 100000 in
theorem deckleref10_Take.calls (k : Nat) (A0 : Option Addr) (c0 : Nat) (l0 : List (S32)) (r : Int) (w : World) (hr0 : Kd.C k32 w A0 l0.length l0) (hc0 : l0.length ≤ c0) (h : deckleref10_Take.f k l0 = some r) :
    Calls Try.prog 17 #[.slice A0 l0.length c0] w fun e w' => e = .returned (.int .i64 r) ∧ Below w.heap.size w w' := by
  have HR0 := Aside0.mk hr0
  have HC0 := Aside0.mk hc0
  clear hr0 hc0
  have HB := Aside0.mk (Below.refl w.heap.size w)
  have H : ((deckleref10_first.f k l0 16).bind fun bt383 => (some bt383.1)) = some r := h
  clear h
  replace H := Option.bind_eq_some_iff.mp H
  obtain ⟨⟨t383, t384, t385⟩, A20, H⟩ := H
  replace H : (some t383) = some r := H
  have A2 := Aside0.mk A20
  clear A20
  obtain rfl := Option.some.inj H
  go_enter Try.func17, Try.ntmps17
  go_wp2_with (first | ((with_reducible refine gate_callee (f := 28) rfl ?_); refine goesL_ (some 8) rfl rfl Try.func28 J8 rfl #[.slice A0 l0.length c0, .int .i64 16] rfl J1 ?_; (with_reducible refine (deckleref10_first.calls k _ _ l0 16 t383 t384 t385 _ ?side1 ?side2 A2.out).mono ?_); (case side1 => repeat (first | exact HR0.out | (with_reducible refine Kd.C_alloc ?_ _) | (with_reducible refine Kd.C_drewN ?_ _) | (with_reducible refine Kd.C_drew ?_))); (case side2 => exact HC0.out); rintro e w3 ⟨rfl, hb⟩; refine ⟨_, rfl, ?_⟩; have n0_ := Aside0.mk (below_step J0 hb); clear HB; have HB := n0_; clear n0_; (try clear hb); (try clear hb2); (try clear hk); (try clear hi)))
  go_ret
  exact ⟨J3, J0⟩
def deckleref10_Right.f (k : Nat) (l0 : List (S32)) : Option (Bool) := if (l0.length : Int) > 0 then ((deckleref10_Take.f k l0).bind fun t386 => (some (t386 == (l0.length : Int)))) else (some false)
set_option maxHeartbeats 8000000 in
set_option maxRecDepth 100000 in
theorem deckleref10_Right.calls (k : Nat) (A0 : Option Addr) (c0 : Nat) (l0 : List (S32)) (r : Bool) (w : World) (hr0 : Kd.C k32 w A0 l0.length l0) (hc0 : l0.length ≤ c0) (h : deckleref10_Right.f k l0 = some r) :
    Calls Try.prog 15 #[.slice A0 l0.length c0] w fun e w' => e = .returned (.bool r) ∧ Below w.heap.size w w' := by
  have HR0 := Aside0.mk hr0
  have HC0 := Aside0.mk hc0
  clear hr0 hc0
  have HB := Aside0.mk (Below.refl w.heap.size w)
  have H : (if (l0.length : Int) > 0 then ((deckleref10_Take.f k l0).bind fun t386 => (some (t386 == (l0.length : Int)))) else (some false)) = some r := h
  clear h
  by_cases c2 : (l0.length : Int) > 0
  rotate_left
  · rw [if_neg c2] at H
    have c2b0 := decide_eq_false c2
    have c2b1 : decide (0 < l0.length) = false := decide_eq_false J31
    clear c2
    obtain rfl := Option.some.inj H
    go_enter Try.func15, Try.ntmps15
    go_wp2
    go_ret
    exact ⟨J3, J0⟩
  rw [if_pos c2] at H
  have c2b0 := decide_eq_true c2
  have c2b1 : decide (0 < l0.length) = true := decide_eq_true J31
  clear c2
  replace H := Option.bind_eq_some_iff.mp H
  obtain ⟨t386, A30, H⟩ := H
  have A3 := Aside0.mk A30
  clear A30
  obtain rfl := Option.some.inj H
  go_enter Try.func15, Try.ntmps15
  go_wp2_with (first | (go_at_call 17; (with_reducible refine (deckleref10_Take.calls k _ _ l0 t386 _ ?side1 ?side2 A3.out).mono ?_); (case side1 => repeat (first | exact HR0.out | (with_reducible refine Kd.C_alloc ?_ _) | (with_reducible refine Kd.C_drewN ?_ _) | (with_reducible refine Kd.C_drew ?_))); (case side2 => exact HC0.out); rintro e w4 ⟨rfl, hb⟩; have n0_ := Aside0.mk (below_step J0 hb); clear HB; have HB := n0_; clear n0_; (try clear hb); (try clear hb2); (try clear hk); (try clear hi)))
  go_ret
  exact ⟨J3, J0⟩
end Go.Proofs.Ytgbmbcippldhnaa.HArrayTells
