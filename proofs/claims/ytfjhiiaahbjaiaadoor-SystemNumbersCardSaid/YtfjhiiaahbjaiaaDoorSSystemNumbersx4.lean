/- What the Go functions of this claim answer, told as functions of numbers and lists, and that other memory stays as it was: words and walks, shortened by a program. -/
import Derived.Test.YtfjhiiaahbjaiaaDoorSSystemNumbersx0
import Derived.Test.YtfjhiiaahbjaiaaDoorSSystemNumbersx2
import Derived.Test.YtfjhiiaahbjaiaaDoorSSystemNumbersx3
namespace Go.Proofs.YtfjhiiaahbjaiaaDoor.HSystemSigns
open Go.RowKit Go.Proofs.YtfjhiiaahbjaiaaDoorW.PrintWords Go.Proofs.YtfjhiiaahbjaiaaDoorW.PrintLast Go.Proofs.YtfjhiiaahbjaiaaDoorW.PrintMore
attribute [local go_sem] max2_int min2_int max_two min_two max_three min_three max_four min_four
set_option linter.unusedVariables false
set_option linter.unusedSimpArgs false
mutual
def deckleref10_first.j0 : Nat → List (S32) → Bool → Option (Int × Int × Int)
  | 0, _, _ => none
  | k + 1, x0, x22 => if x22 = true then (some (0, 0, 0)) else (if 0 < (x0.length : Int) then ((deckleref10_right.f k ((rd_T32 x0 0).f0) ((rd_T32 x0 0).f1) ((rd_T32 x0 0).f2) ((rd_T32 x0 0).f3)).bind fun bt119 => (if bt119.2 = true then (if ((rd_T32 x0 0).f0) = 5 then (none) else (some (1, bt119.1, 1))) else (some (0, 0, 0)))) else (none))
def deckleref10_first.f : Nat → List (S32) → Int → Option (Int × Int × Int)
  | 0, _, _ => none
  | k + 1, l0, a1 => if (l0.length : Int) = 0 then (deckleref10_first.j0 k l0 true) else (deckleref10_first.j0 k l0 (decide (a1 < 1)))
end
theorem deckleref10_first.mono_l : ∀ k, (∀ y0 y1, LeO (deckleref10_first.f k y0 y1) (deckleref10_first.f (k + 1) y0 y1)) ∧ (∀ y0 y1, LeO (deckleref10_first.j0 k y0 y1) (deckleref10_first.j0 (k + 1) y0 y1))
  | 0 => ⟨fun _ _ r h => by simp [deckleref10_first.f] at h, fun _ _ r h => by simp [deckleref10_first.j0] at h⟩
  | k + 1 => by
    obtain ⟨ih0, ih1⟩ := deckleref10_first.mono_l k
    refine ⟨?_, ?_⟩
    · intro y0 y1
      unfold deckleref10_first.f
      have im0 := @deckleref10_right.mono
      exact mz3
    · intro y0 y1
      unfold deckleref10_first.j0
      have im0 := @deckleref10_right.mono
      exact mz3
theorem deckleref10_first.mono : ∀ a0 a1 k, LeO (deckleref10_first.f k a0 a1) (deckleref10_first.f (k + 1) a0 a1) := by
  intro a0 a1 k
  obtain ⟨ih0, ih1⟩ := deckleref10_first.mono_l k
  exact ih0 a0 a1
set_option maxHeartbeats 8000000 in
set_option maxRecDepth 100000 in
theorem deckleref10_first.calls (k : Nat) : ∀ (A0 : Option Addr) (c0 : Nat) (l0 : List (S32)) (a1 : Int) (r1 : Int) (r2 : Int) (r3 : Int) (w : World) (hr0 : Kd.C k32 w A0 l0.length l0) (hc0 : l0.length ≤ c0) (h : deckleref10_first.f k l0 a1 = some (r1, r2, r3)),
    Calls Tryd.prog 69 #[.slice A0 l0.length c0, .int .i64 a1] w fun e w' => e = .returned (.tuple #[.int .i64 r1, .int .i64 r2, .int .i64 r3]) ∧ Below w.heap.size w w' := by
  induction k using Nat.strongRecOn with
  | _ k ih =>
  intro A0 c0 l0 a1 r1 r2 r3 w hr0 hc0 h
  cases k with
  | zero => exact absurd h (by simp [deckleref10_first.f])
  | succ k =>
  simp only [deckleref10_first.f] at h
  have hu32 := Tryd.underlying32
  have HR0 := zq hr0
  have HC0 := zq hc0
  clear hr0 hc0
  have HB := zq (Below.refl w.heap.size w)
  have H : (if (l0.length : Int) = 0 then (deckleref10_first.j0 k l0 true) else (deckleref10_first.j0 k l0 (decide (a1 < 1)))) = some (r1, r2, r3) := h
  clear h
  have HC3 := zq H
  clear H
  go_enter Tryd.func69, Tryd.ntmps69
  go_upto_region 1 with (fail)
  go_cut [22] (fun v22 wc => ∃ (kq : Nat) (x22_2 : Bool), v22 = .bool x22_2 ∧ Aside0 (deckleref10_first.j0 kq l0 x22_2 = some (r1, r2, r3)) ∧ Aside0 (kq ≤ k) ∧ Aside0 (Below w.heap.size w wc))
  case first =>
    have H := HC3.out
    clear HC3
    by_cases c4 : (l0.length : Int) = 0
    rotate_left
    · rw [if_neg c4] at H
      have c4b0 : ((l0.length : Int) == 0) = false := beq_eq_false_iff_ne.mpr c4
      have c4b1 : ((l0.length : Int) != 0) = true := bne_iff_ne.mpr c4
      have c4b2 : ¬ (l0 = []) := fun h_ => c4 (by rw [h_]; rfl)
      (first | rw [c4b0] | (simp only [i64_w, i32_w]; rw [c4b0]) | skip)
      have H' := zq H
      clear H
      go_wp2
      go_meet
      case rel => exact ⟨_, (decide (a1 < 1)), J4, H', ⟨J33⟩, ⟨J0⟩⟩
    rw [if_pos c4] at H
    have c4b0 : ((l0.length : Int) == 0) = true := beq_iff_eq.mpr c4
    have c4b1 : ((l0.length : Int) != 0) = false := bne_eq_false_iff_eq.mpr c4
    clear c4
    (first | rw [c4b0] | (simp only [i64_w, i32_w]; rw [c4b0]) | skip)
    have H' := zq H
    clear H
    go_wp2
    go_meet
    case rel => exact ⟨_, (true), J4, H', ⟨J33⟩, ⟨J0⟩⟩
  case rest =>
    clear HC3
    try clear p2
    try clear c4
    try clear c4b0
    try clear c4b1
    try clear c4b2
    obtain ⟨kq, x22_2, rfl, HA, HJ2, HB⟩ := hcut
    cases kq with
    | zero => exact absurd HA.out (by simp [deckleref10_first.j0])
    | succ kj2 =>
      have H := HA.out
      clear HA
      simp only [deckleref10_first.j0] at H
      by_cases c5 : x22_2 = true
      · subst c5
        rw [if_pos rfl] at H
        simp only [Option.some.injEq, Prod.mk.injEq] at H
        obtain ⟨rfl, rfl, rfl⟩ := H
        go_wp2
        go_ret3
        exact ⟨J2, J0⟩
      replace c5 := Bool.eq_false_iff.mpr c5
      subst c5
      rw [if_neg (show ¬ (false = true) by decide)] at H
      by_cases c6 : 0 < (l0.length : Int)
      rotate_left
      · rw [if_neg c6] at H
        exact absurd H J32
      rw [if_pos c6] at H
      have c6b0 := decide_eq_true c6
      have c6b1 : decide (0 < l0.length) = true := decide_eq_true J26
      clear c6
      replace H := Option.bind_eq_some_iff.mp H
      obtain ⟨⟨t119, t120⟩, A70, H⟩ := H
      dsimp only at H
      have A7 := zq A70
      clear A70
      by_cases c8 : t120 = true
      rotate_left
      · replace c8 := Bool.eq_false_iff.mpr c8
        subst c8
        rw [if_neg (show ¬ (false = true) by decide)] at H
        simp only [Option.some.injEq, Prod.mk.injEq] at H
        obtain ⟨rfl, rfl, rfl⟩ := H
        have p118 : 0 ≤ (0 : Int) := J26
        have q118 : 0 < (l0.length : Int) := of_decide_eq_true J3
        obtain ⟨ad118, A118_1, c118_1, A118_2, c118_2, A118_3, c118_3, e118, hx118_0, hx118_1, hx118_2, hx118_3, hl118_1, hi118_1, hl118_2, hi118_2, hl118_3, hi118_3⟩ := at_T32 HR0.out 0 p118 q118
        cases e118
        have qi118 : (0 < l0.length) = True := eq_true J26
        (try rw [show ((0 : Int)).toNat = 0 from rfl] at hx118_0)
        (try rw [show 0 * 4 = 0 from rfl] at hx118_0)
        (try rw [Addr.add_zero'] at hx118_0)
        (try rw [show ((0 : Int)).toNat = 0 from rfl] at hx118_1)
        (try rw [show 0 * 4 = 0 from rfl] at hx118_1)
        (try rw [Addr.add_zero'] at hx118_1)
        (try rw [show ((0 : Int)).toNat = 0 from rfl] at hx118_2)
        (try rw [show 0 * 4 = 0 from rfl] at hx118_2)
        (try rw [Addr.add_zero'] at hx118_2)
        (try rw [show ((0 : Int)).toNat = 0 from rfl] at hx118_3)
        (try rw [show 0 * 4 = 0 from rfl] at hx118_3)
        (try rw [Addr.add_zero'] at hx118_3)
        replace hx118_0 := (HB.out.cell (World.block_lt_of_cell? w _ hx118_0)).trans hx118_0
        replace hx118_1 := (HB.out.cell (World.block_lt_of_cell? w _ hx118_1)).trans hx118_1
        replace hx118_2 := (HB.out.cell (World.block_lt_of_cell? w _ hx118_2)).trans hx118_2
        replace hx118_3 := (HB.out.cell (World.block_lt_of_cell? w _ hx118_3)).trans hx118_3
        have HR118_1 := zq hi118_1
        have HC118_1 := zq hl118_1
        clear hi118_1 hl118_1
        have HR118_2 := zq hi118_2
        have HC118_2 := zq hl118_2
        clear hi118_2 hl118_2
        have HR118_3 := zq hi118_3
        have HC118_3 := zq hl118_3
        clear hi118_3 hl118_3
        replace p118 := eq_true p118
        replace q118 := eq_true q118
        go_wp2_with (first | ((with_reducible refine gate_callee (f := 81) rfl ?_); refine goesL_ (some 27) rfl rfl Tryd.func81 J8 rfl #[.agg #[.int .i64 ((rd_T32 l0 0).f0), .slice A118_1 ((rd_T32 l0 0).f1).length c118_1, .slice A118_2 ((rd_T32 l0 0).f2).length c118_2, .slice A118_3 ((rd_T32 l0 0).f3).length c118_3]] rfl J1 ?_; (with_reducible refine (deckleref10_right.calls kj2 ((rd_T32 l0 0).f0) _ _ ((rd_T32 l0 0).f1) _ _ ((rd_T32 l0 0).f2) _ _ ((rd_T32 l0 0).f3) t119 false _ ?side1 ?side2 ?side3 ?side4 ?side5 ?side6 A7.out).mono ?_); (case side1 => exact zc (Kd.C_below HR118_1.out HB.out)); (case side2 => exact HC118_1.out); (case side3 => exact zc (Kd.C_below HR118_2.out HB.out)); (case side4 => exact HC118_2.out); (case side5 => exact zc (Kd.C_below HR118_3.out HB.out)); (case side6 => exact HC118_3.out); rintro e w11 ⟨rfl, hb⟩; refine ⟨_, rfl, ?_⟩; replace HB := zq (below_step J0 hb); (try clear hb)))
        go_ret3
        exact ⟨J2, J0⟩
      subst c8
      rw [if_pos rfl] at H
      by_cases c9 : ((rd_T32 l0 0).f0) = 5
      · rw [if_pos c9] at H
        exact absurd H J32
      rw [if_neg c9] at H
      have c9b0 : (((rd_T32 l0 0).f0) == 5) = false := beq_eq_false_iff_ne.mpr c9
      have c9b1 : (((rd_T32 l0 0).f0) != 5) = true := bne_iff_ne.mpr c9
      simp only [Option.some.injEq, Prod.mk.injEq] at H
      obtain ⟨rfl, rfl, rfl⟩ := H
      have p118 : 0 ≤ (0 : Int) := J26
      have q118 : 0 < (l0.length : Int) := of_decide_eq_true J3
      obtain ⟨ad118, A118_1, c118_1, A118_2, c118_2, A118_3, c118_3, e118, hx118_0, hx118_1, hx118_2, hx118_3, hl118_1, hi118_1, hl118_2, hi118_2, hl118_3, hi118_3⟩ := at_T32 HR0.out 0 p118 q118
      cases e118
      have qi118 : (0 < l0.length) = True := eq_true J26
      (try rw [show ((0 : Int)).toNat = 0 from rfl] at hx118_0)
      (try rw [show 0 * 4 = 0 from rfl] at hx118_0)
      (try rw [Addr.add_zero'] at hx118_0)
      (try rw [show ((0 : Int)).toNat = 0 from rfl] at hx118_1)
      (try rw [show 0 * 4 = 0 from rfl] at hx118_1)
      (try rw [Addr.add_zero'] at hx118_1)
      (try rw [show ((0 : Int)).toNat = 0 from rfl] at hx118_2)
      (try rw [show 0 * 4 = 0 from rfl] at hx118_2)
      (try rw [Addr.add_zero'] at hx118_2)
      (try rw [show ((0 : Int)).toNat = 0 from rfl] at hx118_3)
      (try rw [show 0 * 4 = 0 from rfl] at hx118_3)
      (try rw [Addr.add_zero'] at hx118_3)
      replace hx118_0 := (HB.out.cell (World.block_lt_of_cell? w _ hx118_0)).trans hx118_0
      replace hx118_1 := (HB.out.cell (World.block_lt_of_cell? w _ hx118_1)).trans hx118_1
      replace hx118_2 := (HB.out.cell (World.block_lt_of_cell? w _ hx118_2)).trans hx118_2
      replace hx118_3 := (HB.out.cell (World.block_lt_of_cell? w _ hx118_3)).trans hx118_3
      have HR118_1 := zq hi118_1
      have HC118_1 := zq hl118_1
      clear hi118_1 hl118_1
      have HR118_2 := zq hi118_2
      have HC118_2 := zq hl118_2
      clear hi118_2 hl118_2
      have HR118_3 := zq hi118_3
      have HC118_3 := zq hl118_3
      clear hi118_3 hl118_3
      replace p118 := eq_true p118
      replace q118 := eq_true q118
      go_wp2_with (first | ((with_reducible refine gate_callee (f := 81) rfl ?_); refine goesL_ (some 27) rfl rfl Tryd.func81 J8 rfl #[.agg #[.int .i64 ((rd_T32 l0 0).f0), .slice A118_1 ((rd_T32 l0 0).f1).length c118_1, .slice A118_2 ((rd_T32 l0 0).f2).length c118_2, .slice A118_3 ((rd_T32 l0 0).f3).length c118_3]] rfl J1 ?_; (with_reducible refine (deckleref10_right.calls kj2 ((rd_T32 l0 0).f0) _ _ ((rd_T32 l0 0).f1) _ _ ((rd_T32 l0 0).f2) _ _ ((rd_T32 l0 0).f3) t119 true _ ?side1 ?side2 ?side3 ?side4 ?side5 ?side6 A7.out).mono ?_); (case side1 => exact zc (Kd.C_below HR118_1.out HB.out)); (case side2 => exact HC118_1.out); (case side3 => exact zc (Kd.C_below HR118_2.out HB.out)); (case side4 => exact HC118_2.out); (case side5 => exact zc (Kd.C_below HR118_3.out HB.out)); (case side6 => exact HC118_3.out); rintro e w10 ⟨rfl, hb⟩; refine ⟨_, rfl, ?_⟩; replace HB := zq (below_step J0 hb); (try clear hb); have p121 : 0 ≤ (0 : Int) := J26; have q121 : 0 < (l0.length : Int) := of_decide_eq_true J3; obtain ⟨ad121, A121_1, c121_1, A121_2, c121_2, A121_3, c121_3, e121, hx121_0, hx121_1, hx121_2, hx121_3, hl121_1, hi121_1, hl121_2, hi121_2, hl121_3, hi121_3⟩ := at_T32 HR0.out 0 p121 q121; obtain rfl : ad118 = ad121 := (by injection e121); have qi121 : (0 < l0.length) = True := eq_true J26; (try rw [show ((0 : Int)).toNat = 0 from rfl] at hx121_0); (try rw [show 0 * 4 = 0 from rfl] at hx121_0); (try rw [Addr.add_zero'] at hx121_0); (try rw [show ((0 : Int)).toNat = 0 from rfl] at hx121_1); (try rw [show 0 * 4 = 0 from rfl] at hx121_1); (try rw [Addr.add_zero'] at hx121_1); (try rw [show ((0 : Int)).toNat = 0 from rfl] at hx121_2); (try rw [show 0 * 4 = 0 from rfl] at hx121_2); (try rw [Addr.add_zero'] at hx121_2); (try rw [show ((0 : Int)).toNat = 0 from rfl] at hx121_3); (try rw [show 0 * 4 = 0 from rfl] at hx121_3); (try rw [Addr.add_zero'] at hx121_3); replace hx121_0 := (HB.out.cell (World.block_lt_of_cell? w _ hx121_0)).trans hx121_0; replace hx121_1 := (HB.out.cell (World.block_lt_of_cell? w _ hx121_1)).trans hx121_1; replace hx121_2 := (HB.out.cell (World.block_lt_of_cell? w _ hx121_2)).trans hx121_2; replace hx121_3 := (HB.out.cell (World.block_lt_of_cell? w _ hx121_3)).trans hx121_3; have HR121_1 := zq hi121_1; have HC121_1 := zq hl121_1; clear hi121_1 hl121_1; have HR121_2 := zq hi121_2; have HC121_2 := zq hl121_2; clear hi121_2 hl121_2; have HR121_3 := zq hi121_3; have HC121_3 := zq hl121_3; clear hi121_3 hl121_3; replace p121 := eq_true p121; replace q121 := eq_true q121))
      go_ret3
      exact ⟨J2, J0⟩
def deckleref10_Take.f (k : Nat) (l0 : List (S32)) : Option (Int) := (deckleref10_first.f k l0 16).bind fun bt122 => (some bt122.1)
theorem deckleref10_Take.mono : ∀ a0 k, LeO (deckleref10_Take.f k a0) (deckleref10_Take.f (k + 1) a0) := by
  intro a0 k
  unfold deckleref10_Take.f
  have im0 := @deckleref10_first.mono
  exact mz3
set_option maxHeartbeats 8000000 in
set_option maxRecDepth 100000 in
theorem deckleref10_Take.calls (k : Nat) (A0 : Option Addr) (c0 : Nat) (l0 : List (S32)) (r : Int) (w : World) (hr0 : Kd.C k32 w A0 l0.length l0) (hc0 : l0.length ≤ c0) (h : deckleref10_Take.f k l0 = some r) :
    Calls Tryd.prog 49 #[.slice A0 l0.length c0] w fun e w' => e = .returned (.int .i64 r) ∧ Below w.heap.size w w' := by
  have HR0 := zq hr0
  have HC0 := zq hc0
  clear hr0 hc0
  have HB := zq (Below.refl w.heap.size w)
  have H : ((deckleref10_first.f k l0 16).bind fun bt122 => (some bt122.1)) = some r := h
  clear h
  replace H := Option.bind_eq_some_iff.mp H
  obtain ⟨⟨t122, t123, t124⟩, A20, H⟩ := H
  replace H : (some t122) = some r := H
  have A2 := zq A20
  clear A20
  obtain rfl := Option.some.inj H
  go_enter Tryd.func49, Tryd.ntmps49
  go_wp2_with (first | ((with_reducible refine gate_callee (f := 69) rfl ?_); refine goesL_ (some 8) rfl rfl Tryd.func69 J8 rfl #[.slice A0 l0.length c0, .int .i64 16] rfl J1 ?_; (with_reducible refine (deckleref10_first.calls k _ _ l0 16 t122 t123 t124 _ ?side1 ?side2 A2.out).mono ?_); (case side1 => exact zc HR0.out); (case side2 => exact HC0.out); rintro e w3 ⟨rfl, hb⟩; refine ⟨_, rfl, ?_⟩; replace HB := zq (below_step J0 hb); (try clear hb)))
  go_ret
  exact ⟨J2, J0⟩
def deckleref10_Right.f (k : Nat) (l0 : List (S32)) : Option (Bool) := if (l0.length : Int) > 0 then ((deckleref10_Take.f k l0).bind fun t125 => (some (t125 == (l0.length : Int)))) else (some false)
theorem deckleref10_Right.mono : ∀ a0 k, LeO (deckleref10_Right.f k a0) (deckleref10_Right.f (k + 1) a0) := by
  intro a0 k
  unfold deckleref10_Right.f
  have im0 := @deckleref10_Take.mono
  exact mz3
set_option maxHeartbeats 8000000 in
set_option maxRecDepth 100000 in
theorem deckleref10_Right.calls (k : Nat) (A0 : Option Addr) (c0 : Nat) (l0 : List (S32)) (r : Bool) (w : World) (hr0 : Kd.C k32 w A0 l0.length l0) (hc0 : l0.length ≤ c0) (h : deckleref10_Right.f k l0 = some r) :
    Calls Tryd.prog 26 #[.slice A0 l0.length c0] w fun e w' => e = .returned (.bool r) ∧ Below w.heap.size w w' := by
  have HR0 := zq hr0
  have HC0 := zq hc0
  clear hr0 hc0
  have HB := zq (Below.refl w.heap.size w)
  have H : (if (l0.length : Int) > 0 then ((deckleref10_Take.f k l0).bind fun t125 => (some (t125 == (l0.length : Int)))) else (some false)) = some r := h
  clear h
  by_cases c2 : (l0.length : Int) > 0
  rotate_left
  · rw [if_neg c2] at H
    have c2b0 := decide_eq_false c2
    have c2b1 : decide (0 < l0.length) = false := decide_eq_false J26
    clear c2
    obtain rfl := Option.some.inj H
    go_enter Tryd.func26, Tryd.ntmps26
    go_wp2
    go_ret
    exact ⟨J2, J0⟩
  rw [if_pos c2] at H
  have c2b0 := decide_eq_true c2
  have c2b1 : decide (0 < l0.length) = true := decide_eq_true J26
  clear c2
  replace H := Option.bind_eq_some_iff.mp H
  obtain ⟨t125, A30, H⟩ := H
  have A3 := zq A30
  clear A30
  obtain rfl := Option.some.inj H
  go_enter Tryd.func26, Tryd.ntmps26
  go_wp2_with (first | (go_at_call 49; (with_reducible refine (deckleref10_Take.calls k _ _ l0 t125 _ ?side1 ?side2 A3.out).mono ?_); (case side1 => exact zc HR0.out); (case side2 => exact HC0.out); rintro e w4 ⟨rfl, hb⟩; replace HB := zq (below_step J0 hb); (try clear hb)))
  go_ret
  exact ⟨J2, J0⟩
def deckleref10_Kids.f (k : Nat) (l0 : List (S32)) : Option ((List (List (S32)))) := (deckleref10_Right.f k l0).bind fun t126 => (if t126 = true then (if 0 < (l0.length : Int) then (if ((rd_T32 l0 0).f0) = 5 then (none) else (some ([] : List (List (S32))))) else (none)) else (some ([] : List (List (S32)))))
theorem deckleref10_Kids.mono : ∀ a0 k, LeO (deckleref10_Kids.f k a0) (deckleref10_Kids.f (k + 1) a0) := by
  intro a0 k
  unfold deckleref10_Kids.f
  have im0 := @deckleref10_Right.mono
  exact mz3
set_option maxHeartbeats 8000000 in
set_option maxRecDepth 100000 in
theorem deckleref10_Kids.calls (k : Nat) (A0 : Option Addr) (c0 : Nat) (l0 : List (S32)) (r : List (List (S32))) (w : World) (hr0 : Kd.C k32 w A0 l0.length l0) (hc0 : l0.length ≤ c0) (h : deckleref10_Kids.f k l0 = some r) :
    Calls Tryd.prog 51 #[.slice A0 l0.length c0] w fun e w' => ∃ v0_ : Value, e = .returned (v0_) ∧ Kd.R (Kd.slice 32 k32) 23 w' w.heap.size (fun _ => True) v0_ r ∧ Below w.heap.size w w' := by
  have HR0 := zq hr0
  have HC0 := zq hc0
  clear hr0 hc0
  have HB := zq (Below.refl w.heap.size w)
  have H : ((deckleref10_Right.f k l0).bind fun t126 => (if t126 = true then (if 0 < (l0.length : Int) then (if ((rd_T32 l0 0).f0) = 5 then (none) else (some ([] : List (List (S32))))) else (none)) else (some ([] : List (List (S32)))))) = some r := h
  clear h
  replace H := Option.bind_eq_some_iff.mp H
  obtain ⟨t126, A20, H⟩ := H
  have A2 := zq A20
  clear A20
  by_cases c3 : t126 = true
  rotate_left
  · replace c3 := Bool.eq_false_iff.mpr c3
    subst c3
    rw [if_neg (show ¬ (false = true) by decide)] at H
    obtain rfl := Option.some.inj H
    go_enter Tryd.func51, Tryd.ntmps51
    go_wp2_with (first | ((with_reducible refine gate_callee (f := 26) rfl ?_); refine goesL_ (some 9) rfl rfl Tryd.func26 J8 rfl #[.slice A0 l0.length c0] rfl J1 ?_; (with_reducible refine (deckleref10_Right.calls k _ _ l0 false _ ?side1 ?side2 A2.out).mono ?_); (case side1 => exact zc HR0.out); (case side2 => exact HC0.out); rintro e w7 ⟨rfl, hb⟩; refine ⟨_, rfl, ?_⟩; replace HB := zq (below_step J0 hb); (try clear hb)))
    go_ret
    exact ⟨_, J2, J9, J0⟩
  subst c3
  rw [if_pos rfl] at H
  by_cases c4 : 0 < (l0.length : Int)
  rotate_left
  · rw [if_neg c4] at H
    exact absurd H J32
  rw [if_pos c4] at H
  have c4b0 := decide_eq_true c4
  have c4b1 : decide (0 < l0.length) = true := decide_eq_true J26
  clear c4
  by_cases c5 : ((rd_T32 l0 0).f0) = 5
  · rw [if_pos c5] at H
    exact absurd H J32
  rw [if_neg c5] at H
  have c5b0 : (((rd_T32 l0 0).f0) == 5) = false := beq_eq_false_iff_ne.mpr c5
  have c5b1 : (((rd_T32 l0 0).f0) != 5) = true := bne_iff_ne.mpr c5
  obtain rfl := Option.some.inj H
  go_enter Tryd.func51, Tryd.ntmps51
  go_wp2_with (first | ((with_reducible refine gate_callee (f := 26) rfl ?_); refine goesL_ (some 9) rfl rfl Tryd.func26 J8 rfl #[.slice A0 l0.length c0] rfl J1 ?_; (with_reducible refine (deckleref10_Right.calls k _ _ l0 true _ ?side1 ?side2 A2.out).mono ?_); (case side1 => exact zc HR0.out); (case side2 => exact HC0.out); rintro e w6 ⟨rfl, hb⟩; refine ⟨_, rfl, ?_⟩; replace HB := zq (below_step J0 hb); (try clear hb); have p127 : 0 ≤ (0 : Int) := J26; have q127 : 0 < (l0.length : Int) := of_decide_eq_true J3; obtain ⟨ad127, A127_1, c127_1, A127_2, c127_2, A127_3, c127_3, e127, hx127_0, hx127_1, hx127_2, hx127_3, hl127_1, hi127_1, hl127_2, hi127_2, hl127_3, hi127_3⟩ := at_T32 HR0.out 0 p127 q127; cases e127; have qi127 : (0 < l0.length) = True := eq_true J26; (try rw [show ((0 : Int)).toNat = 0 from rfl] at hx127_0); (try rw [show 0 * 4 = 0 from rfl] at hx127_0); (try rw [Addr.add_zero'] at hx127_0); (try rw [show ((0 : Int)).toNat = 0 from rfl] at hx127_1); (try rw [show 0 * 4 = 0 from rfl] at hx127_1); (try rw [Addr.add_zero'] at hx127_1); (try rw [show ((0 : Int)).toNat = 0 from rfl] at hx127_2); (try rw [show 0 * 4 = 0 from rfl] at hx127_2); (try rw [Addr.add_zero'] at hx127_2); (try rw [show ((0 : Int)).toNat = 0 from rfl] at hx127_3); (try rw [show 0 * 4 = 0 from rfl] at hx127_3); (try rw [Addr.add_zero'] at hx127_3); replace hx127_0 := (HB.out.cell (World.block_lt_of_cell? w _ hx127_0)).trans hx127_0; replace hx127_1 := (HB.out.cell (World.block_lt_of_cell? w _ hx127_1)).trans hx127_1; replace hx127_2 := (HB.out.cell (World.block_lt_of_cell? w _ hx127_2)).trans hx127_2; replace hx127_3 := (HB.out.cell (World.block_lt_of_cell? w _ hx127_3)).trans hx127_3; have HR127_1 := zq hi127_1; have HC127_1 := zq hl127_1; clear hi127_1 hl127_1; have HR127_2 := zq hi127_2; have HC127_2 := zq hl127_2; clear hi127_2 hl127_2; have HR127_3 := zq hi127_3; have HC127_3 := zq hl127_3; clear hi127_3 hl127_3; replace p127 := eq_true p127; replace q127 := eq_true q127))
  go_ret
  exact ⟨_, J2, J9, J0⟩
mutual
def deckleref06_Whole.j0 : Nat → Bool → Int → Int → Option (Int × Bool)
  | 0, _, _, _ => none
  | k + 1, x18, x129000, x129001 => if x18 = true then (some (0, false)) else (deckleref06_Whole.l0 k x129000 0 x129000 x129001)
def deckleref06_Whole.l0 : Nat → Int → Int → Int → Int → Option (Int × Bool)
  | 0, _, _, _, _ => none
  | k + 1, x4, x5, x129000, x129001 => if x5 < x129001 then (if x4 > 922337203685477580 then (some (0, false)) else (if x4 < (-922337203685477580) then (some (0, false)) else (deckleref06_Whole.l0 k (wrap64 (10 * x4)) (wrap64 (x5 + 1)) x129000 x129001))) else (some (x4, true))
end
def deckleref06_Whole.f (k : Nat) (a0_0 : Int) (a0_1 : Int) : Option (Int × Bool) := (deckleref06_Right.f k a0_0 a0_1).bind fun t129 => (if t129 = true then (if a0_1 < 0 then (deckleref06_Whole.j0 k true a0_0 a0_1) else (deckleref06_Whole.j0 k (decide (a0_1 > 18)) a0_0 a0_1)) else (deckleref06_Whole.j0 k true a0_0 a0_1))
theorem deckleref06_Whole.mono_l : ∀ k, (∀ y0 y1 y2, LeO (deckleref06_Whole.j0 k y0 y1 y2) (deckleref06_Whole.j0 (k + 1) y0 y1 y2)) ∧ (∀ y0 y1 y2 y3, LeO (deckleref06_Whole.l0 k y0 y1 y2 y3) (deckleref06_Whole.l0 (k + 1) y0 y1 y2 y3))
  | 0 => ⟨fun _ _ _ r h => by simp [deckleref06_Whole.j0] at h, fun _ _ _ _ r h => by simp [deckleref06_Whole.l0] at h⟩
  | k + 1 => by
    obtain ⟨ih0, ih1⟩ := deckleref06_Whole.mono_l k
    refine ⟨?_, ?_⟩
    · intro y0 y1 y2
      unfold deckleref06_Whole.j0
      have im0 := @deckleref06_Right.mono
      exact mz3
    · intro y0 y1 y2 y3
      unfold deckleref06_Whole.l0
      have im0 := @deckleref06_Right.mono
      exact mz3
theorem deckleref06_Whole.mono : ∀ a0 a1 k, LeO (deckleref06_Whole.f k a0 a1) (deckleref06_Whole.f (k + 1) a0 a1) := by
  intro a0 a1 k
  obtain ⟨ih0, ih1⟩ := deckleref06_Whole.mono_l k
  unfold deckleref06_Whole.f
  have im0 := @deckleref06_Right.mono
  exact mz3
set_option maxHeartbeats 8000000 in
set_option maxRecDepth 100000 in
theorem deckleref06_Whole.calls (k : Nat) (a0_0 : Int) (a0_1 : Int) (r1 : Int) (r2 : Bool) (w : World) (h : deckleref06_Whole.f k a0_0 a0_1 = some (r1, r2)) :
    Calls Tryd.prog 72 #[.agg #[.int .i64 a0_0, .int .i64 a0_1]] w fun e w' => e = .returned (.tuple #[.int .i64 r1, .bool r2]) ∧ Below w.heap.size w w' := by
  have hu40 := Tryd.underlying40
  have HB := zq (Below.refl w.heap.size w)
  have H : ((deckleref06_Right.f k a0_0 a0_1).bind fun t129 => (if t129 = true then (if a0_1 < 0 then (deckleref06_Whole.j0 k true a0_0 a0_1) else (deckleref06_Whole.j0 k (decide (a0_1 > 18)) a0_0 a0_1)) else (deckleref06_Whole.j0 k true a0_0 a0_1))) = some (r1, r2) := h
  clear h
  have HC2 := zq H
  clear H
  go_enter Tryd.func72, Tryd.ntmps72
  go_upto_region 1 with (first | ((with_reducible refine gate_dst (N := 1) rfl ?_); refine bxw 1 40 #[.int .i64 a0_0, .int .i64 a0_1] ?_; intro gb128 hg w3 hbox hb; have BK128 := zq (hbox); have GE128 := zq ((J12 : w.heap.size ≤ gb128)); replace HB := zq (below_step J0 hb); clear hb hbox hg))
  (try simp only [Act.put, List.setIfInBounds_toArray, List.set_cons_zero, List.set_cons_succ])
  go_cut [18] (fun v18 wc => ∃ (kq : Nat) (x18_1 : Bool), v18 = .bool x18_1 ∧ Aside0 (deckleref06_Whole.j0 kq x18_1 a0_0 a0_1 = some (r1, r2)) ∧ Aside0 (kq ≤ k) ∧ Aside0 (wc.heap[gb128]? = some (.cells #[.int .i64 a0_0, .int .i64 a0_1] 40 (0, 0))) ∧ Aside0 (Below w.heap.size w wc))
  case first =>
    have H := HC2.out
    clear HC2
    replace H := Option.bind_eq_some_iff.mp H
    obtain ⟨t129, A40, H⟩ := H
    have A4 := zq A40
    clear A40
    by_cases c5 : t129 = true
    rotate_left
    · replace c5 := Bool.eq_false_iff.mpr c5
      subst c5
      rw [if_neg (show ¬ (false = true) by decide)] at H
      have H' := zq H
      clear H
      obtain ⟨hcz13_0, hcz13_1, hfz13_0, hfz13_1⟩ := cz2 BK128.out
      go_wp2_with (first | ((with_reducible refine gate_callee (f := 71) rfl ?_); refine goesL_ (some 7) rfl rfl Tryd.func71 J8 rfl #[.agg #[.int .i64 a0_0, .int .i64 a0_1]] rfl J1 ?_; (with_reducible refine (deckleref06_Right.calls k a0_0 a0_1 false _ A4.out).mono ?_); rintro e w14 ⟨rfl, hb⟩; refine ⟨_, rfl, ?_⟩; replace BK128 := zq (blk_below (g := gb128) (o := .cells #[.int .i64 a0_0, .int .i64 a0_1] 40 (0, 0)) (zk BK128.out) hb); replace HB := zq (below_step (zs1 GE128.out) hb); (try clear hb)))
      go_meet
      case rel => exact ⟨_, (true), J4, H', ⟨J33⟩, ⟨J64⟩, ⟨J21⟩⟩
    subst c5
    rw [if_pos rfl] at H
    by_cases c6 : a0_1 < 0
    rotate_left
    · rw [if_neg c6] at H
      have c6b0 := decide_eq_false c6
      clear c6
      (first | rw [c6b0] | (simp only [i64_w, i32_w]; rw [c6b0]) | skip)
      have H' := zq H
      clear H
      obtain ⟨hcz10_0, hcz10_1, hfz10_0, hfz10_1⟩ := cz2 BK128.out
      go_wp2_with (first | ((with_reducible refine gate_callee (f := 71) rfl ?_); refine goesL_ (some 7) rfl rfl Tryd.func71 J8 rfl #[.agg #[.int .i64 a0_0, .int .i64 a0_1]] rfl J1 ?_; (with_reducible refine (deckleref06_Right.calls k a0_0 a0_1 true _ A4.out).mono ?_); rintro e w11 ⟨rfl, hb⟩; refine ⟨_, rfl, ?_⟩; replace BK128 := zq (blk_below (g := gb128) (o := .cells #[.int .i64 a0_0, .int .i64 a0_1] 40 (0, 0)) (zk BK128.out) hb); replace HB := zq (below_step (zs1 GE128.out) hb); (try clear hb); obtain ⟨hcz12_0, hcz12_1, hfz12_0, hfz12_1⟩ := cz2 BK128.out))
      go_meet
      case rel => exact ⟨_, (decide (a0_1 > 18)), J4, H', ⟨J33⟩, ⟨J64⟩, ⟨J21⟩⟩
    rw [if_pos c6] at H
    have c6b0 := decide_eq_true c6
    clear c6
    (first | rw [c6b0] | (simp only [i64_w, i32_w]; rw [c6b0]) | skip)
    have H' := zq H
    clear H
    obtain ⟨hcz7_0, hcz7_1, hfz7_0, hfz7_1⟩ := cz2 BK128.out
    go_wp2_with (first | ((with_reducible refine gate_callee (f := 71) rfl ?_); refine goesL_ (some 7) rfl rfl Tryd.func71 J8 rfl #[.agg #[.int .i64 a0_0, .int .i64 a0_1]] rfl J1 ?_; (with_reducible refine (deckleref06_Right.calls k a0_0 a0_1 true _ A4.out).mono ?_); rintro e w8 ⟨rfl, hb⟩; refine ⟨_, rfl, ?_⟩; replace BK128 := zq (blk_below (g := gb128) (o := .cells #[.int .i64 a0_0, .int .i64 a0_1] 40 (0, 0)) (zk BK128.out) hb); replace HB := zq (below_step (zs1 GE128.out) hb); (try clear hb); obtain ⟨hcz9_0, hcz9_1, hfz9_0, hfz9_1⟩ := cz2 BK128.out))
    go_meet
    case rel => exact ⟨_, (true), J4, H', ⟨J33⟩, ⟨J64⟩, ⟨J21⟩⟩
  case rest =>
    clear HC2
    try clear p2
    try clear c5
    try clear c6
    try clear c6b0
    try clear c7
    try clear hcz10_0
    try clear hcz10_1
    try clear hcz12_0
    try clear hcz12_1
    try clear hcz13_0
    try clear hcz13_1
    try clear hcz7_0
    try clear hcz7_1
    try clear hcz9_0
    try clear hcz9_1
    try clear hfz10_0
    try clear hfz10_1
    try clear hfz12_0
    try clear hfz12_1
    try clear hfz13_0
    try clear hfz13_1
    try clear hfz7_0
    try clear hfz7_1
    try clear hfz9_0
    try clear hfz9_1
    obtain ⟨kq, x18_1, rfl, HA, HJ1, BK128, HB⟩ := hcut
    cases kq with
    | zero => exact absurd HA.out (by simp [deckleref06_Whole.j0])
    | succ kj1 =>
      have H := HA.out
      clear HA
      simp only [deckleref06_Whole.j0] at H
      by_cases c15 : x18_1 = true
      · subst c15
        rw [if_pos rfl] at H
        simp only [Option.some.injEq, Prod.mk.injEq] at H
        obtain ⟨rfl, rfl⟩ := H
        go_wp2
        go_ret2
        exact ⟨J2, J21⟩
      replace c15 := Bool.eq_false_iff.mpr c15
      subst c15
      rw [if_neg (show ¬ (false = true) by decide)] at H
      have H' := zq H
      clear H
      obtain ⟨hcz16_0, hcz16_1, hfz16_0, hfz16_1⟩ := cz2 BK128.out
      go_wp2
      go_loopg [4, 5] kj1 (fun kq v4 v5 w' => ∃ (x4_2 : Int) (x5_2 : Int), v4 = .int .i64 x4_2 ∧ v5 = .int .i64 x5_2 ∧ Aside0 (deckleref06_Whole.l0 kq x4_2 x5_2 a0_0 a0_1 = some (r1, r2)) ∧ Aside0 (kq ≤ kj1) ∧ Aside0 (w'.heap[gb128]? = some (.cells #[.int .i64 a0_0, .int .i64 a0_1] 40 (0, 0))) ∧ Aside0 (Below w.heap.size w w'))
      case atStart => exact ⟨(a0_0), (0), J4, J4, H', ⟨Nat.le_refl _⟩, ⟨J64⟩, ⟨J21⟩⟩
      case round =>
        clear H'
        try clear c1
        try clear p2
        try clear c5
        try clear c6
        try clear c6b0
        try clear c7
        try clear c15
        try clear hcz10_0
        try clear hcz10_1
        try clear hcz12_0
        try clear hcz12_1
        try clear hcz13_0
        try clear hcz13_1
        try clear hcz16_0
        try clear hcz16_1
        try clear hcz7_0
        try clear hcz7_1
        try clear hcz9_0
        try clear hcz9_1
        try clear hfz10_0
        try clear hfz10_1
        try clear hfz12_0
        try clear hfz12_1
        try clear hfz13_0
        try clear hfz13_1
        try clear hfz16_0
        try clear hfz16_1
        try clear hfz7_0
        try clear hfz7_1
        try clear hfz9_0
        try clear hfz9_1
        try clear p2
        obtain ⟨x4_2, x5_2, rfl, rfl, HA, HK2, BK128, HB⟩ := hrel
        cases gk with
        | zero => exact absurd HA.out (by simp [deckleref06_Whole.l0])
        | succ k2 =>
          have H := HA.out
          clear HA
          simp only [deckleref06_Whole.l0] at H
          by_cases c17 : x5_2 < a0_1
          rotate_left
          · rw [if_neg c17] at H
            have c17b0 := decide_eq_false c17
            clear c17
            simp only [Option.some.injEq, Prod.mk.injEq] at H
            obtain ⟨rfl, rfl⟩ := H
            obtain ⟨hcz23_0, hcz23_1, hfz23_0, hfz23_1⟩ := cz2 BK128.out
            go_wp2
            go_ret2
            exact ⟨J2, J21⟩
          rw [if_pos c17] at H
          have c17b0 := decide_eq_true c17
          clear c17
          by_cases c18 : x4_2 > 922337203685477580
          · rw [if_pos c18] at H
            have c18b0 := decide_eq_true c18
            clear c18
            simp only [Option.some.injEq, Prod.mk.injEq] at H
            obtain ⟨rfl, rfl⟩ := H
            obtain ⟨hcz19_0, hcz19_1, hfz19_0, hfz19_1⟩ := cz2 BK128.out
            go_wp2
            go_ret2
            exact ⟨J2, J21⟩
          rw [if_neg c18] at H
          have c18b0 := decide_eq_false c18
          clear c18
          by_cases c20 : x4_2 < (-922337203685477580)
          · rw [if_pos c20] at H
            have c20b0 := decide_eq_true c20
            clear c20
            simp only [Option.some.injEq, Prod.mk.injEq] at H
            obtain ⟨rfl, rfl⟩ := H
            obtain ⟨hcz21_0, hcz21_1, hfz21_0, hfz21_1⟩ := cz2 BK128.out
            go_wp2
            go_ret2
            exact ⟨J2, J21⟩
          rw [if_neg c20] at H
          have c20b0 := decide_eq_false c20
          clear c20
          have H' := zq H
          clear H
          obtain ⟨hcz22_0, hcz22_1, hfz22_0, hfz22_1⟩ := cz2 BK128.out
          go_wp2
          go_roundg k2
          case measure => have := HJ1.out; have := HK2.out; omega
          case rel => exact ⟨(wrap64 (10 * x4_2)), (wrap64 (x5_2 + 1)), J4, J4, H', ⟨by have := HJ1.out; have := HK2.out; omega⟩, ⟨J64⟩, ⟨J21⟩⟩
end Go.Proofs.YtfjhiiaahbjaiaaDoor.HSystemSigns
