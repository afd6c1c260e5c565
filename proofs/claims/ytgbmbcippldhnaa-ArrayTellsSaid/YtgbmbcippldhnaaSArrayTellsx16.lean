import Derived.Test.YtgbmbcippldhnaaSArrayTellsx0
import Derived.Test.YtgbmbcippldhnaaSArrayTellsx13
import Derived.Test.YtgbmbcippldhnaaSArrayTellsx15
namespace Go.Proofs.Ytgbmbcippldhnaa.HArrayTells
open Go.RowKit Go.Proofs.YtgbmbcippldhnaaW.PrintWords Go.Proofs.YtgbmbcippldhnaaW.PrintLast Go.Proofs.YtgbmbcippldhnaaW.PrintMore
attribute [local go_sem] max2_int min2_int max_two min_two max_three min_three max_four min_four
set_option linter.unusedVariables false
set_option linter.unusedSimpArgs false
def deckleref10_Same.l0 : Nat → List (S32) → List (S32) → Int → Option (Bool)
  | 0, _, _, _ => none
  | k + 1, x0, x1, x5 => if x5 < (x0.length : Int) then (if 0 ≤ x5 then (if x5 < (x1.length : Int) then ((deckleref10_One.f k ((rd_T32 x0 x5).f0) ((rd_T32 x0 x5).f1) ((rd_T32 x0 x5).f2) ((rd_T32 x0 x5).f3) ((rd_T32 x1 x5).f0) ((rd_T32 x1 x5).f1) ((rd_T32 x1 x5).f2) ((rd_T32 x1 x5).f3)).bind fun t441 => (if t441 = true then (deckleref10_Same.l0 k x0 x1 (wrap64 (x5 + 1))) else (some false))) else (none)) else (none)) else (some true)
def deckleref10_Same.f (k : Nat) (l0 : List (S32)) (l1 : List (S32)) : Option (Bool) := if (l0.length : Int) = (l1.length : Int) then (deckleref10_Same.l0 k l0 l1 0) else (some false)
def deckleref10_Same.T6 : Bool × List (List Nat × List Nat) := (true, [([], []), ([], []), ([0, 1], [0, 1]), ([2], [2]), ([], []), ([], []), ([4, 5], [4, 5]), ([6], [6]), ([3, 7], [3, 7]), ([8], [8])])
def deckleref10_Same.B6 : List Nat := [0, 0, 3, 7, 0, 0, 48, 112, 255, 511]
theorem deckleref10_Same.tab6 : rtab .any (opsOf Try.f12 6) = deckleref10_Same.T6 := J8
theorem deckleref10_Same.bits6 : waitsOk deckleref10_Same.T6.2 deckleref10_Same.B6 = true := J8
set_option maxHeartbeats 8000000 in
set_option maxRecDepth 100000 in
theorem deckleref10_Same.calls (k : Nat) (A0 : Option Addr) (c0 : Nat) (l0 : List (S32)) (A1 : Option Addr) (c1 : Nat) (l1 : List (S32)) (r : Bool) (w : World) (hr0 : Kd.C k32 w A0 l0.length l0) (hc0 : l0.length ≤ c0) (hr1 : Kd.C k32 w A1 l1.length l1) (hc1 : l1.length ≤ c1) (h : deckleref10_Same.f k l0 l1 = some r) :
    Calls Try.prog 12 #[.slice A0 l0.length c0, .slice A1 l1.length c1] w fun e w' => e = .returned (.bool r) ∧ Below w.heap.size w w' := by
  have hu32 := Try.underlying32
  have HR0 := Aside0.mk hr0
  have HC0 := Aside0.mk hc0
  clear hr0 hc0
  have HR1 := Aside0.mk hr1
  have HC1 := Aside0.mk hc1
  clear hr1 hc1
  have HB := Aside0.mk (Below.refl w.heap.size w)
  have H : (if (l0.length : Int) = (l1.length : Int) then (deckleref10_Same.l0 k l0 l1 0) else (some false)) = some r := h
  clear h
  by_cases c3 : (l0.length : Int) = (l1.length : Int)
  rotate_left
  · rw [if_neg c3] at H
    have c3b0 : ((l0.length : Int) == (l1.length : Int)) = false := beq_eq_false_iff_ne.mpr c3
    have c3b1 : ((l0.length : Int) != (l1.length : Int)) = true := bne_iff_ne.mpr c3
    have c3b2 : (l0.length == l1.length) = false := J41
    obtain rfl := Option.some.inj H
    go_enter Try.func12, Try.ntmps12
    go_wp2
    go_ret
    exact ⟨J3, J0⟩
  rw [if_pos c3] at H
  have c3b0 : ((l0.length : Int) == (l1.length : Int)) = true := beq_iff_eq.mpr c3
  have c3b1 : ((l0.length : Int) != (l1.length : Int)) = false := bne_eq_false_iff_eq.mpr c3
  have c3b2 : (l0.length == l1.length) = true := J41
  clear c3
  have H' := Aside0.mk H
  clear H
  go_enter Try.func12, Try.ntmps12
  go_wp2
  go_loopg [5] k (fun kq v5 w' => ∃ (x5_1 : Int), v5 = .int .i64 x5_1 ∧ Aside0 (deckleref10_Same.l0 kq l0 l1 x5_1 = some r) ∧ Aside0 (kq ≤ k) ∧ Aside0 (Below w.heap.size w w'))
  case atStart => exact ⟨(0), J4, H', ⟨Nat.le_refl _⟩, ⟨J0⟩⟩
  case round =>
    clear H'
    try clear c1
    try clear p2
    try clear c3
    try clear c3b0
    try clear c3b1
    try clear c3b2
    obtain ⟨x5_1, rfl, HA, HK1, HB⟩ := hrel
    cases gk with
    | zero => exact absurd HA.out (by simp [deckleref10_Same.l0])
    | succ k1 =>
      have H := HA.out
      clear HA
      simp only [deckleref10_Same.l0] at H
      by_cases c4 : x5_1 < (l0.length : Int)
      rotate_left
      · rw [if_neg c4] at H
        have c4b0 := decide_eq_false c4
        clear c4
        obtain rfl := Option.some.inj H
        go_wp2
        go_ret
        exact ⟨J3, J0⟩
      rw [if_pos c4] at H
      have c4b0 := decide_eq_true c4
      clear c4
      by_cases c5 : 0 ≤ x5_1
      rotate_left
      · rw [if_neg c5] at H
        exact absurd H J28
      rw [if_pos c5] at H
      have c5b0 := decide_eq_true c5
      clear c5
      by_cases c6 : x5_1 < (l1.length : Int)
      rotate_left
      · rw [if_neg c6] at H
        exact absurd H J28
      rw [if_pos c6] at H
      have c6b0 := decide_eq_true c6
      clear c6
      replace H := Option.bind_eq_some_iff.mp H
      obtain ⟨t441, A70, H⟩ := H
      have A7 := Aside0.mk A70
      clear A70
      by_cases c8 : t441 = true
      rotate_left
      · replace c8 := Bool.eq_false_iff.mpr c8
        subst c8
        have H1 : (some false) = some r := J10
        clear H
        have H := H1
        clear H1
        obtain rfl := Option.some.inj H
        try go_wp2
        have n0_ := Aside0.mk (below_drew1 HB.out)
        clear HB
        have HB := n0_
        clear n0_
        have p439 : 0 ≤ (x5_1 : Int) := of_decide_eq_true J2
        have q439 : x5_1 < (l0.length : Int) := of_decide_eq_true J2
        obtain ⟨ad439, A439_1, c439_1, A439_2, c439_2, A439_3, c439_3, e439, hx439_0, hx439_1, hx439_2, hx439_3, hl439_1, hi439_1, hl439_2, hi439_2, hl439_3, hi439_3⟩ := at_T32 HR0.out x5_1 p439 q439
        have hw439_3 := hx439_3
        have hw439_2 := hx439_2
        have hw439_1 := hx439_1
        have hw439_0 := hx439_0
        cases e439
        replace hx439_0 := (HB.out.cell (World.block_lt_of_cell? w _ hx439_0)).trans hx439_0
        replace hx439_1 := (HB.out.cell (World.block_lt_of_cell? w _ hx439_1)).trans hx439_1
        replace hx439_2 := (HB.out.cell (World.block_lt_of_cell? w _ hx439_2)).trans hx439_2
        replace hx439_3 := (HB.out.cell (World.block_lt_of_cell? w _ hx439_3)).trans hx439_3
        have HR439_1 := Aside0.mk hi439_1
        have HC439_1 := Aside0.mk hl439_1
        clear hi439_1 hl439_1
        have HR439_2 := Aside0.mk hi439_2
        have HC439_2 := Aside0.mk hl439_2
        clear hi439_2 hl439_2
        have HR439_3 := Aside0.mk hi439_3
        have HC439_3 := Aside0.mk hl439_3
        clear hi439_3 hl439_3
        replace p439 := eq_true p439
        replace q439 := eq_true q439
        have p440 : 0 ≤ (x5_1 : Int) := of_decide_eq_true J2
        have q440 : x5_1 < (l1.length : Int) := of_decide_eq_true J2
        obtain ⟨ad440, A440_1, c440_1, A440_2, c440_2, A440_3, c440_3, e440, hx440_0, hx440_1, hx440_2, hx440_3, hl440_1, hi440_1, hl440_2, hi440_2, hl440_3, hi440_3⟩ := at_T32 HR1.out x5_1 p440 q440
        have hw440_3 := hx440_3
        have hw440_2 := hx440_2
        have hw440_1 := hx440_1
        have hw440_0 := hx440_0
        cases e440
        replace hx440_0 := (HB.out.cell (World.block_lt_of_cell? w _ hx440_0)).trans hx440_0
        replace hx440_1 := (HB.out.cell (World.block_lt_of_cell? w _ hx440_1)).trans hx440_1
        replace hx440_2 := (HB.out.cell (World.block_lt_of_cell? w _ hx440_2)).trans hx440_2
        replace hx440_3 := (HB.out.cell (World.block_lt_of_cell? w _ hx440_3)).trans hx440_3
        have HR440_1 := Aside0.mk hi440_1
        have HC440_1 := Aside0.mk hl440_1
        clear hi440_1 hl440_1
        have HR440_2 := Aside0.mk hi440_2
        have HC440_2 := Aside0.mk hl440_2
        clear hi440_2 hl440_2
        have HR440_3 := Aside0.mk hi440_3
        have HC440_3 := Aside0.mk hl440_3
        clear hi440_3 hl440_3
        replace p440 := eq_true p440
        replace q440 := eq_true q440
        refine start_ (n := 10) (S := fun w' => w'.cell? (ad439.add ((x5_1).toNat * 4)) = some (.int .i64 ((rd_T32 l0 x5_1).f0)) ∧ w'.cell? ⟨(ad439.add ((x5_1).toNat * 4)).block, (ad439.add ((x5_1).toNat * 4)).off + 1, none⟩ = some (.slice A439_1 ((rd_T32 l0 x5_1).f1).length c439_1) ∧ w'.cell? ⟨(ad439.add ((x5_1).toNat * 4)).block, (ad439.add ((x5_1).toNat * 4)).off + 2, none⟩ = some (.slice A439_2 ((rd_T32 l0 x5_1).f2).length c439_2) ∧ w'.cell? ⟨(ad439.add ((x5_1).toNat * 4)).block, (ad439.add ((x5_1).toNat * 4)).off + 3, none⟩ = some (.slice A439_3 ((rd_T32 l0 x5_1).f3).length c439_3) ∧ w'.cell? (ad440.add ((x5_1).toNat * 4)) = some (.int .i64 ((rd_T32 l1 x5_1).f0)) ∧ w'.cell? ⟨(ad440.add ((x5_1).toNat * 4)).block, (ad440.add ((x5_1).toNat * 4)).off + 1, none⟩ = some (.slice A440_1 ((rd_T32 l1 x5_1).f1).length c440_1) ∧ w'.cell? ⟨(ad440.add ((x5_1).toNat * 4)).block, (ad440.add ((x5_1).toNat * 4)).off + 2, none⟩ = some (.slice A440_2 ((rd_T32 l1 x5_1).f2).length c440_2) ∧ w'.cell? ⟨(ad440.add ((x5_1).toNat * 4)).block, (ad440.add ((x5_1).toNat * 4)).off + 3, none⟩ = some (.slice A440_3 ((rd_T32 l1 x5_1).f3).length c440_3)) (ds := []) #[false, false, false, false, false, false, false, false, false, false] J8 rfl rfl ⟨((HB.out.cell (World.block_lt_of_cell? w _ hw439_0)).trans hw439_0), ((HB.out.cell (World.block_lt_of_cell? w _ hw439_1)).trans hw439_1), ((HB.out.cell (World.block_lt_of_cell? w _ hw439_2)).trans hw439_2), ((HB.out.cell (World.block_lt_of_cell? w _ hw439_3)).trans hw439_3), ((HB.out.cell (World.block_lt_of_cell? w _ hw440_0)).trans hw440_0), ((HB.out.cell (World.block_lt_of_cell? w _ hw440_1)).trans hw440_1), ((HB.out.cell (World.block_lt_of_cell? w _ hw440_2)).trans hw440_2), ((HB.out.cell (World.block_lt_of_cell? w _ hw440_3)).trans hw440_3)⟩ (fun hHeld => ?_); refine with_tabW deckleref10_Same.tab6 deckleref10_Same.bits6 (fun HT_ HW_ => ?_)
        generalize wr.drew = w11 at HB HR439_1 HR439_2 HR439_3 HR440_1 HR440_2 HR440_3 hx439_0 hx439_1 hx439_2 hx439_3 hx440_0 hx440_1 hx440_2 hx440_3 hHeld ⊢
        refine pure_ (i := 0) (N := some 17) (v := ?_) (a' := ?_) #[true, false, false, false, false, false, false, false, false, false] rfl rfl (any_of HT_.out J8) (fun _ _ _ h => h) (Or.inl ⟨J47, ?_⟩) ?_ ?_
        rotate_left
        · intro w'
          go_simp
          with_reducible rfl
        rotate_left
        · simp only [Act.put, List.setIfInBounds_toArray, List.set_cons_zero, List.set_cons_succ, i64_w, i32_w]
          rfl
        refine pure_ (i := 1) (N := some 18) (v := ?_) (a' := ?_) #[true, true, false, false, false, false, false, false, false, false] rfl rfl (any_of HT_.out J8) (fun _ _ _ h => h) (Or.inl ⟨J47, ?_⟩) ?_ ?_
        rotate_left
        · intro w'
          go_simp
          with_reducible rfl
        rotate_left
        · simp only [Act.put, List.setIfInBounds_toArray, List.set_cons_zero, List.set_cons_succ, i64_w, i32_w]
          rfl
        refine pure_ (i := 2) (N := some 19) (v := ?_) (a' := ?_) #[true, true, true, false, false, false, false, false, false, false] rfl rfl (any_of HT_.out J8) (fun _ _ _ h => h) (Or.inl ⟨J47, ?_⟩) ?_ ?_
        rotate_left
        · intro w'
          go_simp
          with_reducible rfl
        rotate_left
        · simp only [Act.put, List.setIfInBounds_toArray, List.set_cons_zero, List.set_cons_succ, i64_w, i32_w]
          rfl
        refine pure_ (i := 4) (N := some 21) (v := ?_) (a' := ?_) #[true, true, true, false, true, false, false, false, false, false] rfl rfl (any_of HT_.out J8) (fun _ _ _ h => h) (Or.inl ⟨J47, ?_⟩) ?_ ?_
        rotate_left
        · intro w'
          go_simp
          with_reducible rfl
        rotate_left
        · simp only [Act.put, List.setIfInBounds_toArray, List.set_cons_zero, List.set_cons_succ, i64_w, i32_w]
          rfl
        refine pure_ (i := 5) (N := some 22) (v := ?_) (a' := ?_) #[true, true, true, false, true, true, false, false, false, false] rfl rfl (any_of HT_.out J8) (fun _ _ _ h => h) (Or.inl ⟨J47, ?_⟩) ?_ ?_
        rotate_left
        · intro w'
          go_simp
          with_reducible rfl
        rotate_left
        · simp only [Act.put, List.setIfInBounds_toArray, List.set_cons_zero, List.set_cons_succ, i64_w, i32_w]
          rfl
        refine pure_ (i := 6) (N := some 23) (v := ?_) (a' := ?_) #[true, true, true, false, true, true, true, false, false, false] rfl rfl (any_of HT_.out J8) (fun _ _ _ h => h) (Or.inl ⟨J47, ?_⟩) ?_ ?_
        rotate_left
        · intro w'
          go_simp
          with_reducible rfl
        rotate_left
        · simp only [Act.put, List.setIfInBounds_toArray, List.set_cons_zero, List.set_cons_succ, i64_w, i32_w]
          rfl
        refine take_ (i := 3) (N := some 20) (v := ?_) (a' := ?_) #[true, true, true, true, true, true, true, false, false, false] rfl rfl (take_ofW HT_.out HW_.out J8) (fun _ _ _ h => h) (Or.inl ⟨J47, ?_⟩) hHeld ?_ ?_
        rotate_left
        · rintro w' ⟨s0, s1, s2, s3, s4, s5, s6, s7⟩
          go_simp
          with_reducible rfl
        rotate_left
        · simp only [Act.put, List.setIfInBounds_toArray, List.set_cons_zero, List.set_cons_succ, i64_w, i32_w]
          rfl
        refine take_ (i := 7) (N := some 24) (v := ?_) (a' := ?_) #[true, true, true, true, true, true, true, true, false, false] rfl rfl (take_ofW HT_.out HW_.out J8) (fun _ _ _ h => h) (Or.inl ⟨J47, ?_⟩) hHeld ?_ ?_
        rotate_left
        · rintro w' ⟨s0, s1, s2, s3, s4, s5, s6, s7⟩
          go_simp
          with_reducible rfl
        rotate_left
        · simp only [Act.put, List.setIfInBounds_toArray, List.set_cons_zero, List.set_cons_succ, i64_w, i32_w]
          rfl
        refine one_ (i := 8) (N := some 25) #[true, true, true, true, true, true, true, true, true, false] rfl rfl (one_of HT_.out J8) J21 (fun K hK => ?_)
        refine goes_ Try.func30 J8 rfl #[.agg #[.int .i64 ((rd_T32 l0 x5_1).f0), .slice A439_1 ((rd_T32 l0 x5_1).f1).length c439_1, .slice A439_2 ((rd_T32 l0 x5_1).f2).length c439_2, .slice A439_3 ((rd_T32 l0 x5_1).f3).length c439_3], .agg #[.int .i64 ((rd_T32 l1 x5_1).f0), .slice A440_1 ((rd_T32 l1 x5_1).f1).length c440_1, .slice A440_2 ((rd_T32 l1 x5_1).f2).length c440_2, .slice A440_3 ((rd_T32 l1 x5_1).f3).length c440_3]] J47 rfl rfl J1 ?_
        with_reducible refine (deckleref10_One.calls k1 ((rd_T32 l0 x5_1).f0) _ _ ((rd_T32 l0 x5_1).f1) _ _ ((rd_T32 l0 x5_1).f2) _ _ ((rd_T32 l0 x5_1).f3) ((rd_T32 l1 x5_1).f0) _ _ ((rd_T32 l1 x5_1).f1) _ _ ((rd_T32 l1 x5_1).f2) _ _ ((rd_T32 l1 x5_1).f3) false _ ?side1 ?side2 ?side3 ?side4 ?side5 ?side6 ?side7 ?side8 ?side9 ?side10 ?side11 ?side12 A7.out).mono ?_
        (case side1 => repeat (first | exact (Kd.C_below HR439_1.out HB.out) | (with_reducible refine Kd.C_alloc ?_ _) | (with_reducible refine Kd.C_drewN ?_ _) | (with_reducible refine Kd.C_drew ?_)))
        (case side2 => exact HC439_1.out)
        (case side3 => repeat (first | exact (Kd.C_below HR439_2.out HB.out) | (with_reducible refine Kd.C_alloc ?_ _) | (with_reducible refine Kd.C_drewN ?_ _) | (with_reducible refine Kd.C_drew ?_)))
        (case side4 => exact HC439_2.out)
        (case side5 => repeat (first | exact (Kd.C_below HR439_3.out HB.out) | (with_reducible refine Kd.C_alloc ?_ _) | (with_reducible refine Kd.C_drewN ?_ _) | (with_reducible refine Kd.C_drew ?_)))
        (case side6 => exact HC439_3.out)
        (case side7 => repeat (first | exact (Kd.C_below HR440_1.out HB.out) | (with_reducible refine Kd.C_alloc ?_ _) | (with_reducible refine Kd.C_drewN ?_ _) | (with_reducible refine Kd.C_drew ?_)))
        (case side8 => exact HC440_1.out)
        (case side9 => repeat (first | exact (Kd.C_below HR440_2.out HB.out) | (with_reducible refine Kd.C_alloc ?_ _) | (with_reducible refine Kd.C_drewN ?_ _) | (with_reducible refine Kd.C_drew ?_)))
        (case side10 => exact HC440_2.out)
        (case side11 => repeat (first | exact (Kd.C_below HR440_3.out HB.out) | (with_reducible refine Kd.C_alloc ?_ _) | (with_reducible refine Kd.C_drewN ?_ _) | (with_reducible refine Kd.C_drew ?_)))
        (case side12 => exact HC440_3.out)
        rintro e w12 ⟨rfl, hb⟩
        refine ⟨_, rfl, ?_⟩
        have n0_ := Aside0.mk (below_step J0 hb)
        clear HB
        have HB := n0_
        clear n0_
        (try clear hb)
        (try clear hb2)
        (try clear hk)
        (try clear hi)
        refine hK.out _ _ ⟨((HB.out.cell (World.block_lt_of_cell? w _ hw439_0)).trans hw439_0), ((HB.out.cell (World.block_lt_of_cell? w _ hw439_1)).trans hw439_1), ((HB.out.cell (World.block_lt_of_cell? w _ hw439_2)).trans hw439_2), ((HB.out.cell (World.block_lt_of_cell? w _ hw439_3)).trans hw439_3), ((HB.out.cell (World.block_lt_of_cell? w _ hw440_0)).trans hw440_0), ((HB.out.cell (World.block_lt_of_cell? w _ hw440_1)).trans hw440_1), ((HB.out.cell (World.block_lt_of_cell? w _ hw440_2)).trans hw440_2), ((HB.out.cell (World.block_lt_of_cell? w _ hw440_3)).trans hw440_3)⟩ (fun hHeld => ?_)
        clear hK K
        refine norm_ (a' := ?_) ?_ ?_
        rotate_left
        · show Act.put _ (some 25) _ = _
          simp only [Act.put, List.setIfInBounds_toArray, List.set_cons_zero, List.set_cons_succ, i64_w, i32_w]
          rfl
        refine pure_ (i := 9) (N := some 26) (v := ?_) (a' := ?_) #[true, true, true, true, true, true, true, true, true, true] rfl rfl (any_of HT_.out J8) (fun _ _ _ h => h) (Or.inl ⟨J47, ?_⟩) ?_ ?_
        rotate_left
        · intro w'
          go_simp
          with_reducible rfl
        rotate_left
        · simp only [Act.put, List.setIfInBounds_toArray, List.set_cons_zero, List.set_cons_succ, i64_w, i32_w]
          rfl
        refine done_ (done_of HT_.out J8) ?_
        try go_wp2
        go_ret
        exact ⟨J3, J0⟩
      subst c8
      have H1 : (deckleref10_Same.l0 k1 l0 l1 (wrap64 (x5_1 + 1))) = some r := J17
      clear H
      have H := H1
      clear H1
      have H' := Aside0.mk H
      clear H
      try go_wp2
      have n0_ := Aside0.mk (below_drew1 HB.out)
      clear HB
      have HB := n0_
      clear n0_
      have p439 : 0 ≤ (x5_1 : Int) := of_decide_eq_true J2
      have q439 : x5_1 < (l0.length : Int) := of_decide_eq_true J2
      obtain ⟨ad439, A439_1, c439_1, A439_2, c439_2, A439_3, c439_3, e439, hx439_0, hx439_1, hx439_2, hx439_3, hl439_1, hi439_1, hl439_2, hi439_2, hl439_3, hi439_3⟩ := at_T32 HR0.out x5_1 p439 q439
      have hw439_3 := hx439_3
      have hw439_2 := hx439_2
      have hw439_1 := hx439_1
      have hw439_0 := hx439_0
      cases e439
      replace hx439_0 := (HB.out.cell (World.block_lt_of_cell? w _ hx439_0)).trans hx439_0
      replace hx439_1 := (HB.out.cell (World.block_lt_of_cell? w _ hx439_1)).trans hx439_1
      replace hx439_2 := (HB.out.cell (World.block_lt_of_cell? w _ hx439_2)).trans hx439_2
      replace hx439_3 := (HB.out.cell (World.block_lt_of_cell? w _ hx439_3)).trans hx439_3
      have HR439_1 := Aside0.mk hi439_1
      have HC439_1 := Aside0.mk hl439_1
      clear hi439_1 hl439_1
      have HR439_2 := Aside0.mk hi439_2
      have HC439_2 := Aside0.mk hl439_2
      clear hi439_2 hl439_2
      have HR439_3 := Aside0.mk hi439_3
      have HC439_3 := Aside0.mk hl439_3
      clear hi439_3 hl439_3
      replace p439 := eq_true p439
      replace q439 := eq_true q439
      have p440 : 0 ≤ (x5_1 : Int) := of_decide_eq_true J2
      have q440 : x5_1 < (l1.length : Int) := of_decide_eq_true J2
      obtain ⟨ad440, A440_1, c440_1, A440_2, c440_2, A440_3, c440_3, e440, hx440_0, hx440_1, hx440_2, hx440_3, hl440_1, hi440_1, hl440_2, hi440_2, hl440_3, hi440_3⟩ := at_T32 HR1.out x5_1 p440 q440
      have hw440_3 := hx440_3
      have hw440_2 := hx440_2
      have hw440_1 := hx440_1
      have hw440_0 := hx440_0
      cases e440
      replace hx440_0 := (HB.out.cell (World.block_lt_of_cell? w _ hx440_0)).trans hx440_0
      replace hx440_1 := (HB.out.cell (World.block_lt_of_cell? w _ hx440_1)).trans hx440_1
      replace hx440_2 := (HB.out.cell (World.block_lt_of_cell? w _ hx440_2)).trans hx440_2
      replace hx440_3 := (HB.out.cell (World.block_lt_of_cell? w _ hx440_3)).trans hx440_3
      have HR440_1 := Aside0.mk hi440_1
      have HC440_1 := Aside0.mk hl440_1
      clear hi440_1 hl440_1
      have HR440_2 := Aside0.mk hi440_2
      have HC440_2 := Aside0.mk hl440_2
      clear hi440_2 hl440_2
      have HR440_3 := Aside0.mk hi440_3
      have HC440_3 := Aside0.mk hl440_3
      clear hi440_3 hl440_3
      replace p440 := eq_true p440
      replace q440 := eq_true q440
      refine start_ (n := 10) (S := fun w' => w'.cell? (ad439.add ((x5_1).toNat * 4)) = some (.int .i64 ((rd_T32 l0 x5_1).f0)) ∧ w'.cell? ⟨(ad439.add ((x5_1).toNat * 4)).block, (ad439.add ((x5_1).toNat * 4)).off + 1, none⟩ = some (.slice A439_1 ((rd_T32 l0 x5_1).f1).length c439_1) ∧ w'.cell? ⟨(ad439.add ((x5_1).toNat * 4)).block, (ad439.add ((x5_1).toNat * 4)).off + 2, none⟩ = some (.slice A439_2 ((rd_T32 l0 x5_1).f2).length c439_2) ∧ w'.cell? ⟨(ad439.add ((x5_1).toNat * 4)).block, (ad439.add ((x5_1).toNat * 4)).off + 3, none⟩ = some (.slice A439_3 ((rd_T32 l0 x5_1).f3).length c439_3) ∧ w'.cell? (ad440.add ((x5_1).toNat * 4)) = some (.int .i64 ((rd_T32 l1 x5_1).f0)) ∧ w'.cell? ⟨(ad440.add ((x5_1).toNat * 4)).block, (ad440.add ((x5_1).toNat * 4)).off + 1, none⟩ = some (.slice A440_1 ((rd_T32 l1 x5_1).f1).length c440_1) ∧ w'.cell? ⟨(ad440.add ((x5_1).toNat * 4)).block, (ad440.add ((x5_1).toNat * 4)).off + 2, none⟩ = some (.slice A440_2 ((rd_T32 l1 x5_1).f2).length c440_2) ∧ w'.cell? ⟨(ad440.add ((x5_1).toNat * 4)).block, (ad440.add ((x5_1).toNat * 4)).off + 3, none⟩ = some (.slice A440_3 ((rd_T32 l1 x5_1).f3).length c440_3)) (ds := []) #[false, false, false, false, false, false, false, false, false, false] J8 rfl rfl ⟨((HB.out.cell (World.block_lt_of_cell? w _ hw439_0)).trans hw439_0), ((HB.out.cell (World.block_lt_of_cell? w _ hw439_1)).trans hw439_1), ((HB.out.cell (World.block_lt_of_cell? w _ hw439_2)).trans hw439_2), ((HB.out.cell (World.block_lt_of_cell? w _ hw439_3)).trans hw439_3), ((HB.out.cell (World.block_lt_of_cell? w _ hw440_0)).trans hw440_0), ((HB.out.cell (World.block_lt_of_cell? w _ hw440_1)).trans hw440_1), ((HB.out.cell (World.block_lt_of_cell? w _ hw440_2)).trans hw440_2), ((HB.out.cell (World.block_lt_of_cell? w _ hw440_3)).trans hw440_3)⟩ (fun hHeld => ?_); refine with_tabW deckleref10_Same.tab6 deckleref10_Same.bits6 (fun HT_ HW_ => ?_)
      generalize wr.drew = w9 at HB HR439_1 HR439_2 HR439_3 HR440_1 HR440_2 HR440_3 hx439_0 hx439_1 hx439_2 hx439_3 hx440_0 hx440_1 hx440_2 hx440_3 hHeld ⊢
      refine pure_ (i := 0) (N := some 17) (v := ?_) (a' := ?_) #[true, false, false, false, false, false, false, false, false, false] rfl rfl (any_of HT_.out J8) (fun _ _ _ h => h) (Or.inl ⟨J47, ?_⟩) ?_ ?_
      rotate_left
      · intro w'
        go_simp
        with_reducible rfl
      rotate_left
      · simp only [Act.put, List.setIfInBounds_toArray, List.set_cons_zero, List.set_cons_succ, i64_w, i32_w]
        rfl
      refine pure_ (i := 1) (N := some 18) (v := ?_) (a' := ?_) #[true, true, false, false, false, false, false, false, false, false] rfl rfl (any_of HT_.out J8) (fun _ _ _ h => h) (Or.inl ⟨J47, ?_⟩) ?_ ?_
      rotate_left
      · intro w'
        go_simp
        with_reducible rfl
      rotate_left
      · simp only [Act.put, List.setIfInBounds_toArray, List.set_cons_zero, List.set_cons_succ, i64_w, i32_w]
        rfl
      refine pure_ (i := 2) (N := some 19) (v := ?_) (a' := ?_) #[true, true, true, false, false, false, false, false, false, false] rfl rfl (any_of HT_.out J8) (fun _ _ _ h => h) (Or.inl ⟨J47, ?_⟩) ?_ ?_
      rotate_left
      · intro w'
        go_simp
        with_reducible rfl
      rotate_left
      · simp only [Act.put, List.setIfInBounds_toArray, List.set_cons_zero, List.set_cons_succ, i64_w, i32_w]
        rfl
      refine pure_ (i := 4) (N := some 21) (v := ?_) (a' := ?_) #[true, true, true, false, true, false, false, false, false, false] rfl rfl (any_of HT_.out J8) (fun _ _ _ h => h) (Or.inl ⟨J47, ?_⟩) ?_ ?_
      rotate_left
      · intro w'
        go_simp
        with_reducible rfl
      rotate_left
      · simp only [Act.put, List.setIfInBounds_toArray, List.set_cons_zero, List.set_cons_succ, i64_w, i32_w]
        rfl
      refine pure_ (i := 5) (N := some 22) (v := ?_) (a' := ?_) #[true, true, true, false, true, true, false, false, false, false] rfl rfl (any_of HT_.out J8) (fun _ _ _ h => h) (Or.inl ⟨J47, ?_⟩) ?_ ?_
      rotate_left
      · intro w'
        go_simp
        with_reducible rfl
      rotate_left
      · simp only [Act.put, List.setIfInBounds_toArray, List.set_cons_zero, List.set_cons_succ, i64_w, i32_w]
        rfl
      refine pure_ (i := 6) (N := some 23) (v := ?_) (a' := ?_) #[true, true, true, false, true, true, true, false, false, false] rfl rfl (any_of HT_.out J8) (fun _ _ _ h => h) (Or.inl ⟨J47, ?_⟩) ?_ ?_
      rotate_left
      · intro w'
        go_simp
        with_reducible rfl
      rotate_left
      · simp only [Act.put, List.setIfInBounds_toArray, List.set_cons_zero, List.set_cons_succ, i64_w, i32_w]
        rfl
      refine take_ (i := 3) (N := some 20) (v := ?_) (a' := ?_) #[true, true, true, true, true, true, true, false, false, false] rfl rfl (take_ofW HT_.out HW_.out J8) (fun _ _ _ h => h) (Or.inl ⟨J47, ?_⟩) hHeld ?_ ?_
      rotate_left
      · rintro w' ⟨s0, s1, s2, s3, s4, s5, s6, s7⟩
        go_simp
        with_reducible rfl
      rotate_left
      · simp only [Act.put, List.setIfInBounds_toArray, List.set_cons_zero, List.set_cons_succ, i64_w, i32_w]
        rfl
      refine take_ (i := 7) (N := some 24) (v := ?_) (a' := ?_) #[true, true, true, true, true, true, true, true, false, false] rfl rfl (take_ofW HT_.out HW_.out J8) (fun _ _ _ h => h) (Or.inl ⟨J47, ?_⟩) hHeld ?_ ?_
      rotate_left
      · rintro w' ⟨s0, s1, s2, s3, s4, s5, s6, s7⟩
        go_simp
        with_reducible rfl
      rotate_left
      · simp only [Act.put, List.setIfInBounds_toArray, List.set_cons_zero, List.set_cons_succ, i64_w, i32_w]
        rfl
      refine one_ (i := 8) (N := some 25) #[true, true, true, true, true, true, true, true, true, false] rfl rfl (one_of HT_.out J8) J21 (fun K hK => ?_)
      refine goes_ Try.func30 J8 rfl #[.agg #[.int .i64 ((rd_T32 l0 x5_1).f0), .slice A439_1 ((rd_T32 l0 x5_1).f1).length c439_1, .slice A439_2 ((rd_T32 l0 x5_1).f2).length c439_2, .slice A439_3 ((rd_T32 l0 x5_1).f3).length c439_3], .agg #[.int .i64 ((rd_T32 l1 x5_1).f0), .slice A440_1 ((rd_T32 l1 x5_1).f1).length c440_1, .slice A440_2 ((rd_T32 l1 x5_1).f2).length c440_2, .slice A440_3 ((rd_T32 l1 x5_1).f3).length c440_3]] J47 rfl rfl J1 ?_
      with_reducible refine (deckleref10_One.calls k1 ((rd_T32 l0 x5_1).f0) _ _ ((rd_T32 l0 x5_1).f1) _ _ ((rd_T32 l0 x5_1).f2) _ _ ((rd_T32 l0 x5_1).f3) ((rd_T32 l1 x5_1).f0) _ _ ((rd_T32 l1 x5_1).f1) _ _ ((rd_T32 l1 x5_1).f2) _ _ ((rd_T32 l1 x5_1).f3) true _ ?side1 ?side2 ?side3 ?side4 ?side5 ?side6 ?side7 ?side8 ?side9 ?side10 ?side11 ?side12 A7.out).mono ?_
      (case side1 => repeat (first | exact (Kd.C_below HR439_1.out HB.out) | (with_reducible refine Kd.C_alloc ?_ _) | (with_reducible refine Kd.C_drewN ?_ _) | (with_reducible refine Kd.C_drew ?_)))
      (case side2 => exact HC439_1.out)
      (case side3 => repeat (first | exact (Kd.C_below HR439_2.out HB.out) | (with_reducible refine Kd.C_alloc ?_ _) | (with_reducible refine Kd.C_drewN ?_ _) | (with_reducible refine Kd.C_drew ?_)))
      (case side4 => exact HC439_2.out)
      (case side5 => repeat (first | exact (Kd.C_below HR439_3.out HB.out) | (with_reducible refine Kd.C_alloc ?_ _) | (with_reducible refine Kd.C_drewN ?_ _) | (with_reducible refine Kd.C_drew ?_)))
      (case side6 => exact HC439_3.out)
      (case side7 => repeat (first | exact (Kd.C_below HR440_1.out HB.out) | (with_reducible refine Kd.C_alloc ?_ _) | (with_reducible refine Kd.C_drewN ?_ _) | (with_reducible refine Kd.C_drew ?_)))
      (case side8 => exact HC440_1.out)
      (case side9 => repeat (first | exact (Kd.C_below HR440_2.out HB.out) | (with_reducible refine Kd.C_alloc ?_ _) | (with_reducible refine Kd.C_drewN ?_ _) | (with_reducible refine Kd.C_drew ?_)))
      (case side10 => exact HC440_2.out)
      (case side11 => repeat (first | exact (Kd.C_below HR440_3.out HB.out) | (with_reducible refine Kd.C_alloc ?_ _) | (with_reducible refine Kd.C_drewN ?_ _) | (with_reducible refine Kd.C_drew ?_)))
      (case side12 => exact HC440_3.out)
      rintro e w10 ⟨rfl, hb⟩
      refine ⟨_, rfl, ?_⟩
      have n0_ := Aside0.mk (below_step J0 hb)
      clear HB
      have HB := n0_
      clear n0_
      (try clear hb)
      (try clear hb2)
      (try clear hk)
      (try clear hi)
      refine hK.out _ _ ⟨((HB.out.cell (World.block_lt_of_cell? w _ hw439_0)).trans hw439_0), ((HB.out.cell (World.block_lt_of_cell? w _ hw439_1)).trans hw439_1), ((HB.out.cell (World.block_lt_of_cell? w _ hw439_2)).trans hw439_2), ((HB.out.cell (World.block_lt_of_cell? w _ hw439_3)).trans hw439_3), ((HB.out.cell (World.block_lt_of_cell? w _ hw440_0)).trans hw440_0), ((HB.out.cell (World.block_lt_of_cell? w _ hw440_1)).trans hw440_1), ((HB.out.cell (World.block_lt_of_cell? w _ hw440_2)).trans hw440_2), ((HB.out.cell (World.block_lt_of_cell? w _ hw440_3)).trans hw440_3)⟩ (fun hHeld => ?_)
      clear hK K
      refine norm_ (a' := ?_) ?_ ?_
      rotate_left
      · show Act.put _ (some 25) _ = _
        simp only [Act.put, List.setIfInBounds_toArray, List.set_cons_zero, List.set_cons_succ, i64_w, i32_w]
        rfl
      refine pure_ (i := 9) (N := some 26) (v := ?_) (a' := ?_) #[true, true, true, true, true, true, true, true, true, true] rfl rfl (any_of HT_.out J8) (fun _ _ _ h => h) (Or.inl ⟨J47, ?_⟩) ?_ ?_
      rotate_left
      · intro w'
        go_simp
        with_reducible rfl
      rotate_left
      · simp only [Act.put, List.setIfInBounds_toArray, List.set_cons_zero, List.set_cons_succ, i64_w, i32_w]
        rfl
      refine done_ (done_of HT_.out J8) ?_
      try go_wp2
      go_roundg k1
      case measure => have := HK1.out; omega
      case rel => exact ⟨(wrap64 (x5_1 + 1)), J4, H', ⟨J51⟩, ⟨J0⟩⟩
def deckleref10_Items.f (k : Nat) (l0 : List (S32)) : Option (Int) := (deckleref10_Right.f k l0).bind fun t442 => (if t442 = true then ((deckleref10_first.f k l0 16).bind fun bt443 => (some bt443.2.1)) else (some 0))
set_option maxHeartbeats 8000000 in
set_option maxRecDepth 100000 in
theorem deckleref10_Items.calls (k : Nat) (A0 : Option Addr) (c0 : Nat) (l0 : List (S32)) (r : Int) (w : World) (hr0 : Kd.C k32 w A0 l0.length l0) (hc0 : l0.length ≤ c0) (h : deckleref10_Items.f k l0 = some r) :
    Calls Try.prog 19 #[.slice A0 l0.length c0] w fun e w' => e = .returned (.int .i64 r) ∧ Below w.heap.size w w' := by
  have HR0 := Aside0.mk hr0
  have HC0 := Aside0.mk hc0
  clear hr0 hc0
  have HB := Aside0.mk (Below.refl w.heap.size w)
  have H : ((deckleref10_Right.f k l0).bind fun t442 => (if t442 = true then ((deckleref10_first.f k l0 16).bind fun bt443 => (some bt443.2.1)) else (some 0))) = some r := h
  clear h
  replace H := Option.bind_eq_some_iff.mp H
  obtain ⟨t442, A20, H⟩ := H
  have A2 := Aside0.mk A20
  clear A20
  by_cases c3 : t442 = true
  rotate_left
  · replace c3 := Bool.eq_false_iff.mpr c3
    subst c3
    have H1 : (some 0) = some r := J10
    clear H
    have H := H1
    clear H1
    obtain rfl := Option.some.inj H
    go_enter Try.func19, Try.ntmps19
    go_wp2_with (first | ((with_reducible refine gate_callee (f := 15) rfl ?_); refine goesL_ (some 7) rfl rfl Try.func15 J8 rfl #[.slice A0 l0.length c0] rfl J1 ?_; (with_reducible refine (deckleref10_Right.calls k _ _ l0 false _ ?side1 ?side2 A2.out).mono ?_); (case side1 => repeat (first | exact HR0.out | (with_reducible refine Kd.C_alloc ?_ _) | (with_reducible refine Kd.C_drewN ?_ _) | (with_reducible refine Kd.C_drew ?_))); (case side2 => exact HC0.out); rintro e w7 ⟨rfl, hb⟩; refine ⟨_, rfl, ?_⟩; have n0_ := Aside0.mk (below_step J0 hb); clear HB; have HB := n0_; clear n0_; (try clear hb); (try clear hb2); (try clear hk); (try clear hi)))
    go_ret
    exact ⟨J3, J0⟩
  subst c3
  have H1 : ((deckleref10_first.f k l0 16).bind fun bt443 => (some bt443.2.1)) = some r := J17
  clear H
  have H := H1
  clear H1
  replace H := Option.bind_eq_some_iff.mp H
  obtain ⟨⟨t443, t444, t445⟩, A40, H⟩ := H
  replace H : (some t444) = some r := H
  have A4 := Aside0.mk A40
  clear A40
  obtain rfl := Option.some.inj H
  go_enter Try.func19, Try.ntmps19
  go_wp2_with (first | ((with_reducible refine gate_callee (f := 15) rfl ?_); refine goesL_ (some 7) rfl rfl Try.func15 J8 rfl #[.slice A0 l0.length c0] rfl J1 ?_; (with_reducible refine (deckleref10_Right.calls k _ _ l0 true _ ?side1 ?side2 A2.out).mono ?_); (case side1 => repeat (first | exact HR0.out | (with_reducible refine Kd.C_alloc ?_ _) | (with_reducible refine Kd.C_drewN ?_ _) | (with_reducible refine Kd.C_drew ?_))); (case side2 => exact HC0.out); rintro e w5 ⟨rfl, hb⟩; refine ⟨_, rfl, ?_⟩; have n0_ := Aside0.mk (below_step J0 hb); clear HB; have HB := n0_; clear n0_; (try clear hb); (try clear hb2); (try clear hk); (try clear hi)) | ((with_reducible refine gate_callee (f := 28) rfl ?_); refine goesL_ (some 11) rfl rfl Try.func28 J8 rfl #[.slice A0 l0.length c0, .int .i64 16] rfl J1 ?_; (with_reducible refine (deckleref10_first.calls k _ _ l0 16 t443 t444 t445 _ ?side1 ?side2 A4.out).mono ?_); (case side1 => repeat (first | exact (Kd.C_below HR0.out HB.out) | (with_reducible refine Kd.C_alloc ?_ _) | (with_reducible refine Kd.C_drewN ?_ _) | (with_reducible refine Kd.C_drew ?_))); (case side2 => exact HC0.out); rintro e w6 ⟨rfl, hb⟩; refine ⟨_, rfl, ?_⟩; have n0_ := Aside0.mk (below_step J0 hb); clear HB; have HB := n0_; clear n0_; (try clear hb); (try clear hb2); (try clear hk); (try clear hi)))
  go_ret
  exact ⟨J3, J0⟩
def deckleref10_Depth.f (k : Nat) (l0 : List (S32)) : Option (Int) := (deckleref10_Right.f k l0).bind fun t446 => (if t446 = true then ((deckleref10_first.f k l0 16).bind fun bt447 => (some bt447.2.2)) else (some 0))
set_option maxHeartbeats 8000000 in
set_option maxRecDepth 100000 in
theorem deckleref10_Depth.calls (k : Nat) (A0 : Option Addr) (c0 : Nat) (l0 : List (S32)) (r : Int) (w : World) (hr0 : Kd.C k32 w A0 l0.length l0) (hc0 : l0.length ≤ c0) (h : deckleref10_Depth.f k l0 = some r) :
    Calls Try.prog 21 #[.slice A0 l0.length c0] w fun e w' => e = .returned (.int .i64 r) ∧ Below w.heap.size w w' := by
  have HR0 := Aside0.mk hr0
  have HC0 := Aside0.mk hc0
  clear hr0 hc0
  have HB := Aside0.mk (Below.refl w.heap.size w)
  have H : ((deckleref10_Right.f k l0).bind fun t446 => (if t446 = true then ((deckleref10_first.f k l0 16).bind fun bt447 => (some bt447.2.2)) else (some 0))) = some r := h
  clear h
  replace H := Option.bind_eq_some_iff.mp H
  obtain ⟨t446, A20, H⟩ := H
  have A2 := Aside0.mk A20
  clear A20
  by_cases c3 : t446 = true
  rotate_left
  · replace c3 := Bool.eq_false_iff.mpr c3
    subst c3
    have H1 : (some 0) = some r := J10
    clear H
    have H := H1
    clear H1
    obtain rfl := Option.some.inj H
    go_enter Try.func21, Try.ntmps21
    go_wp2_with (first | ((with_reducible refine gate_callee (f := 15) rfl ?_); refine goesL_ (some 7) rfl rfl Try.func15 J8 rfl #[.slice A0 l0.length c0] rfl J1 ?_; (with_reducible refine (deckleref10_Right.calls k _ _ l0 false _ ?side1 ?side2 A2.out).mono ?_); (case side1 => repeat (first | exact HR0.out | (with_reducible refine Kd.C_alloc ?_ _) | (with_reducible refine Kd.C_drewN ?_ _) | (with_reducible refine Kd.C_drew ?_))); (case side2 => exact HC0.out); rintro e w7 ⟨rfl, hb⟩; refine ⟨_, rfl, ?_⟩; have n0_ := Aside0.mk (below_step J0 hb); clear HB; have HB := n0_; clear n0_; (try clear hb); (try clear hb2); (try clear hk); (try clear hi)))
    go_ret
    exact ⟨J3, J0⟩
  subst c3
  have H1 : ((deckleref10_first.f k l0 16).bind fun bt447 => (some bt447.2.2)) = some r := J17
  clear H
  have H := H1
  clear H1
  replace H := Option.bind_eq_some_iff.mp H
  obtain ⟨⟨t447, t448, t449⟩, A40, H⟩ := H
  replace H : (some t449) = some r := H
  have A4 := Aside0.mk A40
  clear A40
  obtain rfl := Option.some.inj H
  go_enter Try.func21, Try.ntmps21
  go_wp2_with (first | ((with_reducible refine gate_callee (f := 15) rfl ?_); refine goesL_ (some 7) rfl rfl Try.func15 J8 rfl #[.slice A0 l0.length c0] rfl J1 ?_; (with_reducible refine (deckleref10_Right.calls k _ _ l0 true _ ?side1 ?side2 A2.out).mono ?_); (case side1 => repeat (first | exact HR0.out | (with_reducible refine Kd.C_alloc ?_ _) | (with_reducible refine Kd.C_drewN ?_ _) | (with_reducible refine Kd.C_drew ?_))); (case side2 => exact HC0.out); rintro e w5 ⟨rfl, hb⟩; refine ⟨_, rfl, ?_⟩; have n0_ := Aside0.mk (below_step J0 hb); clear HB; have HB := n0_; clear n0_; (try clear hb); (try clear hb2); (try clear hk); (try clear hi)) | ((with_reducible refine gate_callee (f := 28) rfl ?_); refine goesL_ (some 11) rfl rfl Try.func28 J8 rfl #[.slice A0 l0.length c0, .int .i64 16] rfl J1 ?_; (with_reducible refine (deckleref10_first.calls k _ _ l0 16 t447 t448 t449 _ ?side1 ?side2 A4.out).mono ?_); (case side1 => repeat (first | exact (Kd.C_below HR0.out HB.out) | (with_reducible refine Kd.C_alloc ?_ _) | (with_reducible refine Kd.C_drewN ?_ _) | (with_reducible refine Kd.C_drew ?_))); (case side2 => exact HC0.out); rintro e w6 ⟨rfl, hb⟩; refine ⟨_, rfl, ?_⟩; have n0_ := Aside0.mk (below_step J0 hb); clear HB; have HB := n0_; clear n0_; (try clear hb); (try clear hb2); (try clear hk); (try clear hi)))
  go_ret
  exact ⟨J3, J0⟩
def deckleref10_Rank.l0 : Nat → List (S32) → Int → Int → Option (Int)
  | 0, _, _, _ => none
  | k + 1, x0, x3, x4 => if x4 < (x0.length : Int) then (if 0 ≤ x4 then (deckleref10_Rank.l0 k x0 (mx x3 (((rd_T32 x0 x4).f1).length : Int)) (wrap64 (x4 + 1))) else (none)) else (some x3)
def deckleref10_Rank.f (k : Nat) (l0 : List (S32)) : Option (Int) := (deckleref10_Right.f k l0).bind fun t450 => (if t450 = true then (deckleref10_Rank.l0 k l0 0 0) else (some 0))
set_option maxHeartbeats 8000000 in
set_option maxRecDepth 100000 in
theorem deckleref10_Rank.calls (k : Nat) (A0 : Option Addr) (c0 : Nat) (l0 : List (S32)) (r : Int) (w : World) (hr0 : Kd.C k32 w A0 l0.length l0) (hc0 : l0.length ≤ c0) (h : deckleref10_Rank.f k l0 = some r) :
    Calls Try.prog 23 #[.slice A0 l0.length c0] w fun e w' => e = .returned (.int .i64 r) ∧ Below w.heap.size w w' := by
  have HR0 := Aside0.mk hr0
  have HC0 := Aside0.mk hc0
  clear hr0 hc0
  have HB := Aside0.mk (Below.refl w.heap.size w)
  have H : ((deckleref10_Right.f k l0).bind fun t450 => (if t450 = true then (deckleref10_Rank.l0 k l0 0 0) else (some 0))) = some r := h
  clear h
  replace H := Option.bind_eq_some_iff.mp H
  obtain ⟨t450, A20, H⟩ := H
  have A2 := Aside0.mk A20
  clear A20
  by_cases c3 : t450 = true
  rotate_left
  · replace c3 := Bool.eq_false_iff.mpr c3
    subst c3
    have H1 : (some 0) = some r := J10
    clear H
    have H := H1
    clear H1
    obtain rfl := Option.some.inj H
    go_enter Try.func23, Try.ntmps23
    go_wp2_with (first | ((with_reducible refine gate_callee (f := 15) rfl ?_); refine goesL_ (some 6) rfl rfl Try.func15 J8 rfl #[.slice A0 l0.length c0] rfl J1 ?_; (with_reducible refine (deckleref10_Right.calls k _ _ l0 false _ ?side1 ?side2 A2.out).mono ?_); (case side1 => repeat (first | exact HR0.out | (with_reducible refine Kd.C_alloc ?_ _) | (with_reducible refine Kd.C_drewN ?_ _) | (with_reducible refine Kd.C_drew ?_))); (case side2 => exact HC0.out); rintro e w8 ⟨rfl, hb⟩; refine ⟨_, rfl, ?_⟩; have n0_ := Aside0.mk (below_step J0 hb); clear HB; have HB := n0_; clear n0_; (try clear hb); (try clear hb2); (try clear hk); (try clear hi)))
    go_ret
    exact ⟨J3, J0⟩
  subst c3
  have H1 : (deckleref10_Rank.l0 k l0 0 0) = some r := J17
  clear H
  have H := H1
  clear H1
  have H' := Aside0.mk H
  clear H
  go_enter Try.func23, Try.ntmps23
  go_wp2_with (first | ((with_reducible refine gate_callee (f := 15) rfl ?_); refine goesL_ (some 6) rfl rfl Try.func15 J8 rfl #[.slice A0 l0.length c0] rfl J1 ?_; (with_reducible refine (deckleref10_Right.calls k _ _ l0 true _ ?side1 ?side2 A2.out).mono ?_); (case side1 => repeat (first | exact HR0.out | (with_reducible refine Kd.C_alloc ?_ _) | (with_reducible refine Kd.C_drewN ?_ _) | (with_reducible refine Kd.C_drew ?_))); (case side2 => exact HC0.out); rintro e w4 ⟨rfl, hb⟩; refine ⟨_, rfl, ?_⟩; have n0_ := Aside0.mk (below_step J0 hb); clear HB; have HB := n0_; clear n0_; (try clear hb); (try clear hb2); (try clear hk); (try clear hi)))
  go_loopg [3, 4] k (fun kq v3 v4 w' => ∃ (x3_1 : Int) (x4_1 : Int), v3 = .int .i64 x3_1 ∧ v4 = .int .i64 x4_1 ∧ Aside0 (deckleref10_Rank.l0 kq l0 x3_1 x4_1 = some r) ∧ Aside0 (kq ≤ k) ∧ Aside0 (Below w.heap.size w w'))
  case atStart => exact ⟨(0), (0), J4, J4, H', ⟨Nat.le_refl _⟩, ⟨J0⟩⟩
  case round =>
    clear H'
    try clear c1
    try clear c2
    try clear p2
    try clear c3
    obtain ⟨x3_1, x4_1, rfl, rfl, HA, HK1, HB⟩ := hrel
    cases gk with
    | zero => exact absurd HA.out (by simp [deckleref10_Rank.l0])
    | succ k1 =>
      have H := HA.out
      clear HA
      simp only [deckleref10_Rank.l0] at H
      by_cases c5 : x4_1 < (l0.length : Int)
      rotate_left
      · rw [if_neg c5] at H
        have c5b0 := decide_eq_false c5
        clear c5
        obtain rfl := Option.some.inj H
        go_wp2
        go_ret
        exact ⟨J3, J0⟩
      rw [if_pos c5] at H
      have c5b0 := decide_eq_true c5
      clear c5
      by_cases c6 : 0 ≤ x4_1
      rotate_left
      · rw [if_neg c6] at H
        exact absurd H J28
      rw [if_pos c6] at H
      have c6b0 := decide_eq_true c6
      clear c6
      obtain ⟨ji7, hji7⟩ : ∃ j_ : Int, (mx x3_1 (((rd_T32 l0 x4_1).f1).length : Int)) = j_ := ⟨_, rfl⟩
      replace H : (deckleref10_Rank.l0 k1 l0 ji7 (wrap64 (x4_1 + 1))) = some r := by first | (rw [hji7] at H; exact H) | (simp only [hji7] at H ⊢; exact H)
      have hji7_ : (if x3_1 < (((rd_T32 l0 x4_1).f1).length : Int) then (((rd_T32 l0 x4_1).f1).length : Int) else x3_1) = ji7 := hji7
      have H' := Aside0.mk H
      clear H
      have p451 : 0 ≤ (x4_1 : Int) := of_decide_eq_true J2
      have q451 : x4_1 < (l0.length : Int) := of_decide_eq_true J2
      obtain ⟨ad451, A451_1, c451_1, A451_2, c451_2, A451_3, c451_3, e451, hx451_0, hx451_1, hx451_2, hx451_3, hl451_1, hi451_1, hl451_2, hi451_2, hl451_3, hi451_3⟩ := at_T32 HR0.out x4_1 p451 q451
      cases e451
      replace hx451_0 := (HB.out.cell (World.block_lt_of_cell? w _ hx451_0)).trans hx451_0
      replace hx451_1 := (HB.out.cell (World.block_lt_of_cell? w _ hx451_1)).trans hx451_1
      replace hx451_2 := (HB.out.cell (World.block_lt_of_cell? w _ hx451_2)).trans hx451_2
      replace hx451_3 := (HB.out.cell (World.block_lt_of_cell? w _ hx451_3)).trans hx451_3
      have HR451_1 := Aside0.mk hi451_1
      have HC451_1 := Aside0.mk hl451_1
      clear hi451_1 hl451_1
      have HR451_2 := Aside0.mk hi451_2
      have HC451_2 := Aside0.mk hl451_2
      clear hi451_2 hl451_2
      have HR451_3 := Aside0.mk hi451_3
      have HC451_3 := Aside0.mk hl451_3
      clear hi451_3 hl451_3
      replace p451 := eq_true p451
      replace q451 := eq_true q451
      go_wp2
      go_roundg k1
      case measure => have := HK1.out; omega
      case rel => exact ⟨(ji7), (wrap64 (x4_1 + 1)), (by first | rfl | (simp; done) | (simp only [← hji7] <;> (first | rfl | simp)) | (simp [*]; done)), J4, H', ⟨J51⟩, ⟨J0⟩⟩
end Go.Proofs.Ytgbmbcippldhnaa.HArrayTells
