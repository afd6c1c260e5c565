/- What the Go functions of this claim answer, told as functions of numbers and lists, and that other memory stays as it was: words and walks, shortened by a program. -/
import Derived.Test.YtfjhiiaahbjaiaaDoorSSystemSignsx0
import Derived.Test.YtfjhiiaahbjaiaaDoorSSystemSignsx18
namespace Go.Proofs.YtfjhiiaahbjaiaaDoor.HSystemSigns
open Go.RowKit Go.Proofs.YtfjhiiaahbjaiaaDoorW.PrintWords Go.Proofs.YtfjhiiaahbjaiaaDoorW.PrintLast Go.Proofs.YtfjhiiaahbjaiaaDoorW.PrintMore
attribute [local go_sem] max2_int min2_int max_two min_two max_three min_three max_four min_four
set_option linter.unusedVariables false
set_option linter.unusedSimpArgs false
def deckleref10_Same.l0 : Nat → List (S32) → List (S32) → Int → Option (Bool)
  | 0, _, _, _ => none
  | k + 1, x0, x1, x5 => if x5 < (x0.length : Int) then (if 0 ≤ x5 then (if x5 < (x1.length : Int) then ((deckleref10_One.f k ((rd_T32 x0 x5).f0) ((rd_T32 x0 x5).f1) ((rd_T32 x0 x5).f2) ((rd_T32 x0 x5).f3) ((rd_T32 x1 x5).f0) ((rd_T32 x1 x5).f1) ((rd_T32 x1 x5).f2) ((rd_T32 x1 x5).f3)).bind fun t541 => (if t541 = true then (deckleref10_Same.l0 k x0 x1 (wrap64 (x5 + 1))) else (some false))) else (none)) else (none)) else (some true)
def deckleref10_Same.f (k : Nat) (l0 : List (S32)) (l1 : List (S32)) : Option (Bool) := if (l0.length : Int) = (l1.length : Int) then (deckleref10_Same.l0 k l0 l1 0) else (some false)
theorem deckleref10_Same.mono_l : ∀ k, (∀ y0 y1 y2, LeO (deckleref10_Same.l0 k y0 y1 y2) (deckleref10_Same.l0 (k + 1) y0 y1 y2))
  | 0 => fun _ _ _ r h => by simp [deckleref10_Same.l0] at h
  | k + 1 => by
    have ih0 := deckleref10_Same.mono_l k
    · intro y0 y1 y2
      unfold deckleref10_Same.l0
      have im0 := @deckleref10_One.mono
      exact mz3
theorem deckleref10_Same.mono : ∀ a0 a1 k, LeO (deckleref10_Same.f k a0 a1) (deckleref10_Same.f (k + 1) a0 a1) := by
  intro a0 a1 k
  have ih0 := deckleref10_Same.mono_l k
  unfold deckleref10_Same.f
  have im0 := @deckleref10_One.mono
  exact mz3
def deckleref10_Same.T6 : Bool × List (List Nat × List Nat) := (true, [([], []), ([], []), ([0, 1], [0, 1]), ([2], [2]), ([], []), ([], []), ([4, 5], [4, 5]), ([6], [6]), ([3, 7], [3, 7]), ([8], [8])])
def deckleref10_Same.B6 : List Nat := [0, 0, 3, 7, 0, 0, 48, 112, 255, 511]
theorem deckleref10_Same.tab6 : rtab .any (opsOf Tryd.f14 6) = deckleref10_Same.T6 := J8
theorem deckleref10_Same.bits6 : waitsOk deckleref10_Same.T6.2 deckleref10_Same.B6 = true := J8
set_option maxHeartbeats 8000000 in
set_option maxRecDepth 100000 in
theorem deckleref10_Same.calls (k : Nat) (A0 : Option Addr) (c0 : Nat) (l0 : List (S32)) (A1 : Option Addr) (c1 : Nat) (l1 : List (S32)) (r : Bool) (w : World) (hr0 : Kd.C k32 w A0 l0.length l0) (hc0 : l0.length ≤ c0) (hr1 : Kd.C k32 w A1 l1.length l1) (hc1 : l1.length ≤ c1) (h : deckleref10_Same.f k l0 l1 = some r) :
    Calls Tryd.prog 14 #[.slice A0 l0.length c0, .slice A1 l1.length c1] w fun e w' => e = .returned (.bool r) ∧ Below w.heap.size w w' := by
  have hu32 := Tryd.underlying32
  have HR0 := zq hr0
  have HC0 := zq hc0
  clear hr0 hc0
  have HR1 := zq hr1
  have HC1 := zq hc1
  clear hr1 hc1
  have HB := zq (Below.refl w.heap.size w)
  have H : (if (l0.length : Int) = (l1.length : Int) then (deckleref10_Same.l0 k l0 l1 0) else (some false)) = some r := h
  clear h
  by_cases c3 : (l0.length : Int) = (l1.length : Int)
  rotate_left
  · rw [if_neg c3] at H
    have c3b0 : ((l0.length : Int) == (l1.length : Int)) = false := beq_eq_false_iff_ne.mpr c3
    have c3b1 : ((l0.length : Int) != (l1.length : Int)) = true := bne_iff_ne.mpr c3
    have c3b2 : (l0.length == l1.length) = false := J42
    obtain rfl := Option.some.inj H
    go_enter Tryd.func14, Tryd.ntmps14
    go_wp2
    go_ret
    exact ⟨J2, J0⟩
  rw [if_pos c3] at H
  have c3b0 : ((l0.length : Int) == (l1.length : Int)) = true := beq_iff_eq.mpr c3
  have c3b1 : ((l0.length : Int) != (l1.length : Int)) = false := bne_eq_false_iff_eq.mpr c3
  have c3b2 : (l0.length == l1.length) = true := J42
  clear c3
  have H' := zq H
  clear H
  go_enter Tryd.func14, Tryd.ntmps14
  go_wp2
  go_loopg [5] k (fun kq v5 w' => ∃ (x5_1 : Int), v5 = .int .i64 x5_1 ∧ Aside0 (deckleref10_Same.l0 kq l0 l1 x5_1 = some r) ∧ Aside0 (kq ≤ k) ∧ Aside0 (Below w.heap.size w w'))
  case atStart => exact ⟨(0), J4, H', ⟨Nat.le_refl _⟩, ⟨J0⟩⟩
  case round =>
    clear H'
    try clear c1
    try clear p2
    try clear c3
    try clear c3b0
    try clear c3b1
    try clear c3b2
    obtain ⟨x5_1, rfl, HA, HK1, HB⟩ := hrel
    cases gk with
    | zero => exact absurd HA.out (by simp [deckleref10_Same.l0])
    | succ k1 =>
      have H := HA.out
      clear HA
      simp only [deckleref10_Same.l0] at H
      by_cases c4 : x5_1 < (l0.length : Int)
      rotate_left
      · rw [if_neg c4] at H
        have c4b0 := decide_eq_false c4
        clear c4
        obtain rfl := Option.some.inj H
        go_wp2
        go_ret
        exact ⟨J2, J0⟩
      rw [if_pos c4] at H
      have c4b0 := decide_eq_true c4
      clear c4
      by_cases c5 : 0 ≤ x5_1
      rotate_left
      · rw [if_neg c5] at H
        exact absurd H J33
      rw [if_pos c5] at H
      have c5b0 := decide_eq_true c5
      clear c5
      by_cases c6 : x5_1 < (l1.length : Int)
      rotate_left
      · rw [if_neg c6] at H
        exact absurd H J33
      rw [if_pos c6] at H
      have c6b0 := decide_eq_true c6
      clear c6
      replace H := Option.bind_eq_some_iff.mp H
      obtain ⟨t541, A70, H⟩ := H
      have A7 := zq A70
      clear A70
      by_cases c8 : t541 = true
      rotate_left
      · replace c8 := Bool.eq_false_iff.mpr c8
        subst c8
        rw [if_neg (show ¬ (false = true) by decide)] at H
        obtain rfl := Option.some.inj H
        try go_wp2
        replace HB := zq (below_drew1 HB.out)
        have p539 : 0 ≤ (x5_1 : Int) := of_decide_eq_true J3
        have q539 : x5_1 < (l0.length : Int) := of_decide_eq_true J3
        obtain ⟨ad539, A539_1, c539_1, A539_2, c539_2, A539_3, c539_3, e539, hx539_0, hx539_1, hx539_2, hx539_3, hl539_1, hi539_1, hl539_2, hi539_2, hl539_3, hi539_3⟩ := at_T32 HR0.out x5_1 p539 q539
        have hw539_3 := hx539_3
        have hw539_2 := hx539_2
        have hw539_1 := hx539_1
        have hw539_0 := hx539_0
        cases e539
        replace hx539_0 := (HB.out.cell (World.block_lt_of_cell? w _ hx539_0)).trans hx539_0
        replace hx539_1 := (HB.out.cell (World.block_lt_of_cell? w _ hx539_1)).trans hx539_1
        replace hx539_2 := (HB.out.cell (World.block_lt_of_cell? w _ hx539_2)).trans hx539_2
        replace hx539_3 := (HB.out.cell (World.block_lt_of_cell? w _ hx539_3)).trans hx539_3
        have HR539_1 := zq hi539_1
        have HC539_1 := zq hl539_1
        clear hi539_1 hl539_1
        have HR539_2 := zq hi539_2
        have HC539_2 := zq hl539_2
        clear hi539_2 hl539_2
        have HR539_3 := zq hi539_3
        have HC539_3 := zq hl539_3
        clear hi539_3 hl539_3
        replace p539 := eq_true p539
        replace q539 := eq_true q539
        have p540 : 0 ≤ (x5_1 : Int) := of_decide_eq_true J3
        have q540 : x5_1 < (l1.length : Int) := of_decide_eq_true J3
        obtain ⟨ad540, A540_1, c540_1, A540_2, c540_2, A540_3, c540_3, e540, hx540_0, hx540_1, hx540_2, hx540_3, hl540_1, hi540_1, hl540_2, hi540_2, hl540_3, hi540_3⟩ := at_T32 HR1.out x5_1 p540 q540
        have hw540_3 := hx540_3
        have hw540_2 := hx540_2
        have hw540_1 := hx540_1
        have hw540_0 := hx540_0
        cases e540
        replace hx540_0 := (HB.out.cell (World.block_lt_of_cell? w _ hx540_0)).trans hx540_0
        replace hx540_1 := (HB.out.cell (World.block_lt_of_cell? w _ hx540_1)).trans hx540_1
        replace hx540_2 := (HB.out.cell (World.block_lt_of_cell? w _ hx540_2)).trans hx540_2
        replace hx540_3 := (HB.out.cell (World.block_lt_of_cell? w _ hx540_3)).trans hx540_3
        have HR540_1 := zq hi540_1
        have HC540_1 := zq hl540_1
        clear hi540_1 hl540_1
        have HR540_2 := zq hi540_2
        have HC540_2 := zq hl540_2
        clear hi540_2 hl540_2
        have HR540_3 := zq hi540_3
        have HC540_3 := zq hl540_3
        clear hi540_3 hl540_3
        replace p540 := eq_true p540
        replace q540 := eq_true q540
        refine start_ (n := 10) (S := fun w' => w'.cell? (ad539.add ((x5_1).toNat * 4)) = some (.int .i64 ((rd_T32 l0 x5_1).f0)) ∧ w'.cell? ⟨(ad539.add ((x5_1).toNat * 4)).block, (ad539.add ((x5_1).toNat * 4)).off + 1, none⟩ = some (.slice A539_1 ((rd_T32 l0 x5_1).f1).length c539_1) ∧ w'.cell? ⟨(ad539.add ((x5_1).toNat * 4)).block, (ad539.add ((x5_1).toNat * 4)).off + 2, none⟩ = some (.slice A539_2 ((rd_T32 l0 x5_1).f2).length c539_2) ∧ w'.cell? ⟨(ad539.add ((x5_1).toNat * 4)).block, (ad539.add ((x5_1).toNat * 4)).off + 3, none⟩ = some (.slice A539_3 ((rd_T32 l0 x5_1).f3).length c539_3) ∧ w'.cell? (ad540.add ((x5_1).toNat * 4)) = some (.int .i64 ((rd_T32 l1 x5_1).f0)) ∧ w'.cell? ⟨(ad540.add ((x5_1).toNat * 4)).block, (ad540.add ((x5_1).toNat * 4)).off + 1, none⟩ = some (.slice A540_1 ((rd_T32 l1 x5_1).f1).length c540_1) ∧ w'.cell? ⟨(ad540.add ((x5_1).toNat * 4)).block, (ad540.add ((x5_1).toNat * 4)).off + 2, none⟩ = some (.slice A540_2 ((rd_T32 l1 x5_1).f2).length c540_2) ∧ w'.cell? ⟨(ad540.add ((x5_1).toNat * 4)).block, (ad540.add ((x5_1).toNat * 4)).off + 3, none⟩ = some (.slice A540_3 ((rd_T32 l1 x5_1).f3).length c540_3)) (ds := []) #[Z,Z,Z,Z,Z,Z,Z,Z,Z,Z] J8 rfl rfl ⟨((HB.out.cell (World.block_lt_of_cell? w _ hw539_0)).trans hw539_0), ((HB.out.cell (World.block_lt_of_cell? w _ hw539_1)).trans hw539_1), ((HB.out.cell (World.block_lt_of_cell? w _ hw539_2)).trans hw539_2), ((HB.out.cell (World.block_lt_of_cell? w _ hw539_3)).trans hw539_3), ((HB.out.cell (World.block_lt_of_cell? w _ hw540_0)).trans hw540_0), ((HB.out.cell (World.block_lt_of_cell? w _ hw540_1)).trans hw540_1), ((HB.out.cell (World.block_lt_of_cell? w _ hw540_2)).trans hw540_2), ((HB.out.cell (World.block_lt_of_cell? w _ hw540_3)).trans hw540_3)⟩ (fun hHeld => ?_); refine with_tabW deckleref10_Same.tab6 deckleref10_Same.bits6 (fun HT_ HW_ => ?_)
        generalize wr.drew = w11 at HB HR539_1 HR539_2 HR539_3 HR540_1 HR540_2 HR540_3 hx539_0 hx539_1 hx539_2 hx539_3 hx540_0 hx540_1 hx540_2 hx540_3 hHeld ⊢
        refine pure_ (i := 0) (N := some 17) (v := ?_) (a' := ?_) #[Y,Z,Z,Z,Z,Z,Z,Z,Z,Z] rfl rfl (any_of HT_.out J8) (fun _ _ _ h => h) (Or.inl ⟨J90, ?_⟩) ?_ ?_
        rotate_left
        · exact pz0
        rotate_left
        · exact pz1
        refine pure_ (i := 1) (N := some 18) (v := ?_) (a' := ?_) #[Y,Y,Z,Z,Z,Z,Z,Z,Z,Z] rfl rfl (any_of HT_.out J8) (fun _ _ _ h => h) (Or.inl ⟨J90, ?_⟩) ?_ ?_
        rotate_left
        · exact pz0
        rotate_left
        · exact pz1
        refine pure_ (i := 2) (N := some 19) (v := ?_) (a' := ?_) #[Y,Y,Y,Z,Z,Z,Z,Z,Z,Z] rfl rfl (any_of HT_.out J8) (fun _ _ _ h => h) (Or.inl ⟨J90, ?_⟩) ?_ ?_
        rotate_left
        · exact pz0
        rotate_left
        · exact pz1
        refine pure_ (i := 4) (N := some 21) (v := ?_) (a' := ?_) #[Y,Y,Y,Z,Y,Z,Z,Z,Z,Z] rfl rfl (any_of HT_.out J8) (fun _ _ _ h => h) (Or.inl ⟨J90, ?_⟩) ?_ ?_
        rotate_left
        · exact pz0
        rotate_left
        · exact pz1
        refine pure_ (i := 5) (N := some 22) (v := ?_) (a' := ?_) #[Y,Y,Y,Z,Y,Y,Z,Z,Z,Z] rfl rfl (any_of HT_.out J8) (fun _ _ _ h => h) (Or.inl ⟨J90, ?_⟩) ?_ ?_
        rotate_left
        · exact pz0
        rotate_left
        · exact pz1
        refine pure_ (i := 6) (N := some 23) (v := ?_) (a' := ?_) #[Y,Y,Y,Z,Y,Y,Y,Z,Z,Z] rfl rfl (any_of HT_.out J8) (fun _ _ _ h => h) (Or.inl ⟨J90, ?_⟩) ?_ ?_
        rotate_left
        · exact pz0
        rotate_left
        · exact pz1
        refine take_ (i := 3) (N := some 20) (v := ?_) (a' := ?_) #[Y,Y,Y,Y,Y,Y,Y,Z,Z,Z] rfl rfl (take_ofW HT_.out HW_.out J8) (fun _ _ _ h => h) (Or.inl ⟨J90, ?_⟩) hHeld ?_ ?_
        rotate_left
        · rintro w' ⟨s0, s1, s2, s3, s4, s5, s6, s7⟩
          go_simp
          with_reducible rfl
        rotate_left
        · exact pz1
        refine take_ (i := 7) (N := some 24) (v := ?_) (a' := ?_) #[Y,Y,Y,Y,Y,Y,Y,Y,Z,Z] rfl rfl (take_ofW HT_.out HW_.out J8) (fun _ _ _ h => h) (Or.inl ⟨J90, ?_⟩) hHeld ?_ ?_
        rotate_left
        · rintro w' ⟨s0, s1, s2, s3, s4, s5, s6, s7⟩
          go_simp
          with_reducible rfl
        rotate_left
        · exact pz1
        refine one_ (i := 8) (N := some 25) #[Y,Y,Y,Y,Y,Y,Y,Y,Y,Z] rfl rfl (one_of HT_.out J8) J18 (fun K hK => ?_)
        refine goes_ Tryd.func25 J8 rfl #[.agg #[.int .i64 ((rd_T32 l0 x5_1).f0), .slice A539_1 ((rd_T32 l0 x5_1).f1).length c539_1, .slice A539_2 ((rd_T32 l0 x5_1).f2).length c539_2, .slice A539_3 ((rd_T32 l0 x5_1).f3).length c539_3], .agg #[.int .i64 ((rd_T32 l1 x5_1).f0), .slice A540_1 ((rd_T32 l1 x5_1).f1).length c540_1, .slice A540_2 ((rd_T32 l1 x5_1).f2).length c540_2, .slice A540_3 ((rd_T32 l1 x5_1).f3).length c540_3]] J90 rfl rfl J1 ?_
        with_reducible refine (deckleref10_One.calls k1 ((rd_T32 l0 x5_1).f0) _ _ ((rd_T32 l0 x5_1).f1) _ _ ((rd_T32 l0 x5_1).f2) _ _ ((rd_T32 l0 x5_1).f3) ((rd_T32 l1 x5_1).f0) _ _ ((rd_T32 l1 x5_1).f1) _ _ ((rd_T32 l1 x5_1).f2) _ _ ((rd_T32 l1 x5_1).f3) false _ ?side1 ?side2 ?side3 ?side4 ?side5 ?side6 ?side7 ?side8 ?side9 ?side10 ?side11 ?side12 A7.out).mono ?_
        (case side1 => exact zc (Kd.C_below HR539_1.out HB.out))
        (case side2 => exact HC539_1.out)
        (case side3 => exact zc (Kd.C_below HR539_2.out HB.out))
        (case side4 => exact HC539_2.out)
        (case side5 => exact zc (Kd.C_below HR539_3.out HB.out))
        (case side6 => exact HC539_3.out)
        (case side7 => exact zc (Kd.C_below HR540_1.out HB.out))
        (case side8 => exact HC540_1.out)
        (case side9 => exact zc (Kd.C_below HR540_2.out HB.out))
        (case side10 => exact HC540_2.out)
        (case side11 => exact zc (Kd.C_below HR540_3.out HB.out))
        (case side12 => exact HC540_3.out)
        rintro e w12 ⟨rfl, hb⟩
        refine ⟨_, rfl, ?_⟩
        replace HB := zq (below_step J0 hb)
        (try clear hb)
        (try clear hb2)
        (try clear hk)
        (try clear hi)
        refine hK.out _ _ ⟨((HB.out.cell (World.block_lt_of_cell? w _ hw539_0)).trans hw539_0), ((HB.out.cell (World.block_lt_of_cell? w _ hw539_1)).trans hw539_1), ((HB.out.cell (World.block_lt_of_cell? w _ hw539_2)).trans hw539_2), ((HB.out.cell (World.block_lt_of_cell? w _ hw539_3)).trans hw539_3), ((HB.out.cell (World.block_lt_of_cell? w _ hw540_0)).trans hw540_0), ((HB.out.cell (World.block_lt_of_cell? w _ hw540_1)).trans hw540_1), ((HB.out.cell (World.block_lt_of_cell? w _ hw540_2)).trans hw540_2), ((HB.out.cell (World.block_lt_of_cell? w _ hw540_3)).trans hw540_3)⟩ (fun hHeld => ?_)
        clear hK K
        refine norm_ (a' := ?_) ?_ ?_
        rotate_left
        · show Act.put _ (some 25) _ = _
          simp only [Act.put, List.setIfInBounds_toArray, List.set_cons_zero, List.set_cons_succ, i64_w, i32_w]
          rfl
        refine pure_ (i := 9) (N := some 26) (v := ?_) (a' := ?_) #[Y,Y,Y,Y,Y,Y,Y,Y,Y,Y] rfl rfl (any_of HT_.out J8) (fun _ _ _ h => h) (Or.inl ⟨J90, ?_⟩) ?_ ?_
        rotate_left
        · exact pz0
        rotate_left
        · exact pz1
        refine done_ (done_of HT_.out J8) ?_
        try go_wp2
        go_ret
        exact ⟨J2, J0⟩
      subst c8
      rw [if_pos rfl] at H
      have H' := zq H
      clear H
      try go_wp2
      replace HB := zq (below_drew1 HB.out)
      have p539 : 0 ≤ (x5_1 : Int) := of_decide_eq_true J3
      have q539 : x5_1 < (l0.length : Int) := of_decide_eq_true J3
      obtain ⟨ad539, A539_1, c539_1, A539_2, c539_2, A539_3, c539_3, e539, hx539_0, hx539_1, hx539_2, hx539_3, hl539_1, hi539_1, hl539_2, hi539_2, hl539_3, hi539_3⟩ := at_T32 HR0.out x5_1 p539 q539
      have hw539_3 := hx539_3
      have hw539_2 := hx539_2
      have hw539_1 := hx539_1
      have hw539_0 := hx539_0
      cases e539
      replace hx539_0 := (HB.out.cell (World.block_lt_of_cell? w _ hx539_0)).trans hx539_0
      replace hx539_1 := (HB.out.cell (World.block_lt_of_cell? w _ hx539_1)).trans hx539_1
      replace hx539_2 := (HB.out.cell (World.block_lt_of_cell? w _ hx539_2)).trans hx539_2
      replace hx539_3 := (HB.out.cell (World.block_lt_of_cell? w _ hx539_3)).trans hx539_3
      have HR539_1 := zq hi539_1
      have HC539_1 := zq hl539_1
      clear hi539_1 hl539_1
      have HR539_2 := zq hi539_2
      have HC539_2 := zq hl539_2
      clear hi539_2 hl539_2
      have HR539_3 := zq hi539_3
      have HC539_3 := zq hl539_3
      clear hi539_3 hl539_3
      replace p539 := eq_true p539
      replace q539 := eq_true q539
      have p540 : 0 ≤ (x5_1 : Int) := of_decide_eq_true J3
      have q540 : x5_1 < (l1.length : Int) := of_decide_eq_true J3
      obtain ⟨ad540, A540_1, c540_1, A540_2, c540_2, A540_3, c540_3, e540, hx540_0, hx540_1, hx540_2, hx540_3, hl540_1, hi540_1, hl540_2, hi540_2, hl540_3, hi540_3⟩ := at_T32 HR1.out x5_1 p540 q540
      have hw540_3 := hx540_3
      have hw540_2 := hx540_2
      have hw540_1 := hx540_1
      have hw540_0 := hx540_0
      cases e540
      replace hx540_0 := (HB.out.cell (World.block_lt_of_cell? w _ hx540_0)).trans hx540_0
      replace hx540_1 := (HB.out.cell (World.block_lt_of_cell? w _ hx540_1)).trans hx540_1
      replace hx540_2 := (HB.out.cell (World.block_lt_of_cell? w _ hx540_2)).trans hx540_2
      replace hx540_3 := (HB.out.cell (World.block_lt_of_cell? w _ hx540_3)).trans hx540_3
      have HR540_1 := zq hi540_1
      have HC540_1 := zq hl540_1
      clear hi540_1 hl540_1
      have HR540_2 := zq hi540_2
      have HC540_2 := zq hl540_2
      clear hi540_2 hl540_2
      have HR540_3 := zq hi540_3
      have HC540_3 := zq hl540_3
      clear hi540_3 hl540_3
      replace p540 := eq_true p540
      replace q540 := eq_true q540
      refine start_ (n := 10) (S := fun w' => w'.cell? (ad539.add ((x5_1).toNat * 4)) = some (.int .i64 ((rd_T32 l0 x5_1).f0)) ∧ w'.cell? ⟨(ad539.add ((x5_1).toNat * 4)).block, (ad539.add ((x5_1).toNat * 4)).off + 1, none⟩ = some (.slice A539_1 ((rd_T32 l0 x5_1).f1).length c539_1) ∧ w'.cell? ⟨(ad539.add ((x5_1).toNat * 4)).block, (ad539.add ((x5_1).toNat * 4)).off + 2, none⟩ = some (.slice A539_2 ((rd_T32 l0 x5_1).f2).length c539_2) ∧ w'.cell? ⟨(ad539.add ((x5_1).toNat * 4)).block, (ad539.add ((x5_1).toNat * 4)).off + 3, none⟩ = some (.slice A539_3 ((rd_T32 l0 x5_1).f3).length c539_3) ∧ w'.cell? (ad540.add ((x5_1).toNat * 4)) = some (.int .i64 ((rd_T32 l1 x5_1).f0)) ∧ w'.cell? ⟨(ad540.add ((x5_1).toNat * 4)).block, (ad540.add ((x5_1).toNat * 4)).off + 1, none⟩ = some (.slice A540_1 ((rd_T32 l1 x5_1).f1).length c540_1) ∧ w'.cell? ⟨(ad540.add ((x5_1).toNat * 4)).block, (ad540.add ((x5_1).toNat * 4)).off + 2, none⟩ = some (.slice A540_2 ((rd_T32 l1 x5_1).f2).length c540_2) ∧ w'.cell? ⟨(ad540.add ((x5_1).toNat * 4)).block, (ad540.add ((x5_1).toNat * 4)).off + 3, none⟩ = some (.slice A540_3 ((rd_T32 l1 x5_1).f3).length c540_3)) (ds := []) #[Z,Z,Z,Z,Z,Z,Z,Z,Z,Z] J8 rfl rfl ⟨((HB.out.cell (World.block_lt_of_cell? w _ hw539_0)).trans hw539_0), ((HB.out.cell (World.block_lt_of_cell? w _ hw539_1)).trans hw539_1), ((HB.out.cell (World.block_lt_of_cell? w _ hw539_2)).trans hw539_2), ((HB.out.cell (World.block_lt_of_cell? w _ hw539_3)).trans hw539_3), ((HB.out.cell (World.block_lt_of_cell? w _ hw540_0)).trans hw540_0), ((HB.out.cell (World.block_lt_of_cell? w _ hw540_1)).trans hw540_1), ((HB.out.cell (World.block_lt_of_cell? w _ hw540_2)).trans hw540_2), ((HB.out.cell (World.block_lt_of_cell? w _ hw540_3)).trans hw540_3)⟩ (fun hHeld => ?_); refine with_tabW deckleref10_Same.tab6 deckleref10_Same.bits6 (fun HT_ HW_ => ?_)
      generalize wr.drew = w9 at HB HR539_1 HR539_2 HR539_3 HR540_1 HR540_2 HR540_3 hx539_0 hx539_1 hx539_2 hx539_3 hx540_0 hx540_1 hx540_2 hx540_3 hHeld ⊢
      refine pure_ (i := 0) (N := some 17) (v := ?_) (a' := ?_) #[Y,Z,Z,Z,Z,Z,Z,Z,Z,Z] rfl rfl (any_of HT_.out J8) (fun _ _ _ h => h) (Or.inl ⟨J90, ?_⟩) ?_ ?_
      rotate_left
      · exact pz0
      rotate_left
      · exact pz1
      refine pure_ (i := 1) (N := some 18) (v := ?_) (a' := ?_) #[Y,Y,Z,Z,Z,Z,Z,Z,Z,Z] rfl rfl (any_of HT_.out J8) (fun _ _ _ h => h) (Or.inl ⟨J90, ?_⟩) ?_ ?_
      rotate_left
      · exact pz0
      rotate_left
      · exact pz1
      refine pure_ (i := 2) (N := some 19) (v := ?_) (a' := ?_) #[Y,Y,Y,Z,Z,Z,Z,Z,Z,Z] rfl rfl (any_of HT_.out J8) (fun _ _ _ h => h) (Or.inl ⟨J90, ?_⟩) ?_ ?_
      rotate_left
      · exact pz0
      rotate_left
      · exact pz1
      refine pure_ (i := 4) (N := some 21) (v := ?_) (a' := ?_) #[Y,Y,Y,Z,Y,Z,Z,Z,Z,Z] rfl rfl (any_of HT_.out J8) (fun _ _ _ h => h) (Or.inl ⟨J90, ?_⟩) ?_ ?_
      rotate_left
      · exact pz0
      rotate_left
      · exact pz1
      refine pure_ (i := 5) (N := some 22) (v := ?_) (a' := ?_) #[Y,Y,Y,Z,Y,Y,Z,Z,Z,Z] rfl rfl (any_of HT_.out J8) (fun _ _ _ h => h) (Or.inl ⟨J90, ?_⟩) ?_ ?_
      rotate_left
      · exact pz0
      rotate_left
      · exact pz1
      refine pure_ (i := 6) (N := some 23) (v := ?_) (a' := ?_) #[Y,Y,Y,Z,Y,Y,Y,Z,Z,Z] rfl rfl (any_of HT_.out J8) (fun _ _ _ h => h) (Or.inl ⟨J90, ?_⟩) ?_ ?_
      rotate_left
      · exact pz0
      rotate_left
      · exact pz1
      refine take_ (i := 3) (N := some 20) (v := ?_) (a' := ?_) #[Y,Y,Y,Y,Y,Y,Y,Z,Z,Z] rfl rfl (take_ofW HT_.out HW_.out J8) (fun _ _ _ h => h) (Or.inl ⟨J90, ?_⟩) hHeld ?_ ?_
      rotate_left
      · rintro w' ⟨s0, s1, s2, s3, s4, s5, s6, s7⟩
        go_simp
        with_reducible rfl
      rotate_left
      · exact pz1
      refine take_ (i := 7) (N := some 24) (v := ?_) (a' := ?_) #[Y,Y,Y,Y,Y,Y,Y,Y,Z,Z] rfl rfl (take_ofW HT_.out HW_.out J8) (fun _ _ _ h => h) (Or.inl ⟨J90, ?_⟩) hHeld ?_ ?_
      rotate_left
      · rintro w' ⟨s0, s1, s2, s3, s4, s5, s6, s7⟩
        go_simp
        with_reducible rfl
      rotate_left
      · exact pz1
      refine one_ (i := 8) (N := some 25) #[Y,Y,Y,Y,Y,Y,Y,Y,Y,Z] rfl rfl (one_of HT_.out J8) J18 (fun K hK => ?_)
      refine goes_ Tryd.func25 J8 rfl #[.agg #[.int .i64 ((rd_T32 l0 x5_1).f0), .slice A539_1 ((rd_T32 l0 x5_1).f1).length c539_1, .slice A539_2 ((rd_T32 l0 x5_1).f2).length c539_2, .slice A539_3 ((rd_T32 l0 x5_1).f3).length c539_3], .agg #[.int .i64 ((rd_T32 l1 x5_1).f0), .slice A540_1 ((rd_T32 l1 x5_1).f1).length c540_1, .slice A540_2 ((rd_T32 l1 x5_1).f2).length c540_2, .slice A540_3 ((rd_T32 l1 x5_1).f3).length c540_3]] J90 rfl rfl J1 ?_
      with_reducible refine (deckleref10_One.calls k1 ((rd_T32 l0 x5_1).f0) _ _ ((rd_T32 l0 x5_1).f1) _ _ ((rd_T32 l0 x5_1).f2) _ _ ((rd_T32 l0 x5_1).f3) ((rd_T32 l1 x5_1).f0) _ _ ((rd_T32 l1 x5_1).f1) _ _ ((rd_T32 l1 x5_1).f2) _ _ ((rd_T32 l1 x5_1).f3) true _ ?side1 ?side2 ?side3 ?side4 ?side5 ?side6 ?side7 ?side8 ?side9 ?side10 ?side11 ?side12 A7.out).mono ?_
      (case side1 => exact zc (Kd.C_below HR539_1.out HB.out))
      (case side2 => exact HC539_1.out)
      (case side3 => exact zc (Kd.C_below HR539_2.out HB.out))
      (case side4 => exact HC539_2.out)
      (case side5 => exact zc (Kd.C_below HR539_3.out HB.out))
      (case side6 => exact HC539_3.out)
      (case side7 => exact zc (Kd.C_below HR540_1.out HB.out))
      (case side8 => exact HC540_1.out)
      (case side9 => exact zc (Kd.C_below HR540_2.out HB.out))
      (case side10 => exact HC540_2.out)
      (case side11 => exact zc (Kd.C_below HR540_3.out HB.out))
      (case side12 => exact HC540_3.out)
      rintro e w10 ⟨rfl, hb⟩
      refine ⟨_, rfl, ?_⟩
      replace HB := zq (below_step J0 hb)
      (try clear hb)
      (try clear hb2)
      (try clear hk)
      (try clear hi)
      refine hK.out _ _ ⟨((HB.out.cell (World.block_lt_of_cell? w _ hw539_0)).trans hw539_0), ((HB.out.cell (World.block_lt_of_cell? w _ hw539_1)).trans hw539_1), ((HB.out.cell (World.block_lt_of_cell? w _ hw539_2)).trans hw539_2), ((HB.out.cell (World.block_lt_of_cell? w _ hw539_3)).trans hw539_3), ((HB.out.cell (World.block_lt_of_cell? w _ hw540_0)).trans hw540_0), ((HB.out.cell (World.block_lt_of_cell? w _ hw540_1)).trans hw540_1), ((HB.out.cell (World.block_lt_of_cell? w _ hw540_2)).trans hw540_2), ((HB.out.cell (World.block_lt_of_cell? w _ hw540_3)).trans hw540_3)⟩ (fun hHeld => ?_)
      clear hK K
      refine norm_ (a' := ?_) ?_ ?_
      rotate_left
      · show Act.put _ (some 25) _ = _
        simp only [Act.put, List.setIfInBounds_toArray, List.set_cons_zero, List.set_cons_succ, i64_w, i32_w]
        rfl
      refine pure_ (i := 9) (N := some 26) (v := ?_) (a' := ?_) #[Y,Y,Y,Y,Y,Y,Y,Y,Y,Y] rfl rfl (any_of HT_.out J8) (fun _ _ _ h => h) (Or.inl ⟨J90, ?_⟩) ?_ ?_
      rotate_left
      · exact pz0
      rotate_left
      · exact pz1
      refine done_ (done_of HT_.out J8) ?_
      try go_wp2
      go_roundg k1
      case measure => have := HK1.out; omega
      case rel => exact ⟨(wrap64 (x5_1 + 1)), J4, H', ⟨J73⟩, ⟨J0⟩⟩
def deckleref16_Same.l0 : Nat → List ByteArray → List ByteArray → Int → Option (Bool)
  | 0, _, _, _ => none
  | k + 1, x0, x1, x5 => if x5 < (x0.length : Int) then (if 0 ≤ x5 then (if x5 < (x1.length : Int) then (if (rdOf ByteArray.empty x0 x5).toList = (rdOf ByteArray.empty x1 x5).toList then (deckleref16_Same.l0 k x0 x1 (wrap64 (x5 + 1))) else (some false)) else (none)) else (none)) else (some true)
def deckleref16_Same.f (k : Nat) (l0 : List ByteArray) (l1 : List ByteArray) : Option (Bool) := if (l0.length : Int) = (l1.length : Int) then (deckleref16_Same.l0 k l0 l1 0) else (some false)
theorem deckleref16_Same.mono_l : ∀ k, (∀ y0 y1 y2, LeO (deckleref16_Same.l0 k y0 y1 y2) (deckleref16_Same.l0 (k + 1) y0 y1 y2))
  | 0 => fun _ _ _ r h => by simp [deckleref16_Same.l0] at h
  | k + 1 => by
    have ih0 := deckleref16_Same.mono_l k
    · intro y0 y1 y2
      unfold deckleref16_Same.l0
      exact mz0
theorem deckleref16_Same.mono : ∀ a0 a1 k, LeO (deckleref16_Same.f k a0 a1) (deckleref16_Same.f (k + 1) a0 a1) := by
  intro a0 a1 k
  have ih0 := deckleref16_Same.mono_l k
  unfold deckleref16_Same.f
  exact mz0
set_option maxHeartbeats 8000000 in
set_option maxRecDepth 100000 in
theorem deckleref16_Same.calls (k : Nat) (A0 : Option Addr) (c0 : Nat) (l0 : List ByteArray) (A1 : Option Addr) (c1 : Nat) (l1 : List ByteArray) (r : Bool) (w : World) (hr0 : Kd.C Kd.string w A0 l0.length l0) (hc0 : l0.length ≤ c0) (hr1 : Kd.C Kd.string w A1 l1.length l1) (hc1 : l1.length ≤ c1) (h : deckleref16_Same.f k l0 l1 = some r) :
    Calls Tryd.prog 15 #[.slice A0 l0.length c0, .slice A1 l1.length c1] w fun e w' => e = .returned (.bool r) ∧ Drawn0 w w' := by
  have HR0 := zq hr0
  have HC0 := zq hc0
  clear hr0 hc0
  have HR1 := zq hr1
  have HC1 := zq hc1
  clear hr1 hc1
  have H : (if (l0.length : Int) = (l1.length : Int) then (deckleref16_Same.l0 k l0 l1 0) else (some false)) = some r := h
  clear h
  by_cases c3 : (l0.length : Int) = (l1.length : Int)
  rotate_left
  · rw [if_neg c3] at H
    have c3b0 : ((l0.length : Int) == (l1.length : Int)) = false := beq_eq_false_iff_ne.mpr c3
    have c3b1 : ((l0.length : Int) != (l1.length : Int)) = true := bne_iff_ne.mpr c3
    have c3b2 : (l0.length == l1.length) = false := J42
    obtain rfl := Option.some.inj H
    go_enter Tryd.func15, Tryd.ntmps15
    go_wp2
    repeat (go_quiet (fail); try go_wp2)
    go_ret
    exact ⟨J4, J7⟩
  rw [if_pos c3] at H
  have c3b0 : ((l0.length : Int) == (l1.length : Int)) = true := beq_iff_eq.mpr c3
  have c3b1 : ((l0.length : Int) != (l1.length : Int)) = false := bne_eq_false_iff_eq.mpr c3
  have c3b2 : (l0.length == l1.length) = true := J42
  clear c3
  have H' := zq H
  clear H
  go_enter Tryd.func15, Tryd.ntmps15
  go_wp2
  repeat (go_quiet (fail); try go_wp2)
  go_loopg [5] k (fun kq v5 w' => ∃ (x5_1 : Int), v5 = .int .i64 x5_1 ∧ Aside0 (deckleref16_Same.l0 kq l0 l1 x5_1 = some r) ∧ Aside0 (kq ≤ k) ∧ Drawn0 w w')
  case atStart => exact ⟨(0), J4, H', ⟨Nat.le_refl _⟩, J7⟩
  case round =>
    clear H'
    try clear c1
    try clear p2
    try clear c3
    try clear c3b0
    try clear c3b1
    try clear c3b2
    obtain ⟨x5_1, rfl, HA, HK1, ⟨m1, rfl⟩⟩ := hrel
    cases gk with
    | zero => exact absurd HA.out (by simp [deckleref16_Same.l0])
    | succ k1 =>
      have H := HA.out
      clear HA
      simp only [deckleref16_Same.l0] at H
      by_cases c4 : x5_1 < (l0.length : Int)
      rotate_left
      · rw [if_neg c4] at H
        have c4b0 := decide_eq_false c4
        clear c4
        obtain rfl := Option.some.inj H
        go_wp2
        repeat (go_quiet (fail); try go_wp2)
        go_ret
        exact ⟨J4, J7⟩
      rw [if_pos c4] at H
      have c4b0 := decide_eq_true c4
      clear c4
      by_cases c5 : 0 ≤ x5_1
      rotate_left
      · rw [if_neg c5] at H
        exact absurd H J33
      rw [if_pos c5] at H
      have c5b0 := decide_eq_true c5
      clear c5
      by_cases c6 : x5_1 < (l1.length : Int)
      rotate_left
      · rw [if_neg c6] at H
        exact absurd H J33
      rw [if_pos c6] at H
      have c6b0 := decide_eq_true c6
      clear c6
      by_cases c7 : (rdOf ByteArray.empty l0 x5_1).toList = (rdOf ByteArray.empty l1 x5_1).toList
      rotate_left
      · rw [if_neg c7] at H
        have c7b0 : ((rdOf ByteArray.empty l0 x5_1).toList == (rdOf ByteArray.empty l1 x5_1).toList) = false := beq_eq_false_iff_ne.mpr c7
        have c7b1 : ((rdOf ByteArray.empty l0 x5_1).toList != (rdOf ByteArray.empty l1 x5_1).toList) = true := bne_iff_ne.mpr c7
        obtain rfl := Option.some.inj H
        have p542 : 0 ≤ (x5_1 : Int) := of_decide_eq_true J3
        have q542 : x5_1 < (l0.length : Int) := of_decide_eq_true J3
        obtain ⟨ad542, e542, hx542_0⟩ := Kd.at_string HR0.out x5_1 p542 q542
        cases e542
        replace p542 := eq_true p542
        replace q542 := eq_true q542
        have p543 : 0 ≤ (x5_1 : Int) := of_decide_eq_true J3
        have q543 : x5_1 < (l1.length : Int) := of_decide_eq_true J3
        obtain ⟨ad543, e543, hx543_0⟩ := Kd.at_string HR1.out x5_1 p543 q543
        cases e543
        replace p543 := eq_true p543
        replace q543 := eq_true q543
        go_wp2
        repeat (go_quiet (fail); try go_wp2)
        go_ret
        exact ⟨J4, J7⟩
      rw [if_pos c7] at H
      have c7b0 : ((rdOf ByteArray.empty l0 x5_1).toList == (rdOf ByteArray.empty l1 x5_1).toList) = true := beq_iff_eq.mpr c7
      have c7b1 : ((rdOf ByteArray.empty l0 x5_1).toList != (rdOf ByteArray.empty l1 x5_1).toList) = false := bne_eq_false_iff_eq.mpr c7
      clear c7
      have H' := zq H
      clear H
      have p542 : 0 ≤ (x5_1 : Int) := of_decide_eq_true J3
      have q542 : x5_1 < (l0.length : Int) := of_decide_eq_true J3
      obtain ⟨ad542, e542, hx542_0⟩ := Kd.at_string HR0.out x5_1 p542 q542
      cases e542
      replace p542 := eq_true p542
      replace q542 := eq_true q542
      have p543 : 0 ≤ (x5_1 : Int) := of_decide_eq_true J3
      have q543 : x5_1 < (l1.length : Int) := of_decide_eq_true J3
      obtain ⟨ad543, e543, hx543_0⟩ := Kd.at_string HR1.out x5_1 p543 q543
      cases e543
      replace p543 := eq_true p543
      replace q543 := eq_true q543
      go_wp2
      repeat (go_quiet (fail); try go_wp2)
      go_roundg k1
      case measure => have := HK1.out; omega
      case rel => exact ⟨(wrap64 (x5_1 + 1)), J4, H', ⟨J73⟩, J7⟩
end Go.Proofs.YtfjhiiaahbjaiaaDoor.HSystemSigns
