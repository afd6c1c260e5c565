/- What the Go functions of this claim answer, told as functions of numbers and lists, and that other memory stays as it was: words and walks, shortened by a program. -/
import Derived.Test.YtecdklheppcihaaSTightShapex0
import Derived.Test.YtecdklheppcihaaSTightShapex1
import Derived.Test.YtecdklheppcihaaSTightShapex11
namespace Go.Proofs.Ytecdklheppcihaa.HTightNumbers
open Go.RowKit Go.Proofs.YtecdklheppcihaaW.PrintWords Go.Proofs.YtecdklheppcihaaW.PrintLast Go.Proofs.YtecdklheppcihaaW.PrintMore
attribute [local go_sem] max2_int min2_int max_two min_two max_three min_three max_four min_four
set_option linter.unusedVariables false
set_option linter.unusedSimpArgs false
attribute [local go_sem high] eqA38
def deckleref10_Same.l0 : Nat → List (S30) → List (S30) → Int → Option (Bool)
  | 0, _, _, _ => none
  | k + 1, x0, x1, x5 => if x5 < (x0.length : Int) then (if 0 ≤ x5 then (if x5 < (x1.length : Int) then ((deckleref10_One.f k ((rd_T30 x0 x5).f0) ((rd_T30 x0 x5).f1) ((rd_T30 x0 x5).f2) ((rd_T30 x0 x5).f3) ((rd_T30 x1 x5).f0) ((rd_T30 x1 x5).f1) ((rd_T30 x1 x5).f2) ((rd_T30 x1 x5).f3)).bind fun t353 => (if t353 = true then (deckleref10_Same.l0 k x0 x1 (wrap64 (x5 + 1))) else (some false))) else (none)) else (none)) else (some true)
def deckleref10_Same.f (k : Nat) (l0 : List (S30)) (l1 : List (S30)) : Option (Bool) := if (l0.length : Int) = (l1.length : Int) then (deckleref10_Same.l0 k l0 l1 0) else (some false)
theorem deckleref10_Same.mono_l : ∀ k, (∀ y0 y1 y2, LeO (deckleref10_Same.l0 k y0 y1 y2) (deckleref10_Same.l0 (k + 1) y0 y1 y2))
  | 0 => fun _ _ _ r h => by simp [deckleref10_Same.l0] at h
  | k + 1 => by
    have ih0 := deckleref10_Same.mono_l k
    · intro y0 y1 y2
      unfold deckleref10_Same.l0
      have im0 := @deckleref10_One.mono
      exact mz3
theorem deckleref10_Same.mono : ∀ a0 a1 k, LeO (deckleref10_Same.f k a0 a1) (deckleref10_Same.f (k + 1) a0 a1) := by
  intro a0 a1 k
  have ih0 := deckleref10_Same.mono_l k
  unfold deckleref10_Same.f
  have im0 := @deckleref10_One.mono
  exact mz3
def deckleref10_Same.T6 : Bool × List (List Nat × List Nat) := (true, [([], []), ([], []), ([0, 1], [0, 1]), ([2], [2]), ([], []), ([], []), ([4, 5], [4, 5]), ([6], [6]), ([3, 7], [3, 7]), ([8], [8])])
def deckleref10_Same.B6 : List Nat := [0, 0, 3, 7, 0, 0, 48, 112, 255, 511]
theorem deckleref10_Same.tab6 : rtab .any (opsOf Try.f16 6) = deckleref10_Same.T6 := J4
theorem deckleref10_Same.bits6 : waitsOk deckleref10_Same.T6.2 deckleref10_Same.B6 = true := J4
set_option maxHeartbeats 8000000 in
set_option maxRecDepth 100000 in
theorem deckleref10_Same.calls (k : Nat) (A0 : Option Addr) (c0 : Nat) (l0 : List (S30)) (A1 : Option Addr) (c1 : Nat) (l1 : List (S30)) (r : Bool) (w : World) (hr0 : Kd.C k30 w A0 l0.length l0) (hc0 : l0.length ≤ c0) (hr1 : Kd.C k30 w A1 l1.length l1) (hc1 : l1.length ≤ c1) (h : deckleref10_Same.f k l0 l1 = some r) :
    Calls Try.prog 16 #[.slice A0 l0.length c0, .slice A1 l1.length c1] w fun e w' => e = .returned (.bool r) ∧ Below w.heap.size w w' := by
  have hu30 := Try.underlying30
  have HR0 := zq hr0
  have HC0 := zq hc0
  clear hr0 hc0
  have HR1 := zq hr1
  have HC1 := zq hc1
  clear hr1 hc1
  have HB := zq (Below.refl w.heap.size w)
  have H : (if (l0.length : Int) = (l1.length : Int) then (deckleref10_Same.l0 k l0 l1 0) else (some false)) = some r := h
  clear h
  by_cases c3 : (l0.length : Int) = (l1.length : Int)
  rotate_left
  · rw [if_neg c3] at H
    have c3b0 : ((l0.length : Int) == (l1.length : Int)) = false := beq_eq_false_iff_ne.mpr c3
    have c3b1 : ((l0.length : Int) != (l1.length : Int)) = true := bne_iff_ne.mpr c3
    have c3b2 : (l0.length == l1.length) = false := J49
    obtain rfl := Option.some.inj H
    go_enter Try.func16, Try.ntmps16
    go_wp2
    go_ret
    exact ⟨J3, J0⟩
  rw [if_pos c3] at H
  have c3b0 : ((l0.length : Int) == (l1.length : Int)) = true := beq_iff_eq.mpr c3
  have c3b1 : ((l0.length : Int) != (l1.length : Int)) = false := bne_eq_false_iff_eq.mpr c3
  have c3b2 : (l0.length == l1.length) = true := J49
  clear c3
  have H' := zq H
  clear H
  go_enter Try.func16, Try.ntmps16
  go_wp2
  go_loopg [5] k (fun kq v5 w' => ∃ (x5_1 : Int), v5 = .int .i64 x5_1 ∧ Aside0 (deckleref10_Same.l0 kq l0 l1 x5_1 = some r) ∧ Aside0 (kq ≤ k) ∧ Aside0 (Below w.heap.size w w'))
  case atStart => exact ⟨(0), J6, H', ⟨Nat.le_refl _⟩, ⟨J0⟩⟩
  case round =>
    clear H'
    try clear c1
    try clear p2
    try clear c3
    try clear c3b0
    try clear c3b1
    try clear c3b2
    obtain ⟨x5_1, rfl, HA, HK1, HB⟩ := hrel
    cases gk with
    | zero => exact absurd HA.out (by simp [deckleref10_Same.l0])
    | succ k1 =>
      have H := HA.out
      clear HA
      simp only [deckleref10_Same.l0] at H
      by_cases c4 : x5_1 < (l0.length : Int)
      rotate_left
      · rw [if_neg c4] at H
        have c4b0 := decide_eq_false c4
        clear c4
        obtain rfl := Option.some.inj H
        go_wp2
        go_ret
        exact ⟨J3, J0⟩
      rw [if_pos c4] at H
      have c4b0 := decide_eq_true c4
      clear c4
      by_cases c5 : 0 ≤ x5_1
      rotate_left
      · rw [if_neg c5] at H
        exact absurd H J30
      rw [if_pos c5] at H
      have c5b0 := decide_eq_true c5
      clear c5
      by_cases c6 : x5_1 < (l1.length : Int)
      rotate_left
      · rw [if_neg c6] at H
        exact absurd H J30
      rw [if_pos c6] at H
      have c6b0 := decide_eq_true c6
      clear c6
      replace H := Option.bind_eq_some_iff.mp H
      obtain ⟨t353, A70, H⟩ := H
      have A7 := zq A70
      clear A70
      by_cases c8 : t353 = true
      rotate_left
      · replace c8 := Bool.eq_false_iff.mpr c8
        subst c8
        rw [if_neg (show ¬ (false = true) by decide)] at H
        obtain rfl := Option.some.inj H
        try go_wp2
        replace HB := zq (below_drew1 HB.out)
        have p351 : 0 ≤ (x5_1 : Int) := of_decide_eq_true J2
        have q351 : x5_1 < (l0.length : Int) := of_decide_eq_true J2
        obtain ⟨ad351, A351_1, c351_1, A351_2, c351_2, A351_3, c351_3, e351, hx351_0, hx351_1, hx351_2, hx351_3, hl351_1, hi351_1, hl351_2, hi351_2, hl351_3, hi351_3⟩ := at_T30 HR0.out x5_1 p351 q351
        have hw351_3 := hx351_3
        have hw351_2 := hx351_2
        have hw351_1 := hx351_1
        have hw351_0 := hx351_0
        cases e351
        replace hx351_0 := (HB.out.cell (World.block_lt_of_cell? w _ hx351_0)).trans hx351_0
        replace hx351_1 := (HB.out.cell (World.block_lt_of_cell? w _ hx351_1)).trans hx351_1
        replace hx351_2 := (HB.out.cell (World.block_lt_of_cell? w _ hx351_2)).trans hx351_2
        replace hx351_3 := (HB.out.cell (World.block_lt_of_cell? w _ hx351_3)).trans hx351_3
        have HR351_1 := zq hi351_1
        have HC351_1 := zq hl351_1
        clear hi351_1 hl351_1
        have HR351_2 := zq hi351_2
        have HC351_2 := zq hl351_2
        clear hi351_2 hl351_2
        have HR351_3 := zq hi351_3
        have HC351_3 := zq hl351_3
        clear hi351_3 hl351_3
        replace p351 := eq_true p351
        replace q351 := eq_true q351
        have p352 : 0 ≤ (x5_1 : Int) := of_decide_eq_true J2
        have q352 : x5_1 < (l1.length : Int) := of_decide_eq_true J2
        obtain ⟨ad352, A352_1, c352_1, A352_2, c352_2, A352_3, c352_3, e352, hx352_0, hx352_1, hx352_2, hx352_3, hl352_1, hi352_1, hl352_2, hi352_2, hl352_3, hi352_3⟩ := at_T30 HR1.out x5_1 p352 q352
        have hw352_3 := hx352_3
        have hw352_2 := hx352_2
        have hw352_1 := hx352_1
        have hw352_0 := hx352_0
        cases e352
        replace hx352_0 := (HB.out.cell (World.block_lt_of_cell? w _ hx352_0)).trans hx352_0
        replace hx352_1 := (HB.out.cell (World.block_lt_of_cell? w _ hx352_1)).trans hx352_1
        replace hx352_2 := (HB.out.cell (World.block_lt_of_cell? w _ hx352_2)).trans hx352_2
        replace hx352_3 := (HB.out.cell (World.block_lt_of_cell? w _ hx352_3)).trans hx352_3
        have HR352_1 := zq hi352_1
        have HC352_1 := zq hl352_1
        clear hi352_1 hl352_1
        have HR352_2 := zq hi352_2
        have HC352_2 := zq hl352_2
        clear hi352_2 hl352_2
        have HR352_3 := zq hi352_3
        have HC352_3 := zq hl352_3
        clear hi352_3 hl352_3
        replace p352 := eq_true p352
        replace q352 := eq_true q352
        refine start_ (n := 10) (S := fun w' => w'.cell? (ad351.add ((x5_1).toNat * 4)) = some (.int .i64 ((rd_T30 l0 x5_1).f0)) ∧ w'.cell? ⟨(ad351.add ((x5_1).toNat * 4)).block, (ad351.add ((x5_1).toNat * 4)).off + 1, none⟩ = some (.slice A351_1 ((rd_T30 l0 x5_1).f1).length c351_1) ∧ w'.cell? ⟨(ad351.add ((x5_1).toNat * 4)).block, (ad351.add ((x5_1).toNat * 4)).off + 2, none⟩ = some (.slice A351_2 ((rd_T30 l0 x5_1).f2).length c351_2) ∧ w'.cell? ⟨(ad351.add ((x5_1).toNat * 4)).block, (ad351.add ((x5_1).toNat * 4)).off + 3, none⟩ = some (.slice A351_3 ((rd_T30 l0 x5_1).f3).length c351_3) ∧ w'.cell? (ad352.add ((x5_1).toNat * 4)) = some (.int .i64 ((rd_T30 l1 x5_1).f0)) ∧ w'.cell? ⟨(ad352.add ((x5_1).toNat * 4)).block, (ad352.add ((x5_1).toNat * 4)).off + 1, none⟩ = some (.slice A352_1 ((rd_T30 l1 x5_1).f1).length c352_1) ∧ w'.cell? ⟨(ad352.add ((x5_1).toNat * 4)).block, (ad352.add ((x5_1).toNat * 4)).off + 2, none⟩ = some (.slice A352_2 ((rd_T30 l1 x5_1).f2).length c352_2) ∧ w'.cell? ⟨(ad352.add ((x5_1).toNat * 4)).block, (ad352.add ((x5_1).toNat * 4)).off + 3, none⟩ = some (.slice A352_3 ((rd_T30 l1 x5_1).f3).length c352_3)) (ds := []) #[Z,Z,Z,Z,Z,Z,Z,Z,Z,Z] J4 rfl rfl ⟨((HB.out.cell (World.block_lt_of_cell? w _ hw351_0)).trans hw351_0), ((HB.out.cell (World.block_lt_of_cell? w _ hw351_1)).trans hw351_1), ((HB.out.cell (World.block_lt_of_cell? w _ hw351_2)).trans hw351_2), ((HB.out.cell (World.block_lt_of_cell? w _ hw351_3)).trans hw351_3), ((HB.out.cell (World.block_lt_of_cell? w _ hw352_0)).trans hw352_0), ((HB.out.cell (World.block_lt_of_cell? w _ hw352_1)).trans hw352_1), ((HB.out.cell (World.block_lt_of_cell? w _ hw352_2)).trans hw352_2), ((HB.out.cell (World.block_lt_of_cell? w _ hw352_3)).trans hw352_3)⟩ (fun hHeld => ?_); refine with_tabW deckleref10_Same.tab6 deckleref10_Same.bits6 (fun HT_ HW_ => ?_)
        generalize wr.drew = w11 at HB HR351_1 HR351_2 HR351_3 HR352_1 HR352_2 HR352_3 hx351_0 hx351_1 hx351_2 hx351_3 hx352_0 hx352_1 hx352_2 hx352_3 hHeld ⊢
        refine pure_ (i := 0) (N := some 17) (v := ?_) (a' := ?_) #[Y,Z,Z,Z,Z,Z,Z,Z,Z,Z] rfl rfl (any_of HT_.out J4) (fun _ _ _ h => h) (Or.inl ⟨J28, ?_⟩) ?_ ?_
        rotate_left
        · exact pz0
        rotate_left
        · exact pz1
        refine pure_ (i := 1) (N := some 18) (v := ?_) (a' := ?_) #[Y,Y,Z,Z,Z,Z,Z,Z,Z,Z] rfl rfl (any_of HT_.out J4) (fun _ _ _ h => h) (Or.inl ⟨J28, ?_⟩) ?_ ?_
        rotate_left
        · exact pz0
        rotate_left
        · exact pz1
        refine pure_ (i := 2) (N := some 19) (v := ?_) (a' := ?_) #[Y,Y,Y,Z,Z,Z,Z,Z,Z,Z] rfl rfl (any_of HT_.out J4) (fun _ _ _ h => h) (Or.inl ⟨J28, ?_⟩) ?_ ?_
        rotate_left
        · exact pz0
        rotate_left
        · exact pz1
        refine pure_ (i := 4) (N := some 21) (v := ?_) (a' := ?_) #[Y,Y,Y,Z,Y,Z,Z,Z,Z,Z] rfl rfl (any_of HT_.out J4) (fun _ _ _ h => h) (Or.inl ⟨J28, ?_⟩) ?_ ?_
        rotate_left
        · exact pz0
        rotate_left
        · exact pz1
        refine pure_ (i := 5) (N := some 22) (v := ?_) (a' := ?_) #[Y,Y,Y,Z,Y,Y,Z,Z,Z,Z] rfl rfl (any_of HT_.out J4) (fun _ _ _ h => h) (Or.inl ⟨J28, ?_⟩) ?_ ?_
        rotate_left
        · exact pz0
        rotate_left
        · exact pz1
        refine pure_ (i := 6) (N := some 23) (v := ?_) (a' := ?_) #[Y,Y,Y,Z,Y,Y,Y,Z,Z,Z] rfl rfl (any_of HT_.out J4) (fun _ _ _ h => h) (Or.inl ⟨J28, ?_⟩) ?_ ?_
        rotate_left
        · exact pz0
        rotate_left
        · exact pz1
        refine take_ (i := 3) (N := some 20) (v := ?_) (a' := ?_) #[Y,Y,Y,Y,Y,Y,Y,Z,Z,Z] rfl rfl (take_ofW HT_.out HW_.out J4) (fun _ _ _ h => h) (Or.inl ⟨J28, ?_⟩) hHeld ?_ ?_
        rotate_left
        · rintro w' ⟨s0, s1, s2, s3, s4, s5, s6, s7⟩
          go_simp
          with_reducible rfl
        rotate_left
        · exact pz1
        refine take_ (i := 7) (N := some 24) (v := ?_) (a' := ?_) #[Y,Y,Y,Y,Y,Y,Y,Y,Z,Z] rfl rfl (take_ofW HT_.out HW_.out J4) (fun _ _ _ h => h) (Or.inl ⟨J28, ?_⟩) hHeld ?_ ?_
        rotate_left
        · rintro w' ⟨s0, s1, s2, s3, s4, s5, s6, s7⟩
          go_simp
          with_reducible rfl
        rotate_left
        · exact pz1
        refine one_ (i := 8) (N := some 25) #[Y,Y,Y,Y,Y,Y,Y,Y,Y,Z] rfl rfl (one_of HT_.out J4) J17 (fun K hK => ?_)
        refine goes_ Try.func17 J4 rfl #[.agg #[.int .i64 ((rd_T30 l0 x5_1).f0), .slice A351_1 ((rd_T30 l0 x5_1).f1).length c351_1, .slice A351_2 ((rd_T30 l0 x5_1).f2).length c351_2, .slice A351_3 ((rd_T30 l0 x5_1).f3).length c351_3], .agg #[.int .i64 ((rd_T30 l1 x5_1).f0), .slice A352_1 ((rd_T30 l1 x5_1).f1).length c352_1, .slice A352_2 ((rd_T30 l1 x5_1).f2).length c352_2, .slice A352_3 ((rd_T30 l1 x5_1).f3).length c352_3]] J28 rfl rfl J1 ?_
        with_reducible refine (deckleref10_One.calls k1 ((rd_T30 l0 x5_1).f0) _ _ ((rd_T30 l0 x5_1).f1) _ _ ((rd_T30 l0 x5_1).f2) _ _ ((rd_T30 l0 x5_1).f3) ((rd_T30 l1 x5_1).f0) _ _ ((rd_T30 l1 x5_1).f1) _ _ ((rd_T30 l1 x5_1).f2) _ _ ((rd_T30 l1 x5_1).f3) false _ ?side1 ?side2 ?side3 ?side4 ?side5 ?side6 ?side7 ?side8 ?side9 ?side10 ?side11 ?side12 A7.out).mono ?_
        (case side1 => exact zc (Kd.C_below HR351_1.out HB.out))
        (case side2 => exact HC351_1.out)
        (case side3 => exact zc (Kd.C_below HR351_2.out HB.out))
        (case side4 => exact HC351_2.out)
        (case side5 => exact zc (Kd.C_below HR351_3.out HB.out))
        (case side6 => exact HC351_3.out)
        (case side7 => exact zc (Kd.C_below HR352_1.out HB.out))
        (case side8 => exact HC352_1.out)
        (case side9 => exact zc (Kd.C_below HR352_2.out HB.out))
        (case side10 => exact HC352_2.out)
        (case side11 => exact zc (Kd.C_below HR352_3.out HB.out))
        (case side12 => exact HC352_3.out)
        rintro e w12 ⟨rfl, hb⟩
        refine ⟨_, rfl, ?_⟩
        replace HB := zq (below_step J0 hb)
        (try clear hb)
        (try clear hb2)
        (try clear hk)
        (try clear hi)
        refine hK.out _ _ ⟨((HB.out.cell (World.block_lt_of_cell? w _ hw351_0)).trans hw351_0), ((HB.out.cell (World.block_lt_of_cell? w _ hw351_1)).trans hw351_1), ((HB.out.cell (World.block_lt_of_cell? w _ hw351_2)).trans hw351_2), ((HB.out.cell (World.block_lt_of_cell? w _ hw351_3)).trans hw351_3), ((HB.out.cell (World.block_lt_of_cell? w _ hw352_0)).trans hw352_0), ((HB.out.cell (World.block_lt_of_cell? w _ hw352_1)).trans hw352_1), ((HB.out.cell (World.block_lt_of_cell? w _ hw352_2)).trans hw352_2), ((HB.out.cell (World.block_lt_of_cell? w _ hw352_3)).trans hw352_3)⟩ (fun hHeld => ?_)
        clear hK K
        refine norm_ (a' := ?_) ?_ ?_
        rotate_left
        · show Act.put _ (some 25) _ = _
          simp only [Act.put, List.setIfInBounds_toArray, List.set_cons_zero, List.set_cons_succ, i64_w, i32_w]
          rfl
        refine pure_ (i := 9) (N := some 26) (v := ?_) (a' := ?_) #[Y,Y,Y,Y,Y,Y,Y,Y,Y,Y] rfl rfl (any_of HT_.out J4) (fun _ _ _ h => h) (Or.inl ⟨J28, ?_⟩) ?_ ?_
        rotate_left
        · exact pz0
        rotate_left
        · exact pz1
        refine done_ (done_of HT_.out J4) ?_
        try go_wp2
        go_ret
        exact ⟨J3, J0⟩
      subst c8
      rw [if_pos rfl] at H
      have H' := zq H
      clear H
      try go_wp2
      replace HB := zq (below_drew1 HB.out)
      have p351 : 0 ≤ (x5_1 : Int) := of_decide_eq_true J2
      have q351 : x5_1 < (l0.length : Int) := of_decide_eq_true J2
      obtain ⟨ad351, A351_1, c351_1, A351_2, c351_2, A351_3, c351_3, e351, hx351_0, hx351_1, hx351_2, hx351_3, hl351_1, hi351_1, hl351_2, hi351_2, hl351_3, hi351_3⟩ := at_T30 HR0.out x5_1 p351 q351
      have hw351_3 := hx351_3
      have hw351_2 := hx351_2
      have hw351_1 := hx351_1
      have hw351_0 := hx351_0
      cases e351
      replace hx351_0 := (HB.out.cell (World.block_lt_of_cell? w _ hx351_0)).trans hx351_0
      replace hx351_1 := (HB.out.cell (World.block_lt_of_cell? w _ hx351_1)).trans hx351_1
      replace hx351_2 := (HB.out.cell (World.block_lt_of_cell? w _ hx351_2)).trans hx351_2
      replace hx351_3 := (HB.out.cell (World.block_lt_of_cell? w _ hx351_3)).trans hx351_3
      have HR351_1 := zq hi351_1
      have HC351_1 := zq hl351_1
      clear hi351_1 hl351_1
      have HR351_2 := zq hi351_2
      have HC351_2 := zq hl351_2
      clear hi351_2 hl351_2
      have HR351_3 := zq hi351_3
      have HC351_3 := zq hl351_3
      clear hi351_3 hl351_3
      replace p351 := eq_true p351
      replace q351 := eq_true q351
      have p352 : 0 ≤ (x5_1 : Int) := of_decide_eq_true J2
      have q352 : x5_1 < (l1.length : Int) := of_decide_eq_true J2
      obtain ⟨ad352, A352_1, c352_1, A352_2, c352_2, A352_3, c352_3, e352, hx352_0, hx352_1, hx352_2, hx352_3, hl352_1, hi352_1, hl352_2, hi352_2, hl352_3, hi352_3⟩ := at_T30 HR1.out x5_1 p352 q352
      have hw352_3 := hx352_3
      have hw352_2 := hx352_2
      have hw352_1 := hx352_1
      have hw352_0 := hx352_0
      cases e352
      replace hx352_0 := (HB.out.cell (World.block_lt_of_cell? w _ hx352_0)).trans hx352_0
      replace hx352_1 := (HB.out.cell (World.block_lt_of_cell? w _ hx352_1)).trans hx352_1
      replace hx352_2 := (HB.out.cell (World.block_lt_of_cell? w _ hx352_2)).trans hx352_2
      replace hx352_3 := (HB.out.cell (World.block_lt_of_cell? w _ hx352_3)).trans hx352_3
      have HR352_1 := zq hi352_1
      have HC352_1 := zq hl352_1
      clear hi352_1 hl352_1
      have HR352_2 := zq hi352_2
      have HC352_2 := zq hl352_2
      clear hi352_2 hl352_2
      have HR352_3 := zq hi352_3
      have HC352_3 := zq hl352_3
      clear hi352_3 hl352_3
      replace p352 := eq_true p352
      replace q352 := eq_true q352
      refine start_ (n := 10) (S := fun w' => w'.cell? (ad351.add ((x5_1).toNat * 4)) = some (.int .i64 ((rd_T30 l0 x5_1).f0)) ∧ w'.cell? ⟨(ad351.add ((x5_1).toNat * 4)).block, (ad351.add ((x5_1).toNat * 4)).off + 1, none⟩ = some (.slice A351_1 ((rd_T30 l0 x5_1).f1).length c351_1) ∧ w'.cell? ⟨(ad351.add ((x5_1).toNat * 4)).block, (ad351.add ((x5_1).toNat * 4)).off + 2, none⟩ = some (.slice A351_2 ((rd_T30 l0 x5_1).f2).length c351_2) ∧ w'.cell? ⟨(ad351.add ((x5_1).toNat * 4)).block, (ad351.add ((x5_1).toNat * 4)).off + 3, none⟩ = some (.slice A351_3 ((rd_T30 l0 x5_1).f3).length c351_3) ∧ w'.cell? (ad352.add ((x5_1).toNat * 4)) = some (.int .i64 ((rd_T30 l1 x5_1).f0)) ∧ w'.cell? ⟨(ad352.add ((x5_1).toNat * 4)).block, (ad352.add ((x5_1).toNat * 4)).off + 1, none⟩ = some (.slice A352_1 ((rd_T30 l1 x5_1).f1).length c352_1) ∧ w'.cell? ⟨(ad352.add ((x5_1).toNat * 4)).block, (ad352.add ((x5_1).toNat * 4)).off + 2, none⟩ = some (.slice A352_2 ((rd_T30 l1 x5_1).f2).length c352_2) ∧ w'.cell? ⟨(ad352.add ((x5_1).toNat * 4)).block, (ad352.add ((x5_1).toNat * 4)).off + 3, none⟩ = some (.slice A352_3 ((rd_T30 l1 x5_1).f3).length c352_3)) (ds := []) #[Z,Z,Z,Z,Z,Z,Z,Z,Z,Z] J4 rfl rfl ⟨((HB.out.cell (World.block_lt_of_cell? w _ hw351_0)).trans hw351_0), ((HB.out.cell (World.block_lt_of_cell? w _ hw351_1)).trans hw351_1), ((HB.out.cell (World.block_lt_of_cell? w _ hw351_2)).trans hw351_2), ((HB.out.cell (World.block_lt_of_cell? w _ hw351_3)).trans hw351_3), ((HB.out.cell (World.block_lt_of_cell? w _ hw352_0)).trans hw352_0), ((HB.out.cell (World.block_lt_of_cell? w _ hw352_1)).trans hw352_1), ((HB.out.cell (World.block_lt_of_cell? w _ hw352_2)).trans hw352_2), ((HB.out.cell (World.block_lt_of_cell? w _ hw352_3)).trans hw352_3)⟩ (fun hHeld => ?_); refine with_tabW deckleref10_Same.tab6 deckleref10_Same.bits6 (fun HT_ HW_ => ?_)
      generalize wr.drew = w9 at HB HR351_1 HR351_2 HR351_3 HR352_1 HR352_2 HR352_3 hx351_0 hx351_1 hx351_2 hx351_3 hx352_0 hx352_1 hx352_2 hx352_3 hHeld ⊢
      refine pure_ (i := 0) (N := some 17) (v := ?_) (a' := ?_) #[Y,Z,Z,Z,Z,Z,Z,Z,Z,Z] rfl rfl (any_of HT_.out J4) (fun _ _ _ h => h) (Or.inl ⟨J28, ?_⟩) ?_ ?_
      rotate_left
      · exact pz0
      rotate_left
      · exact pz1
      refine pure_ (i := 1) (N := some 18) (v := ?_) (a' := ?_) #[Y,Y,Z,Z,Z,Z,Z,Z,Z,Z] rfl rfl (any_of HT_.out J4) (fun _ _ _ h => h) (Or.inl ⟨J28, ?_⟩) ?_ ?_
      rotate_left
      · exact pz0
      rotate_left
      · exact pz1
      refine pure_ (i := 2) (N := some 19) (v := ?_) (a' := ?_) #[Y,Y,Y,Z,Z,Z,Z,Z,Z,Z] rfl rfl (any_of HT_.out J4) (fun _ _ _ h => h) (Or.inl ⟨J28, ?_⟩) ?_ ?_
      rotate_left
      · exact pz0
      rotate_left
      · exact pz1
      refine pure_ (i := 4) (N := some 21) (v := ?_) (a' := ?_) #[Y,Y,Y,Z,Y,Z,Z,Z,Z,Z] rfl rfl (any_of HT_.out J4) (fun _ _ _ h => h) (Or.inl ⟨J28, ?_⟩) ?_ ?_
      rotate_left
      · exact pz0
      rotate_left
      · exact pz1
      refine pure_ (i := 5) (N := some 22) (v := ?_) (a' := ?_) #[Y,Y,Y,Z,Y,Y,Z,Z,Z,Z] rfl rfl (any_of HT_.out J4) (fun _ _ _ h => h) (Or.inl ⟨J28, ?_⟩) ?_ ?_
      rotate_left
      · exact pz0
      rotate_left
      · exact pz1
      refine pure_ (i := 6) (N := some 23) (v := ?_) (a' := ?_) #[Y,Y,Y,Z,Y,Y,Y,Z,Z,Z] rfl rfl (any_of HT_.out J4) (fun _ _ _ h => h) (Or.inl ⟨J28, ?_⟩) ?_ ?_
      rotate_left
      · exact pz0
      rotate_left
      · exact pz1
      refine take_ (i := 3) (N := some 20) (v := ?_) (a' := ?_) #[Y,Y,Y,Y,Y,Y,Y,Z,Z,Z] rfl rfl (take_ofW HT_.out HW_.out J4) (fun _ _ _ h => h) (Or.inl ⟨J28, ?_⟩) hHeld ?_ ?_
      rotate_left
      · rintro w' ⟨s0, s1, s2, s3, s4, s5, s6, s7⟩
        go_simp
        with_reducible rfl
      rotate_left
      · exact pz1
      refine take_ (i := 7) (N := some 24) (v := ?_) (a' := ?_) #[Y,Y,Y,Y,Y,Y,Y,Y,Z,Z] rfl rfl (take_ofW HT_.out HW_.out J4) (fun _ _ _ h => h) (Or.inl ⟨J28, ?_⟩) hHeld ?_ ?_
      rotate_left
      · rintro w' ⟨s0, s1, s2, s3, s4, s5, s6, s7⟩
        go_simp
        with_reducible rfl
      rotate_left
      · exact pz1
      refine one_ (i := 8) (N := some 25) #[Y,Y,Y,Y,Y,Y,Y,Y,Y,Z] rfl rfl (one_of HT_.out J4) J17 (fun K hK => ?_)
      refine goes_ Try.func17 J4 rfl #[.agg #[.int .i64 ((rd_T30 l0 x5_1).f0), .slice A351_1 ((rd_T30 l0 x5_1).f1).length c351_1, .slice A351_2 ((rd_T30 l0 x5_1).f2).length c351_2, .slice A351_3 ((rd_T30 l0 x5_1).f3).length c351_3], .agg #[.int .i64 ((rd_T30 l1 x5_1).f0), .slice A352_1 ((rd_T30 l1 x5_1).f1).length c352_1, .slice A352_2 ((rd_T30 l1 x5_1).f2).length c352_2, .slice A352_3 ((rd_T30 l1 x5_1).f3).length c352_3]] J28 rfl rfl J1 ?_
      with_reducible refine (deckleref10_One.calls k1 ((rd_T30 l0 x5_1).f0) _ _ ((rd_T30 l0 x5_1).f1) _ _ ((rd_T30 l0 x5_1).f2) _ _ ((rd_T30 l0 x5_1).f3) ((rd_T30 l1 x5_1).f0) _ _ ((rd_T30 l1 x5_1).f1) _ _ ((rd_T30 l1 x5_1).f2) _ _ ((rd_T30 l1 x5_1).f3) true _ ?side1 ?side2 ?side3 ?side4 ?side5 ?side6 ?side7 ?side8 ?side9 ?side10 ?side11 ?side12 A7.out).mono ?_
      (case side1 => exact zc (Kd.C_below HR351_1.out HB.out))
      (case side2 => exact HC351_1.out)
      (case side3 => exact zc (Kd.C_below HR351_2.out HB.out))
      (case side4 => exact HC351_2.out)
      (case side5 => exact zc (Kd.C_below HR351_3.out HB.out))
      (case side6 => exact HC351_3.out)
      (case side7 => exact zc (Kd.C_below HR352_1.out HB.out))
      (case side8 => exact HC352_1.out)
      (case side9 => exact zc (Kd.C_below HR352_2.out HB.out))
      (case side10 => exact HC352_2.out)
      (case side11 => exact zc (Kd.C_below HR352_3.out HB.out))
      (case side12 => exact HC352_3.out)
      rintro e w10 ⟨rfl, hb⟩
      refine ⟨_, rfl, ?_⟩
      replace HB := zq (below_step J0 hb)
      (try clear hb)
      (try clear hb2)
      (try clear hk)
      (try clear hi)
      refine hK.out _ _ ⟨((HB.out.cell (World.block_lt_of_cell? w _ hw351_0)).trans hw351_0), ((HB.out.cell (World.block_lt_of_cell? w _ hw351_1)).trans hw351_1), ((HB.out.cell (World.block_lt_of_cell? w _ hw351_2)).trans hw351_2), ((HB.out.cell (World.block_lt_of_cell? w _ hw351_3)).trans hw351_3), ((HB.out.cell (World.block_lt_of_cell? w _ hw352_0)).trans hw352_0), ((HB.out.cell (World.block_lt_of_cell? w _ hw352_1)).trans hw352_1), ((HB.out.cell (World.block_lt_of_cell? w _ hw352_2)).trans hw352_2), ((HB.out.cell (World.block_lt_of_cell? w _ hw352_3)).trans hw352_3)⟩ (fun hHeld => ?_)
      clear hK K
      refine norm_ (a' := ?_) ?_ ?_
      rotate_left
      · show Act.put _ (some 25) _ = _
        simp only [Act.put, List.setIfInBounds_toArray, List.set_cons_zero, List.set_cons_succ, i64_w, i32_w]
        rfl
      refine pure_ (i := 9) (N := some 26) (v := ?_) (a' := ?_) #[Y,Y,Y,Y,Y,Y,Y,Y,Y,Y] rfl rfl (any_of HT_.out J4) (fun _ _ _ h => h) (Or.inl ⟨J28, ?_⟩) ?_ ?_
      rotate_left
      · exact pz0
      rotate_left
      · exact pz1
      refine done_ (done_of HT_.out J4) ?_
      try go_wp2
      go_roundg k1
      case measure => have := HK1.out; omega
      case rel => exact ⟨(wrap64 (x5_1 + 1)), J6, H', ⟨J66⟩, ⟨J0⟩⟩
def slices_Equal_int_int.l0 : Nat → List Int → List Int → Int → Int → Option (Bool)
  | 0, _, _, _, _ => none
  | k + 1, x0, x1, x12, x13 => if x13 < x12 then (if 0 ≤ x13 then (if x13 < (x0.length : Int) then (if x13 < (x1.length : Int) then (if (rd x0 x13) = (rd x1 x13) then (slices_Equal_int_int.l0 k x0 x1 x12 (wrap64 (x13 + 1))) else (some false)) else (none)) else (none)) else (none)) else (some true)
def slices_Equal_int_int.f (k : Nat) (l0 : List Int) (l1 : List Int) : Option (Bool) := if (l0.length : Int) = (l1.length : Int) then (slices_Equal_int_int.l0 k l0 l1 (l0.length : Int) 0) else (some false)
theorem slices_Equal_int_int.mono_l : ∀ k, (∀ y0 y1 y2 y3, LeO (slices_Equal_int_int.l0 k y0 y1 y2 y3) (slices_Equal_int_int.l0 (k + 1) y0 y1 y2 y3))
  | 0 => fun _ _ _ _ r h => by simp [slices_Equal_int_int.l0] at h
  | k + 1 => by
    have ih0 := slices_Equal_int_int.mono_l k
    · intro y0 y1 y2 y3
      unfold slices_Equal_int_int.l0
      exact mz0
theorem slices_Equal_int_int.mono : ∀ a0 a1 k, LeO (slices_Equal_int_int.f k a0 a1) (slices_Equal_int_int.f (k + 1) a0 a1) := by
  intro a0 a1 k
  have ih0 := slices_Equal_int_int.mono_l k
  unfold slices_Equal_int_int.f
  exact mz0
set_option maxHeartbeats 8000000 in
set_option maxRecDepth 100000 in
theorem slices_Equal_int_int.calls (k : Nat) (A0 : Option Addr) (c0 : Nat) (l0 : List Int) (A1 : Option Addr) (c1 : Nat) (l1 : List Int) (r : Bool) (w : World) (hr0 : Kd.C (Kd.int .i64) w A0 l0.length l0) (hc0 : l0.length ≤ c0) (hr1 : Kd.C (Kd.int .i64) w A1 l1.length l1) (hc1 : l1.length ≤ c1) (h : slices_Equal_int_int.f k l0 l1 = some r) :
    Calls Try.prog 63 #[.slice A0 l0.length c0, .slice A1 l1.length c1] w fun e w' => e = .returned (.bool r) ∧ Drawn0 w w' := by
  have HR0 := zq hr0
  have HC0 := zq hc0
  clear hr0 hc0
  have HR1 := zq hr1
  have HC1 := zq hc1
  clear hr1 hc1
  have H : (if (l0.length : Int) = (l1.length : Int) then (slices_Equal_int_int.l0 k l0 l1 (l0.length : Int) 0) else (some false)) = some r := h
  clear h
  by_cases c3 : (l0.length : Int) = (l1.length : Int)
  rotate_left
  · rw [if_neg c3] at H
    have c3b0 : ((l0.length : Int) == (l1.length : Int)) = false := beq_eq_false_iff_ne.mpr c3
    have c3b1 : ((l0.length : Int) != (l1.length : Int)) = true := bne_iff_ne.mpr c3
    have c3b2 : (l0.length == l1.length) = false := J49
    obtain rfl := Option.some.inj H
    go_enter Try.func63, Try.ntmps63
    go_wp2
    repeat (go_quiet (fail); try go_wp2)
    go_ret
    exact ⟨J6, J7⟩
  rw [if_pos c3] at H
  have c3b0 : ((l0.length : Int) == (l1.length : Int)) = true := beq_iff_eq.mpr c3
  have c3b1 : ((l0.length : Int) != (l1.length : Int)) = false := bne_eq_false_iff_eq.mpr c3
  have c3b2 : (l0.length == l1.length) = true := J49
  clear c3
  have H' := zq H
  clear H
  go_enter Try.func63, Try.ntmps63
  go_wp2
  repeat (go_quiet (fail); try go_wp2)
  go_loopg [13] k (fun kq v13 w' => ∃ (x13_1 : Int), v13 = .int .i64 x13_1 ∧ Aside0 (slices_Equal_int_int.l0 kq l0 l1 (l0.length : Int) x13_1 = some r) ∧ Aside0 (kq ≤ k) ∧ Drawn0 w w')
  case atStart => exact ⟨(0), J6, H', ⟨Nat.le_refl _⟩, J7⟩
  case round =>
    clear H'
    try clear c1
    try clear p2
    try clear c3
    try clear c3b0
    try clear c3b1
    try clear c3b2
    obtain ⟨x13_1, rfl, HA, HK1, ⟨m1, rfl⟩⟩ := hrel
    cases gk with
    | zero => exact absurd HA.out (by simp [slices_Equal_int_int.l0])
    | succ k1 =>
      have H := HA.out
      clear HA
      simp only [slices_Equal_int_int.l0] at H
      by_cases c4 : x13_1 < (l0.length : Int)
      rotate_left
      · rw [if_neg c4] at H
        have c4b0 := decide_eq_false c4
        clear c4
        obtain rfl := Option.some.inj H
        go_wp2
        repeat (go_quiet (fail); try go_wp2)
        go_ret
        exact ⟨J6, J7⟩
      rw [if_pos c4] at H
      have c4b0 := decide_eq_true c4
      clear c4
      by_cases c5 : 0 ≤ x13_1
      rotate_left
      · rw [if_neg c5] at H
        exact absurd H J30
      rw [if_pos c5] at H
      have c5b0 := decide_eq_true c5
      clear c5
      by_cases c6 : x13_1 < (l0.length : Int)
      rotate_left
      · rw [if_neg c6] at H
        exact absurd H J30
      rw [if_pos c6] at H
      have c6b0 := decide_eq_true c6
      clear c6
      by_cases c7 : x13_1 < (l1.length : Int)
      rotate_left
      · rw [if_neg c7] at H
        exact absurd H J30
      rw [if_pos c7] at H
      have c7b0 := decide_eq_true c7
      clear c7
      by_cases c8 : (rd l0 x13_1) = (rd l1 x13_1)
      rotate_left
      · rw [if_neg c8] at H
        have c8b0 : ((rd l0 x13_1) == (rd l1 x13_1)) = false := beq_eq_false_iff_ne.mpr c8
        have c8b1 : ((rd l0 x13_1) != (rd l1 x13_1)) = true := bne_iff_ne.mpr c8
        obtain rfl := Option.some.inj H
        have p354 : 0 ≤ (x13_1 : Int) := of_decide_eq_true J2
        have q354 : x13_1 < (l0.length : Int) := of_decide_eq_true J2
        obtain ⟨ad354, e354, hx354_0⟩ := Kd.at_int HR0.out x13_1 p354 q354
        cases e354
        replace p354 := eq_true p354
        replace q354 := eq_true q354
        have p355 : 0 ≤ (x13_1 : Int) := of_decide_eq_true J2
        have q355 : x13_1 < (l1.length : Int) := of_decide_eq_true J2
        obtain ⟨ad355, e355, hx355_0⟩ := Kd.at_int HR1.out x13_1 p355 q355
        cases e355
        replace p355 := eq_true p355
        replace q355 := eq_true q355
        go_wp2
        repeat (go_quiet (fail); try go_wp2)
        go_ret
        exact ⟨J6, J7⟩
      rw [if_pos c8] at H
      have c8b0 : ((rd l0 x13_1) == (rd l1 x13_1)) = true := beq_iff_eq.mpr c8
      have c8b1 : ((rd l0 x13_1) != (rd l1 x13_1)) = false := bne_eq_false_iff_eq.mpr c8
      clear c8
      have H' := zq H
      clear H
      have p354 : 0 ≤ (x13_1 : Int) := of_decide_eq_true J2
      have q354 : x13_1 < (l0.length : Int) := of_decide_eq_true J2
      obtain ⟨ad354, e354, hx354_0⟩ := Kd.at_int HR0.out x13_1 p354 q354
      cases e354
      replace p354 := eq_true p354
      replace q354 := eq_true q354
      have p355 : 0 ≤ (x13_1 : Int) := of_decide_eq_true J2
      have q355 : x13_1 < (l1.length : Int) := of_decide_eq_true J2
      obtain ⟨ad355, e355, hx355_0⟩ := Kd.at_int HR1.out x13_1 p355 q355
      cases e355
      replace p355 := eq_true p355
      replace q355 := eq_true q355
      go_wp2
      repeat (go_quiet (fail); try go_wp2)
      go_roundg k1
      case measure => have := HK1.out; omega
      case rel => exact ⟨(wrap64 (x13_1 + 1)), J6, H', ⟨J66⟩, J7⟩
def api_Dec_64.l0 : Nat → List (S38) → List (S38) → Int → Int → Option (Bool)
  | 0, _, _, _, _ => none
  | k + 1, x0, x1, x12, x13 => if x13 < x12 then (if 0 ≤ x13 then (if x13 < (x0.length : Int) then (if x13 < (x1.length : Int) then (if (!(((rd_T38 x0 x13).f0) == ((rd_T38 x1 x13).f0)) || (!(((rd_T38 x0 x13).f1) == ((rd_T38 x1 x13).f1)))) = true then (some false) else (api_Dec_64.l0 k x0 x1 x12 (wrap64 (x13 + 1)))) else (none)) else (none)) else (none)) else (some true)
def api_Dec_64.f (k : Nat) (l0 : List (S38)) (l1 : List (S38)) : Option (Bool) := if (l0.length : Int) = (l1.length : Int) then (api_Dec_64.l0 k l0 l1 (l0.length : Int) 0) else (some false)
theorem api_Dec_64.mono_l : ∀ k, (∀ y0 y1 y2 y3, LeO (api_Dec_64.l0 k y0 y1 y2 y3) (api_Dec_64.l0 (k + 1) y0 y1 y2 y3))
  | 0 => fun _ _ _ _ r h => by simp [api_Dec_64.l0] at h
  | k + 1 => by
    have ih0 := api_Dec_64.mono_l k
    · intro y0 y1 y2 y3
      unfold api_Dec_64.l0
      exact mz0
theorem api_Dec_64.mono : ∀ a0 a1 k, LeO (api_Dec_64.f k a0 a1) (api_Dec_64.f (k + 1) a0 a1) := by
  intro a0 a1 k
  have ih0 := api_Dec_64.mono_l k
  unfold api_Dec_64.f
  exact mz0
set_option maxHeartbeats 8000000 in
set_option maxRecDepth 100000 in
theorem api_Dec_64.calls (k : Nat) (A0 : Option Addr) (c0 : Nat) (l0 : List (S38)) (A1 : Option Addr) (c1 : Nat) (l1 : List (S38)) (r : Bool) (w : World) (hr0 : Kd.C k38 w A0 l0.length l0) (hc0 : l0.length ≤ c0) (hr1 : Kd.C k38 w A1 l1.length l1) (hc1 : l1.length ≤ c1) (h : api_Dec_64.f k l0 l1 = some r) :
    Calls Try.prog 64 #[.slice A0 l0.length c0, .slice A1 l1.length c1] w fun e w' => e = .returned (.bool r) ∧ Drawn0 w w' := by
  have hu38 := Try.underlying38
  have HR0 := zq hr0
  have HC0 := zq hc0
  clear hr0 hc0
  have HR1 := zq hr1
  have HC1 := zq hc1
  clear hr1 hc1
  have H : (if (l0.length : Int) = (l1.length : Int) then (api_Dec_64.l0 k l0 l1 (l0.length : Int) 0) else (some false)) = some r := h
  clear h
  by_cases c3 : (l0.length : Int) = (l1.length : Int)
  rotate_left
  · rw [if_neg c3] at H
    have c3b0 : ((l0.length : Int) == (l1.length : Int)) = false := beq_eq_false_iff_ne.mpr c3
    have c3b1 : ((l0.length : Int) != (l1.length : Int)) = true := bne_iff_ne.mpr c3
    have c3b2 : (l0.length == l1.length) = false := J49
    obtain rfl := Option.some.inj H
    go_enter Try.func64, Try.ntmps64
    go_wp2
    repeat (go_quiet (fail); try go_wp2)
    go_ret
    exact ⟨J6, J7⟩
  rw [if_pos c3] at H
  have c3b0 : ((l0.length : Int) == (l1.length : Int)) = true := beq_iff_eq.mpr c3
  have c3b1 : ((l0.length : Int) != (l1.length : Int)) = false := bne_eq_false_iff_eq.mpr c3
  have c3b2 : (l0.length == l1.length) = true := J49
  clear c3
  have H' := zq H
  clear H
  go_enter Try.func64, Try.ntmps64
  go_wp2
  repeat (go_quiet (fail); try go_wp2)
  go_loopg [13] k (fun kq v13 w' => ∃ (x13_1 : Int), v13 = .int .i64 x13_1 ∧ Aside0 (api_Dec_64.l0 kq l0 l1 (l0.length : Int) x13_1 = some r) ∧ Aside0 (kq ≤ k) ∧ Drawn0 w w')
  case atStart => exact ⟨(0), J6, H', ⟨Nat.le_refl _⟩, J7⟩
  case round =>
    clear H'
    try clear c1
    try clear p2
    try clear c3
    try clear c3b0
    try clear c3b1
    try clear c3b2
    obtain ⟨x13_1, rfl, HA, HK1, ⟨m1, rfl⟩⟩ := hrel
    cases gk with
    | zero => exact absurd HA.out (by simp [api_Dec_64.l0])
    | succ k1 =>
      have H := HA.out
      clear HA
      simp only [api_Dec_64.l0] at H
      by_cases c4 : x13_1 < (l0.length : Int)
      rotate_left
      · rw [if_neg c4] at H
        have c4b0 := decide_eq_false c4
        clear c4
        obtain rfl := Option.some.inj H
        go_wp2
        repeat (go_quiet (fail); try go_wp2)
        go_ret
        exact ⟨J6, J7⟩
      rw [if_pos c4] at H
      have c4b0 := decide_eq_true c4
      clear c4
      by_cases c5 : 0 ≤ x13_1
      rotate_left
      · rw [if_neg c5] at H
        exact absurd H J30
      rw [if_pos c5] at H
      have c5b0 := decide_eq_true c5
      clear c5
      by_cases c6 : x13_1 < (l0.length : Int)
      rotate_left
      · rw [if_neg c6] at H
        exact absurd H J30
      rw [if_pos c6] at H
      have c6b0 := decide_eq_true c6
      clear c6
      by_cases c7 : x13_1 < (l1.length : Int)
      rotate_left
      · rw [if_neg c7] at H
        exact absurd H J30
      rw [if_pos c7] at H
      have c7b0 := decide_eq_true c7
      clear c7
      by_cases c8 : (!(((rd_T38 l0 x13_1).f0) == ((rd_T38 l1 x13_1).f0)) || (!(((rd_T38 l0 x13_1).f1) == ((rd_T38 l1 x13_1).f1)))) = true
      · rw [if_pos c8] at H
        have c8b0 : (!(((rd_T38 l0 x13_1).f0) == ((rd_T38 l1 x13_1).f0)) || (!(((rd_T38 l0 x13_1).f1) == ((rd_T38 l1 x13_1).f1)))) = true := c8
        clear c8
        obtain rfl := Option.some.inj H
        have p356 : 0 ≤ (x13_1 : Int) := of_decide_eq_true J2
        have q356 : x13_1 < (l0.length : Int) := of_decide_eq_true J2
        obtain ⟨ad356, e356, hx356_0, hx356_1⟩ := at_T38 HR0.out x13_1 p356 q356
        cases e356
        replace p356 := eq_true p356
        replace q356 := eq_true q356
        have p357 : 0 ≤ (x13_1 : Int) := of_decide_eq_true J2
        have q357 : x13_1 < (l1.length : Int) := of_decide_eq_true J2
        obtain ⟨ad357, e357, hx357_0, hx357_1⟩ := at_T38 HR1.out x13_1 p357 q357
        cases e357
        replace p357 := eq_true p357
        replace q357 := eq_true q357
        go_wp2
        repeat (go_quiet (fail); try go_wp2)
        go_ret
        exact ⟨J6, J7⟩
      rw [if_neg c8] at H
      have c8b0 : (!(((rd_T38 l0 x13_1).f0) == ((rd_T38 l1 x13_1).f0)) || (!(((rd_T38 l0 x13_1).f1) == ((rd_T38 l1 x13_1).f1)))) = false := by simpa using c8
      clear c8
      have H' := zq H
      clear H
      have p356 : 0 ≤ (x13_1 : Int) := of_decide_eq_true J2
      have q356 : x13_1 < (l0.length : Int) := of_decide_eq_true J2
      obtain ⟨ad356, e356, hx356_0, hx356_1⟩ := at_T38 HR0.out x13_1 p356 q356
      cases e356
      replace p356 := eq_true p356
      replace q356 := eq_true q356
      have p357 : 0 ≤ (x13_1 : Int) := of_decide_eq_true J2
      have q357 : x13_1 < (l1.length : Int) := of_decide_eq_true J2
      obtain ⟨ad357, e357, hx357_0, hx357_1⟩ := at_T38 HR1.out x13_1 p357 q357
      cases e357
      replace p357 := eq_true p357
      replace q357 := eq_true q357
      go_wp2
      repeat (go_quiet (fail); try go_wp2)
      go_roundg k1
      case measure => have := HK1.out; omega
      case rel => exact ⟨(wrap64 (x13_1 + 1)), J6, H', ⟨J66⟩, J7⟩
end Go.Proofs.Ytecdklheppcihaa.HTightNumbers
