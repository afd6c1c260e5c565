/- What the Go functions of this claim answer, told as functions of numbers and lists, and that other memory stays as it was: words and walks, shortened by a program. -/
import Derived.Shelf.LaysM
import Derived.Shelf.Strconv.Itoa3
import Derived.Lib.AppendIntMem
import Derived.Test.YtfjhiiaahbjaiaaDoorRows
import Derived.Test.YtfjhiiaahbjaiaaDoorSSystemNumbersx0
import Derived.Test.YtfjhiiaahbjaiaaDoorSSystemNumbersx18
namespace Go.Proofs.YtfjhiiaahbjaiaaDoor.HSystemSigns
open Go.RowKit Go.Proofs.YtfjhiiaahbjaiaaDoorW.PrintWords Go.Proofs.YtfjhiiaahbjaiaaDoorW.PrintLast Go.Proofs.YtfjhiiaahbjaiaaDoorW.PrintMore
attribute [local go_sem] max2_int min2_int max_two min_two max_three min_three max_four min_four
set_option linter.unusedVariables false
set_option linter.unusedSimpArgs false
def deckleref10_Same.l0 : Nat → List (S32) → List (S32) → Int → Option (Bool)
  | 0, _, _, _ => none
  | k + 1, x0, x1, x5 => if x5 < (x0.length : Int) then (if 0 ≤ x5 then (if x5 < (x1.length : Int) then ((deckleref10_One.f k ((rd_T32 x0 x5).f0) ((rd_T32 x0 x5).f1) ((rd_T32 x0 x5).f2) ((rd_T32 x0 x5).f3) ((rd_T32 x1 x5).f0) ((rd_T32 x1 x5).f1) ((rd_T32 x1 x5).f2) ((rd_T32 x1 x5).f3)).bind fun t538 => (if t538 = true then (deckleref10_Same.l0 k x0 x1 (wrap64 (x5 + 1))) else (some false))) else (none)) else (none)) else (some true)
def deckleref10_Same.f (k : Nat) (l0 : List (S32)) (l1 : List (S32)) : Option (Bool) := if (l0.length : Int) = (l1.length : Int) then (deckleref10_Same.l0 k l0 l1 0) else (some false)
theorem deckleref10_Same.mono_l : ∀ k, (∀ y0 y1 y2, LeO (deckleref10_Same.l0 k y0 y1 y2) (deckleref10_Same.l0 (k + 1) y0 y1 y2))
  | 0 => fun _ _ _ r h => by simp [deckleref10_Same.l0] at h
  | k + 1 => by
    have ih0 := deckleref10_Same.mono_l k
    · intro y0 y1 y2
      unfold deckleref10_Same.l0
      have im0 := @deckleref10_One.mono
      exact mz3
theorem deckleref10_Same.mono : ∀ a0 a1 k, LeO (deckleref10_Same.f k a0 a1) (deckleref10_Same.f (k + 1) a0 a1) := by
  intro a0 a1 k
  have ih0 := deckleref10_Same.mono_l k
  unfold deckleref10_Same.f
  have im0 := @deckleref10_One.mono
  exact mz3
def deckleref10_Same.T6 : Bool × List (List Nat × List Nat) := (true, [([], []), ([], []), ([0, 1], [0, 1]), ([2], [2]), ([], []), ([], []), ([4, 5], [4, 5]), ([6], [6]), ([3, 7], [3, 7]), ([8], [8])])
def deckleref10_Same.B6 : List Nat := [0, 0, 3, 7, 0, 0, 48, 112, 255, 511]
theorem deckleref10_Same.tab6 : rtab .any (opsOf Tryd.f14 6) = deckleref10_Same.T6 := J8
theorem deckleref10_Same.bits6 : waitsOk deckleref10_Same.T6.2 deckleref10_Same.B6 = true := J8
set_option maxHeartbeats 8000000 in
set_option maxRecDepth 100000 in
theorem deckleref10_Same.calls (k : Nat) (A0 : Option Addr) (c0 : Nat) (l0 : List (S32)) (A1 : Option Addr) (c1 : Nat) (l1 : List (S32)) (r : Bool) (w : World) (hr0 : Kd.C k32 w A0 l0.length l0) (hc0 : l0.length ≤ c0) (hr1 : Kd.C k32 w A1 l1.length l1) (hc1 : l1.length ≤ c1) (h : deckleref10_Same.f k l0 l1 = some r) :
    Calls Tryd.prog 14 #[.slice A0 l0.length c0, .slice A1 l1.length c1] w fun e w' => e = .returned (.bool r) ∧ Below w.heap.size w w' := by
  have hu32 := Tryd.underlying32
  have HR0 := zq hr0
  have HC0 := zq hc0
  clear hr0 hc0
  have HR1 := zq hr1
  have HC1 := zq hc1
  clear hr1 hc1
  have HB := zq (Below.refl w.heap.size w)
  have H : (if (l0.length : Int) = (l1.length : Int) then (deckleref10_Same.l0 k l0 l1 0) else (some false)) = some r := h
  clear h
  by_cases c3 : (l0.length : Int) = (l1.length : Int)
  rotate_left
  · rw [if_neg c3] at H
    have c3b0 : ((l0.length : Int) == (l1.length : Int)) = false := beq_eq_false_iff_ne.mpr c3
    have c3b1 : ((l0.length : Int) != (l1.length : Int)) = true := bne_iff_ne.mpr c3
    have c3b2 : (l0.length == l1.length) = false := J42
    obtain rfl := Option.some.inj H
    go_enter Tryd.func14, Tryd.ntmps14
    go_wp2
    go_ret
    exact ⟨J2, J0⟩
  rw [if_pos c3] at H
  have c3b0 : ((l0.length : Int) == (l1.length : Int)) = true := beq_iff_eq.mpr c3
  have c3b1 : ((l0.length : Int) != (l1.length : Int)) = false := bne_eq_false_iff_eq.mpr c3
  have c3b2 : (l0.length == l1.length) = true := J42
  clear c3
  have H' := zq H
  clear H
  go_enter Tryd.func14, Tryd.ntmps14
  go_wp2
  go_loopg [5] k (fun kq v5 w' => ∃ (x5_1 : Int), v5 = .int .i64 x5_1 ∧ Aside0 (deckleref10_Same.l0 kq l0 l1 x5_1 = some r) ∧ Aside0 (kq ≤ k) ∧ Aside0 (Below w.heap.size w w'))
  case atStart => exact ⟨(0), J4, H', ⟨Nat.le_refl _⟩, ⟨J0⟩⟩
  case round =>
    clear H'
    try clear c1
    try clear p2
    try clear c3
    try clear c3b0
    try clear c3b1
    try clear c3b2
    obtain ⟨x5_1, rfl, HA, HK1, HB⟩ := hrel
    cases gk with
    | zero => exact absurd HA.out (by simp [deckleref10_Same.l0])
    | succ k1 =>
      have H := HA.out
      clear HA
      simp only [deckleref10_Same.l0] at H
      by_cases c4 : x5_1 < (l0.length : Int)
      rotate_left
      · rw [if_neg c4] at H
        have c4b0 := decide_eq_false c4
        clear c4
        obtain rfl := Option.some.inj H
        go_wp2
        go_ret
        exact ⟨J2, J0⟩
      rw [if_pos c4] at H
      have c4b0 := decide_eq_true c4
      clear c4
      by_cases c5 : 0 ≤ x5_1
      rotate_left
      · rw [if_neg c5] at H
        exact absurd H J32
      rw [if_pos c5] at H
      have c5b0 := decide_eq_true c5
      clear c5
      by_cases c6 : x5_1 < (l1.length : Int)
      rotate_left
      · rw [if_neg c6] at H
        exact absurd H J32
      rw [if_pos c6] at H
      have c6b0 := decide_eq_true c6
      clear c6
      replace H := Option.bind_eq_some_iff.mp H
      obtain ⟨t538, A70, H⟩ := H
      have A7 := zq A70
      clear A70
      by_cases c8 : t538 = true
      rotate_left
      · replace c8 := Bool.eq_false_iff.mpr c8
        subst c8
        rw [if_neg (show ¬ (false = true) by decide)] at H
        obtain rfl := Option.some.inj H
        try go_wp2
        replace HB := zq (below_drew1 HB.out)
        have p536 : 0 ≤ (x5_1 : Int) := of_decide_eq_true J3
        have q536 : x5_1 < (l0.length : Int) := of_decide_eq_true J3
        obtain ⟨ad536, A536_1, c536_1, A536_2, c536_2, A536_3, c536_3, e536, hx536_0, hx536_1, hx536_2, hx536_3, hl536_1, hi536_1, hl536_2, hi536_2, hl536_3, hi536_3⟩ := at_T32 HR0.out x5_1 p536 q536
        have hw536_3 := hx536_3
        have hw536_2 := hx536_2
        have hw536_1 := hx536_1
        have hw536_0 := hx536_0
        cases e536
        replace hx536_0 := (HB.out.cell (World.block_lt_of_cell? w _ hx536_0)).trans hx536_0
        replace hx536_1 := (HB.out.cell (World.block_lt_of_cell? w _ hx536_1)).trans hx536_1
        replace hx536_2 := (HB.out.cell (World.block_lt_of_cell? w _ hx536_2)).trans hx536_2
        replace hx536_3 := (HB.out.cell (World.block_lt_of_cell? w _ hx536_3)).trans hx536_3
        have HR536_1 := zq hi536_1
        have HC536_1 := zq hl536_1
        clear hi536_1 hl536_1
        have HR536_2 := zq hi536_2
        have HC536_2 := zq hl536_2
        clear hi536_2 hl536_2
        have HR536_3 := zq hi536_3
        have HC536_3 := zq hl536_3
        clear hi536_3 hl536_3
        replace p536 := eq_true p536
        replace q536 := eq_true q536
        have p537 : 0 ≤ (x5_1 : Int) := of_decide_eq_true J3
        have q537 : x5_1 < (l1.length : Int) := of_decide_eq_true J3
        obtain ⟨ad537, A537_1, c537_1, A537_2, c537_2, A537_3, c537_3, e537, hx537_0, hx537_1, hx537_2, hx537_3, hl537_1, hi537_1, hl537_2, hi537_2, hl537_3, hi537_3⟩ := at_T32 HR1.out x5_1 p537 q537
        have hw537_3 := hx537_3
        have hw537_2 := hx537_2
        have hw537_1 := hx537_1
        have hw537_0 := hx537_0
        cases e537
        replace hx537_0 := (HB.out.cell (World.block_lt_of_cell? w _ hx537_0)).trans hx537_0
        replace hx537_1 := (HB.out.cell (World.block_lt_of_cell? w _ hx537_1)).trans hx537_1
        replace hx537_2 := (HB.out.cell (World.block_lt_of_cell? w _ hx537_2)).trans hx537_2
        replace hx537_3 := (HB.out.cell (World.block_lt_of_cell? w _ hx537_3)).trans hx537_3
        have HR537_1 := zq hi537_1
        have HC537_1 := zq hl537_1
        clear hi537_1 hl537_1
        have HR537_2 := zq hi537_2
        have HC537_2 := zq hl537_2
        clear hi537_2 hl537_2
        have HR537_3 := zq hi537_3
        have HC537_3 := zq hl537_3
        clear hi537_3 hl537_3
        replace p537 := eq_true p537
        replace q537 := eq_true q537
        refine start_ (n := 10) (S := fun w' => w'.cell? (ad536.add ((x5_1).toNat * 4)) = some (.int .i64 ((rd_T32 l0 x5_1).f0)) ∧ w'.cell? ⟨(ad536.add ((x5_1).toNat * 4)).block, (ad536.add ((x5_1).toNat * 4)).off + 1, none⟩ = some (.slice A536_1 ((rd_T32 l0 x5_1).f1).length c536_1) ∧ w'.cell? ⟨(ad536.add ((x5_1).toNat * 4)).block, (ad536.add ((x5_1).toNat * 4)).off + 2, none⟩ = some (.slice A536_2 ((rd_T32 l0 x5_1).f2).length c536_2) ∧ w'.cell? ⟨(ad536.add ((x5_1).toNat * 4)).block, (ad536.add ((x5_1).toNat * 4)).off + 3, none⟩ = some (.slice A536_3 ((rd_T32 l0 x5_1).f3).length c536_3) ∧ w'.cell? (ad537.add ((x5_1).toNat * 4)) = some (.int .i64 ((rd_T32 l1 x5_1).f0)) ∧ w'.cell? ⟨(ad537.add ((x5_1).toNat * 4)).block, (ad537.add ((x5_1).toNat * 4)).off + 1, none⟩ = some (.slice A537_1 ((rd_T32 l1 x5_1).f1).length c537_1) ∧ w'.cell? ⟨(ad537.add ((x5_1).toNat * 4)).block, (ad537.add ((x5_1).toNat * 4)).off + 2, none⟩ = some (.slice A537_2 ((rd_T32 l1 x5_1).f2).length c537_2) ∧ w'.cell? ⟨(ad537.add ((x5_1).toNat * 4)).block, (ad537.add ((x5_1).toNat * 4)).off + 3, none⟩ = some (.slice A537_3 ((rd_T32 l1 x5_1).f3).length c537_3)) (ds := []) #[Z,Z,Z,Z,Z,Z,Z,Z,Z,Z] J8 rfl rfl ⟨((HB.out.cell (World.block_lt_of_cell? w _ hw536_0)).trans hw536_0), ((HB.out.cell (World.block_lt_of_cell? w _ hw536_1)).trans hw536_1), ((HB.out.cell (World.block_lt_of_cell? w _ hw536_2)).trans hw536_2), ((HB.out.cell (World.block_lt_of_cell? w _ hw536_3)).trans hw536_3), ((HB.out.cell (World.block_lt_of_cell? w _ hw537_0)).trans hw537_0), ((HB.out.cell (World.block_lt_of_cell? w _ hw537_1)).trans hw537_1), ((HB.out.cell (World.block_lt_of_cell? w _ hw537_2)).trans hw537_2), ((HB.out.cell (World.block_lt_of_cell? w _ hw537_3)).trans hw537_3)⟩ (fun hHeld => ?_); refine with_tabW deckleref10_Same.tab6 deckleref10_Same.bits6 (fun HT_ HW_ => ?_)
        generalize wr.drew = w11 at HB HR536_1 HR536_2 HR536_3 HR537_1 HR537_2 HR537_3 hx536_0 hx536_1 hx536_2 hx536_3 hx537_0 hx537_1 hx537_2 hx537_3 hHeld ⊢
        refine pure_ (i := 0) (N := some 17) (v := ?_) (a' := ?_) #[Y,Z,Z,Z,Z,Z,Z,Z,Z,Z] rfl rfl (any_of HT_.out J8) (fun _ _ _ h => h) (Or.inl ⟨J93, ?_⟩) ?_ ?_
        rotate_left
        · exact pz0
        rotate_left
        · exact pz1
        refine pure_ (i := 1) (N := some 18) (v := ?_) (a' := ?_) #[Y,Y,Z,Z,Z,Z,Z,Z,Z,Z] rfl rfl (any_of HT_.out J8) (fun _ _ _ h => h) (Or.inl ⟨J93, ?_⟩) ?_ ?_
        rotate_left
        · exact pz0
        rotate_left
        · exact pz1
        refine pure_ (i := 2) (N := some 19) (v := ?_) (a' := ?_) #[Y,Y,Y,Z,Z,Z,Z,Z,Z,Z] rfl rfl (any_of HT_.out J8) (fun _ _ _ h => h) (Or.inl ⟨J93, ?_⟩) ?_ ?_
        rotate_left
        · exact pz0
        rotate_left
        · exact pz1
        refine pure_ (i := 4) (N := some 21) (v := ?_) (a' := ?_) #[Y,Y,Y,Z,Y,Z,Z,Z,Z,Z] rfl rfl (any_of HT_.out J8) (fun _ _ _ h => h) (Or.inl ⟨J93, ?_⟩) ?_ ?_
        rotate_left
        · exact pz0
        rotate_left
        · exact pz1
        refine pure_ (i := 5) (N := some 22) (v := ?_) (a' := ?_) #[Y,Y,Y,Z,Y,Y,Z,Z,Z,Z] rfl rfl (any_of HT_.out J8) (fun _ _ _ h => h) (Or.inl ⟨J93, ?_⟩) ?_ ?_
        rotate_left
        · exact pz0
        rotate_left
        · exact pz1
        refine pure_ (i := 6) (N := some 23) (v := ?_) (a' := ?_) #[Y,Y,Y,Z,Y,Y,Y,Z,Z,Z] rfl rfl (any_of HT_.out J8) (fun _ _ _ h => h) (Or.inl ⟨J93, ?_⟩) ?_ ?_
        rotate_left
        · exact pz0
        rotate_left
        · exact pz1
        refine take_ (i := 3) (N := some 20) (v := ?_) (a' := ?_) #[Y,Y,Y,Y,Y,Y,Y,Z,Z,Z] rfl rfl (take_ofW HT_.out HW_.out J8) (fun _ _ _ h => h) (Or.inl ⟨J93, ?_⟩) hHeld ?_ ?_
        rotate_left
        · rintro w' ⟨s0, s1, s2, s3, s4, s5, s6, s7⟩
          go_simp
          with_reducible rfl
        rotate_left
        · exact pz1
        refine take_ (i := 7) (N := some 24) (v := ?_) (a' := ?_) #[Y,Y,Y,Y,Y,Y,Y,Y,Z,Z] rfl rfl (take_ofW HT_.out HW_.out J8) (fun _ _ _ h => h) (Or.inl ⟨J93, ?_⟩) hHeld ?_ ?_
        rotate_left
        · rintro w' ⟨s0, s1, s2, s3, s4, s5, s6, s7⟩
          go_simp
          with_reducible rfl
        rotate_left
        · exact pz1
        refine one_ (i := 8) (N := some 25) #[Y,Y,Y,Y,Y,Y,Y,Y,Y,Z] rfl rfl (one_of HT_.out J8) J18 (fun K hK => ?_)
        refine goes_ Tryd.func25 J8 rfl #[.agg #[.int .i64 ((rd_T32 l0 x5_1).f0), .slice A536_1 ((rd_T32 l0 x5_1).f1).length c536_1, .slice A536_2 ((rd_T32 l0 x5_1).f2).length c536_2, .slice A536_3 ((rd_T32 l0 x5_1).f3).length c536_3], .agg #[.int .i64 ((rd_T32 l1 x5_1).f0), .slice A537_1 ((rd_T32 l1 x5_1).f1).length c537_1, .slice A537_2 ((rd_T32 l1 x5_1).f2).length c537_2, .slice A537_3 ((rd_T32 l1 x5_1).f3).length c537_3]] J93 rfl rfl J1 ?_
        with_reducible refine (deckleref10_One.calls k1 ((rd_T32 l0 x5_1).f0) _ _ ((rd_T32 l0 x5_1).f1) _ _ ((rd_T32 l0 x5_1).f2) _ _ ((rd_T32 l0 x5_1).f3) ((rd_T32 l1 x5_1).f0) _ _ ((rd_T32 l1 x5_1).f1) _ _ ((rd_T32 l1 x5_1).f2) _ _ ((rd_T32 l1 x5_1).f3) false _ ?side1 ?side2 ?side3 ?side4 ?side5 ?side6 ?side7 ?side8 ?side9 ?side10 ?side11 ?side12 A7.out).mono ?_
        (case side1 => exact zc (Kd.C_below HR536_1.out HB.out))
        (case side2 => exact HC536_1.out)
        (case side3 => exact zc (Kd.C_below HR536_2.out HB.out))
        (case side4 => exact HC536_2.out)
        (case side5 => exact zc (Kd.C_below HR536_3.out HB.out))
        (case side6 => exact HC536_3.out)
        (case side7 => exact zc (Kd.C_below HR537_1.out HB.out))
        (case side8 => exact HC537_1.out)
        (case side9 => exact zc (Kd.C_below HR537_2.out HB.out))
        (case side10 => exact HC537_2.out)
        (case side11 => exact zc (Kd.C_below HR537_3.out HB.out))
        (case side12 => exact HC537_3.out)
        rintro e w12 ⟨rfl, hb⟩
        refine ⟨_, rfl, ?_⟩
        replace HB := zq (below_step J0 hb)
        (try clear hb)
        (try clear hb2)
        (try clear hk)
        (try clear hi)
        refine hK.out _ _ ⟨((HB.out.cell (World.block_lt_of_cell? w _ hw536_0)).trans hw536_0), ((HB.out.cell (World.block_lt_of_cell? w _ hw536_1)).trans hw536_1), ((HB.out.cell (World.block_lt_of_cell? w _ hw536_2)).trans hw536_2), ((HB.out.cell (World.block_lt_of_cell? w _ hw536_3)).trans hw536_3), ((HB.out.cell (World.block_lt_of_cell? w _ hw537_0)).trans hw537_0), ((HB.out.cell (World.block_lt_of_cell? w _ hw537_1)).trans hw537_1), ((HB.out.cell (World.block_lt_of_cell? w _ hw537_2)).trans hw537_2), ((HB.out.cell (World.block_lt_of_cell? w _ hw537_3)).trans hw537_3)⟩ (fun hHeld => ?_)
        clear hK K
        refine norm_ (a' := ?_) ?_ ?_
        rotate_left
        · show Act.put _ (some 25) _ = _
          simp only [Act.put, List.setIfInBounds_toArray, List.set_cons_zero, List.set_cons_succ, i64_w, i32_w]
          rfl
        refine pure_ (i := 9) (N := some 26) (v := ?_) (a' := ?_) #[Y,Y,Y,Y,Y,Y,Y,Y,Y,Y] rfl rfl (any_of HT_.out J8) (fun _ _ _ h => h) (Or.inl ⟨J93, ?_⟩) ?_ ?_
        rotate_left
        · exact pz0
        rotate_left
        · exact pz1
        refine done_ (done_of HT_.out J8) ?_
        try go_wp2
        go_ret
        exact ⟨J2, J0⟩
      subst c8
      rw [if_pos rfl] at H
      have H' := zq H
      clear H
      try go_wp2
      replace HB := zq (below_drew1 HB.out)
      have p536 : 0 ≤ (x5_1 : Int) := of_decide_eq_true J3
      have q536 : x5_1 < (l0.length : Int) := of_decide_eq_true J3
      obtain ⟨ad536, A536_1, c536_1, A536_2, c536_2, A536_3, c536_3, e536, hx536_0, hx536_1, hx536_2, hx536_3, hl536_1, hi536_1, hl536_2, hi536_2, hl536_3, hi536_3⟩ := at_T32 HR0.out x5_1 p536 q536
      have hw536_3 := hx536_3
      have hw536_2 := hx536_2
      have hw536_1 := hx536_1
      have hw536_0 := hx536_0
      cases e536
      replace hx536_0 := (HB.out.cell (World.block_lt_of_cell? w _ hx536_0)).trans hx536_0
      replace hx536_1 := (HB.out.cell (World.block_lt_of_cell? w _ hx536_1)).trans hx536_1
      replace hx536_2 := (HB.out.cell (World.block_lt_of_cell? w _ hx536_2)).trans hx536_2
      replace hx536_3 := (HB.out.cell (World.block_lt_of_cell? w _ hx536_3)).trans hx536_3
      have HR536_1 := zq hi536_1
      have HC536_1 := zq hl536_1
      clear hi536_1 hl536_1
      have HR536_2 := zq hi536_2
      have HC536_2 := zq hl536_2
      clear hi536_2 hl536_2
      have HR536_3 := zq hi536_3
      have HC536_3 := zq hl536_3
      clear hi536_3 hl536_3
      replace p536 := eq_true p536
      replace q536 := eq_true q536
      have p537 : 0 ≤ (x5_1 : Int) := of_decide_eq_true J3
      have q537 : x5_1 < (l1.length : Int) := of_decide_eq_true J3
      obtain ⟨ad537, A537_1, c537_1, A537_2, c537_2, A537_3, c537_3, e537, hx537_0, hx537_1, hx537_2, hx537_3, hl537_1, hi537_1, hl537_2, hi537_2, hl537_3, hi537_3⟩ := at_T32 HR1.out x5_1 p537 q537
      have hw537_3 := hx537_3
      have hw537_2 := hx537_2
      have hw537_1 := hx537_1
      have hw537_0 := hx537_0
      cases e537
      replace hx537_0 := (HB.out.cell (World.block_lt_of_cell? w _ hx537_0)).trans hx537_0
      replace hx537_1 := (HB.out.cell (World.block_lt_of_cell? w _ hx537_1)).trans hx537_1
      replace hx537_2 := (HB.out.cell (World.block_lt_of_cell? w _ hx537_2)).trans hx537_2
      replace hx537_3 := (HB.out.cell (World.block_lt_of_cell? w _ hx537_3)).trans hx537_3
      have HR537_1 := zq hi537_1
      have HC537_1 := zq hl537_1
      clear hi537_1 hl537_1
      have HR537_2 := zq hi537_2
      have HC537_2 := zq hl537_2
      clear hi537_2 hl537_2
      have HR537_3 := zq hi537_3
      have HC537_3 := zq hl537_3
      clear hi537_3 hl537_3
      replace p537 := eq_true p537
      replace q537 := eq_true q537
      refine start_ (n := 10) (S := fun w' => w'.cell? (ad536.add ((x5_1).toNat * 4)) = some (.int .i64 ((rd_T32 l0 x5_1).f0)) ∧ w'.cell? ⟨(ad536.add ((x5_1).toNat * 4)).block, (ad536.add ((x5_1).toNat * 4)).off + 1, none⟩ = some (.slice A536_1 ((rd_T32 l0 x5_1).f1).length c536_1) ∧ w'.cell? ⟨(ad536.add ((x5_1).toNat * 4)).block, (ad536.add ((x5_1).toNat * 4)).off + 2, none⟩ = some (.slice A536_2 ((rd_T32 l0 x5_1).f2).length c536_2) ∧ w'.cell? ⟨(ad536.add ((x5_1).toNat * 4)).block, (ad536.add ((x5_1).toNat * 4)).off + 3, none⟩ = some (.slice A536_3 ((rd_T32 l0 x5_1).f3).length c536_3) ∧ w'.cell? (ad537.add ((x5_1).toNat * 4)) = some (.int .i64 ((rd_T32 l1 x5_1).f0)) ∧ w'.cell? ⟨(ad537.add ((x5_1).toNat * 4)).block, (ad537.add ((x5_1).toNat * 4)).off + 1, none⟩ = some (.slice A537_1 ((rd_T32 l1 x5_1).f1).length c537_1) ∧ w'.cell? ⟨(ad537.add ((x5_1).toNat * 4)).block, (ad537.add ((x5_1).toNat * 4)).off + 2, none⟩ = some (.slice A537_2 ((rd_T32 l1 x5_1).f2).length c537_2) ∧ w'.cell? ⟨(ad537.add ((x5_1).toNat * 4)).block, (ad537.add ((x5_1).toNat * 4)).off + 3, none⟩ = some (.slice A537_3 ((rd_T32 l1 x5_1).f3).length c537_3)) (ds := []) #[Z,Z,Z,Z,Z,Z,Z,Z,Z,Z] J8 rfl rfl ⟨((HB.out.cell (World.block_lt_of_cell? w _ hw536_0)).trans hw536_0), ((HB.out.cell (World.block_lt_of_cell? w _ hw536_1)).trans hw536_1), ((HB.out.cell (World.block_lt_of_cell? w _ hw536_2)).trans hw536_2), ((HB.out.cell (World.block_lt_of_cell? w _ hw536_3)).trans hw536_3), ((HB.out.cell (World.block_lt_of_cell? w _ hw537_0)).trans hw537_0), ((HB.out.cell (World.block_lt_of_cell? w _ hw537_1)).trans hw537_1), ((HB.out.cell (World.block_lt_of_cell? w _ hw537_2)).trans hw537_2), ((HB.out.cell (World.block_lt_of_cell? w _ hw537_3)).trans hw537_3)⟩ (fun hHeld => ?_); refine with_tabW deckleref10_Same.tab6 deckleref10_Same.bits6 (fun HT_ HW_ => ?_)
      generalize wr.drew = w9 at HB HR536_1 HR536_2 HR536_3 HR537_1 HR537_2 HR537_3 hx536_0 hx536_1 hx536_2 hx536_3 hx537_0 hx537_1 hx537_2 hx537_3 hHeld ⊢
      refine pure_ (i := 0) (N := some 17) (v := ?_) (a' := ?_) #[Y,Z,Z,Z,Z,Z,Z,Z,Z,Z] rfl rfl (any_of HT_.out J8) (fun _ _ _ h => h) (Or.inl ⟨J93, ?_⟩) ?_ ?_
      rotate_left
      · exact pz0
      rotate_left
      · exact pz1
      refine pure_ (i := 1) (N := some 18) (v := ?_) (a' := ?_) #[Y,Y,Z,Z,Z,Z,Z,Z,Z,Z] rfl rfl (any_of HT_.out J8) (fun _ _ _ h => h) (Or.inl ⟨J93, ?_⟩) ?_ ?_
      rotate_left
      · exact pz0
      rotate_left
      · exact pz1
      refine pure_ (i := 2) (N := some 19) (v := ?_) (a' := ?_) #[Y,Y,Y,Z,Z,Z,Z,Z,Z,Z] rfl rfl (any_of HT_.out J8) (fun _ _ _ h => h) (Or.inl ⟨J93, ?_⟩) ?_ ?_
      rotate_left
      · exact pz0
      rotate_left
      · exact pz1
      refine pure_ (i := 4) (N := some 21) (v := ?_) (a' := ?_) #[Y,Y,Y,Z,Y,Z,Z,Z,Z,Z] rfl rfl (any_of HT_.out J8) (fun _ _ _ h => h) (Or.inl ⟨J93, ?_⟩) ?_ ?_
      rotate_left
      · exact pz0
      rotate_left
      · exact pz1
      refine pure_ (i := 5) (N := some 22) (v := ?_) (a' := ?_) #[Y,Y,Y,Z,Y,Y,Z,Z,Z,Z] rfl rfl (any_of HT_.out J8) (fun _ _ _ h => h) (Or.inl ⟨J93, ?_⟩) ?_ ?_
      rotate_left
      · exact pz0
      rotate_left
      · exact pz1
      refine pure_ (i := 6) (N := some 23) (v := ?_) (a' := ?_) #[Y,Y,Y,Z,Y,Y,Y,Z,Z,Z] rfl rfl (any_of HT_.out J8) (fun _ _ _ h => h) (Or.inl ⟨J93, ?_⟩) ?_ ?_
      rotate_left
      · exact pz0
      rotate_left
      · exact pz1
      refine take_ (i := 3) (N := some 20) (v := ?_) (a' := ?_) #[Y,Y,Y,Y,Y,Y,Y,Z,Z,Z] rfl rfl (take_ofW HT_.out HW_.out J8) (fun _ _ _ h => h) (Or.inl ⟨J93, ?_⟩) hHeld ?_ ?_
      rotate_left
      · rintro w' ⟨s0, s1, s2, s3, s4, s5, s6, s7⟩
        go_simp
        with_reducible rfl
      rotate_left
      · exact pz1
      refine take_ (i := 7) (N := some 24) (v := ?_) (a' := ?_) #[Y,Y,Y,Y,Y,Y,Y,Y,Z,Z] rfl rfl (take_ofW HT_.out HW_.out J8) (fun _ _ _ h => h) (Or.inl ⟨J93, ?_⟩) hHeld ?_ ?_
      rotate_left
      · rintro w' ⟨s0, s1, s2, s3, s4, s5, s6, s7⟩
        go_simp
        with_reducible rfl
      rotate_left
      · exact pz1
      refine one_ (i := 8) (N := some 25) #[Y,Y,Y,Y,Y,Y,Y,Y,Y,Z] rfl rfl (one_of HT_.out J8) J18 (fun K hK => ?_)
      refine goes_ Tryd.func25 J8 rfl #[.agg #[.int .i64 ((rd_T32 l0 x5_1).f0), .slice A536_1 ((rd_T32 l0 x5_1).f1).length c536_1, .slice A536_2 ((rd_T32 l0 x5_1).f2).length c536_2, .slice A536_3 ((rd_T32 l0 x5_1).f3).length c536_3], .agg #[.int .i64 ((rd_T32 l1 x5_1).f0), .slice A537_1 ((rd_T32 l1 x5_1).f1).length c537_1, .slice A537_2 ((rd_T32 l1 x5_1).f2).length c537_2, .slice A537_3 ((rd_T32 l1 x5_1).f3).length c537_3]] J93 rfl rfl J1 ?_
      with_reducible refine (deckleref10_One.calls k1 ((rd_T32 l0 x5_1).f0) _ _ ((rd_T32 l0 x5_1).f1) _ _ ((rd_T32 l0 x5_1).f2) _ _ ((rd_T32 l0 x5_1).f3) ((rd_T32 l1 x5_1).f0) _ _ ((rd_T32 l1 x5_1).f1) _ _ ((rd_T32 l1 x5_1).f2) _ _ ((rd_T32 l1 x5_1).f3) true _ ?side1 ?side2 ?side3 ?side4 ?side5 ?side6 ?side7 ?side8 ?side9 ?side10 ?side11 ?side12 A7.out).mono ?_
      (case side1 => exact zc (Kd.C_below HR536_1.out HB.out))
      (case side2 => exact HC536_1.out)
      (case side3 => exact zc (Kd.C_below HR536_2.out HB.out))
      (case side4 => exact HC536_2.out)
      (case side5 => exact zc (Kd.C_below HR536_3.out HB.out))
      (case side6 => exact HC536_3.out)
      (case side7 => exact zc (Kd.C_below HR537_1.out HB.out))
      (case side8 => exact HC537_1.out)
      (case side9 => exact zc (Kd.C_below HR537_2.out HB.out))
      (case side10 => exact HC537_2.out)
      (case side11 => exact zc (Kd.C_below HR537_3.out HB.out))
      (case side12 => exact HC537_3.out)
      rintro e w10 ⟨rfl, hb⟩
      refine ⟨_, rfl, ?_⟩
      replace HB := zq (below_step J0 hb)
      (try clear hb)
      (try clear hb2)
      (try clear hk)
      (try clear hi)
      refine hK.out _ _ ⟨((HB.out.cell (World.block_lt_of_cell? w _ hw536_0)).trans hw536_0), ((HB.out.cell (World.block_lt_of_cell? w _ hw536_1)).trans hw536_1), ((HB.out.cell (World.block_lt_of_cell? w _ hw536_2)).trans hw536_2), ((HB.out.cell (World.block_lt_of_cell? w _ hw536_3)).trans hw536_3), ((HB.out.cell (World.block_lt_of_cell? w _ hw537_0)).trans hw537_0), ((HB.out.cell (World.block_lt_of_cell? w _ hw537_1)).trans hw537_1), ((HB.out.cell (World.block_lt_of_cell? w _ hw537_2)).trans hw537_2), ((HB.out.cell (World.block_lt_of_cell? w _ hw537_3)).trans hw537_3)⟩ (fun hHeld => ?_)
      clear hK K
      refine norm_ (a' := ?_) ?_ ?_
      rotate_left
      · show Act.put _ (some 25) _ = _
        simp only [Act.put, List.setIfInBounds_toArray, List.set_cons_zero, List.set_cons_succ, i64_w, i32_w]
        rfl
      refine pure_ (i := 9) (N := some 26) (v := ?_) (a' := ?_) #[Y,Y,Y,Y,Y,Y,Y,Y,Y,Y] rfl rfl (any_of HT_.out J8) (fun _ _ _ h => h) (Or.inl ⟨J93, ?_⟩) ?_ ?_
      rotate_left
      · exact pz0
      rotate_left
      · exact pz1
      refine done_ (done_of HT_.out J8) ?_
      try go_wp2
      go_roundg k1
      case measure => have := HK1.out; omega
      case rel => exact ⟨(wrap64 (x5_1 + 1)), J4, H', ⟨J73⟩, ⟨J0⟩⟩
def deckleref16_Same.l0 : Nat → List ByteArray → List ByteArray → Int → Option (Bool)
  | 0, _, _, _ => none
  | k + 1, x0, x1, x5 => if x5 < (x0.length : Int) then (if 0 ≤ x5 then (if x5 < (x1.length : Int) then (if (rdOf ByteArray.empty x0 x5).toList = (rdOf ByteArray.empty x1 x5).toList then (deckleref16_Same.l0 k x0 x1 (wrap64 (x5 + 1))) else (some false)) else (none)) else (none)) else (some true)
def deckleref16_Same.f (k : Nat) (l0 : List ByteArray) (l1 : List ByteArray) : Option (Bool) := if (l0.length : Int) = (l1.length : Int) then (deckleref16_Same.l0 k l0 l1 0) else (some false)
theorem deckleref16_Same.mono_l : ∀ k, (∀ y0 y1 y2, LeO (deckleref16_Same.l0 k y0 y1 y2) (deckleref16_Same.l0 (k + 1) y0 y1 y2))
  | 0 => fun _ _ _ r h => by simp [deckleref16_Same.l0] at h
  | k + 1 => by
    have ih0 := deckleref16_Same.mono_l k
    · intro y0 y1 y2
      unfold deckleref16_Same.l0
      exact mz0
theorem deckleref16_Same.mono : ∀ a0 a1 k, LeO (deckleref16_Same.f k a0 a1) (deckleref16_Same.f (k + 1) a0 a1) := by
  intro a0 a1 k
  have ih0 := deckleref16_Same.mono_l k
  unfold deckleref16_Same.f
  exact mz0
set_option maxHeartbeats 8000000 in
set_option maxRecDepth 100000 in
theorem deckleref16_Same.calls (k : Nat) (A0 : Option Addr) (c0 : Nat) (l0 : List ByteArray) (A1 : Option Addr) (c1 : Nat) (l1 : List ByteArray) (r : Bool) (w : World) (hr0 : Kd.C Kd.string w A0 l0.length l0) (hc0 : l0.length ≤ c0) (hr1 : Kd.C Kd.string w A1 l1.length l1) (hc1 : l1.length ≤ c1) (h : deckleref16_Same.f k l0 l1 = some r) :
    Calls Tryd.prog 15 #[.slice A0 l0.length c0, .slice A1 l1.length c1] w fun e w' => e = .returned (.bool r) ∧ Drawn0 w w' := by
  have HR0 := zq hr0
  have HC0 := zq hc0
  clear hr0 hc0
  have HR1 := zq hr1
  have HC1 := zq hc1
  clear hr1 hc1
  have H : (if (l0.length : Int) = (l1.length : Int) then (deckleref16_Same.l0 k l0 l1 0) else (some false)) = some r := h
  clear h
  by_cases c3 : (l0.length : Int) = (l1.length : Int)
  rotate_left
  · rw [if_neg c3] at H
    have c3b0 : ((l0.length : Int) == (l1.length : Int)) = false := beq_eq_false_iff_ne.mpr c3
    have c3b1 : ((l0.length : Int) != (l1.length : Int)) = true := bne_iff_ne.mpr c3
    have c3b2 : (l0.length == l1.length) = false := J42
    obtain rfl := Option.some.inj H
    go_enter Tryd.func15, Tryd.ntmps15
    go_wp2
    repeat (go_quiet (fail); try go_wp2)
    go_ret
    exact ⟨J4, J7⟩
  rw [if_pos c3] at H
  have c3b0 : ((l0.length : Int) == (l1.length : Int)) = true := beq_iff_eq.mpr c3
  have c3b1 : ((l0.length : Int) != (l1.length : Int)) = false := bne_eq_false_iff_eq.mpr c3
  have c3b2 : (l0.length == l1.length) = true := J42
  clear c3
  have H' := zq H
  clear H
  go_enter Tryd.func15, Tryd.ntmps15
  go_wp2
  repeat (go_quiet (fail); try go_wp2)
  go_loopg [5] k (fun kq v5 w' => ∃ (x5_1 : Int), v5 = .int .i64 x5_1 ∧ Aside0 (deckleref16_Same.l0 kq l0 l1 x5_1 = some r) ∧ Aside0 (kq ≤ k) ∧ Drawn0 w w')
  case atStart => exact ⟨(0), J4, H', ⟨Nat.le_refl _⟩, J7⟩
  case round =>
    clear H'
    try clear c1
    try clear p2
    try clear c3
    try clear c3b0
    try clear c3b1
    try clear c3b2
    obtain ⟨x5_1, rfl, HA, HK1, ⟨m1, rfl⟩⟩ := hrel
    cases gk with
    | zero => exact absurd HA.out (by simp [deckleref16_Same.l0])
    | succ k1 =>
      have H := HA.out
      clear HA
      simp only [deckleref16_Same.l0] at H
      by_cases c4 : x5_1 < (l0.length : Int)
      rotate_left
      · rw [if_neg c4] at H
        have c4b0 := decide_eq_false c4
        clear c4
        obtain rfl := Option.some.inj H
        go_wp2
        repeat (go_quiet (fail); try go_wp2)
        go_ret
        exact ⟨J4, J7⟩
      rw [if_pos c4] at H
      have c4b0 := decide_eq_true c4
      clear c4
      by_cases c5 : 0 ≤ x5_1
      rotate_left
      · rw [if_neg c5] at H
        exact absurd H J32
      rw [if_pos c5] at H
      have c5b0 := decide_eq_true c5
      clear c5
      by_cases c6 : x5_1 < (l1.length : Int)
      rotate_left
      · rw [if_neg c6] at H
        exact absurd H J32
      rw [if_pos c6] at H
      have c6b0 := decide_eq_true c6
      clear c6
      by_cases c7 : (rdOf ByteArray.empty l0 x5_1).toList = (rdOf ByteArray.empty l1 x5_1).toList
      rotate_left
      · rw [if_neg c7] at H
        have c7b0 : ((rdOf ByteArray.empty l0 x5_1).toList == (rdOf ByteArray.empty l1 x5_1).toList) = false := beq_eq_false_iff_ne.mpr c7
        have c7b1 : ((rdOf ByteArray.empty l0 x5_1).toList != (rdOf ByteArray.empty l1 x5_1).toList) = true := bne_iff_ne.mpr c7
        obtain rfl := Option.some.inj H
        have p539 : 0 ≤ (x5_1 : Int) := of_decide_eq_true J3
        have q539 : x5_1 < (l0.length : Int) := of_decide_eq_true J3
        obtain ⟨ad539, e539, hx539_0⟩ := Kd.at_string HR0.out x5_1 p539 q539
        cases e539
        replace p539 := eq_true p539
        replace q539 := eq_true q539
        have p540 : 0 ≤ (x5_1 : Int) := of_decide_eq_true J3
        have q540 : x5_1 < (l1.length : Int) := of_decide_eq_true J3
        obtain ⟨ad540, e540, hx540_0⟩ := Kd.at_string HR1.out x5_1 p540 q540
        cases e540
        replace p540 := eq_true p540
        replace q540 := eq_true q540
        go_wp2
        repeat (go_quiet (fail); try go_wp2)
        go_ret
        exact ⟨J4, J7⟩
      rw [if_pos c7] at H
      have c7b0 : ((rdOf ByteArray.empty l0 x5_1).toList == (rdOf ByteArray.empty l1 x5_1).toList) = true := beq_iff_eq.mpr c7
      have c7b1 : ((rdOf ByteArray.empty l0 x5_1).toList != (rdOf ByteArray.empty l1 x5_1).toList) = false := bne_eq_false_iff_eq.mpr c7
      clear c7
      have H' := zq H
      clear H
      have p539 : 0 ≤ (x5_1 : Int) := of_decide_eq_true J3
      have q539 : x5_1 < (l0.length : Int) := of_decide_eq_true J3
      obtain ⟨ad539, e539, hx539_0⟩ := Kd.at_string HR0.out x5_1 p539 q539
      cases e539
      replace p539 := eq_true p539
      replace q539 := eq_true q539
      have p540 : 0 ≤ (x5_1 : Int) := of_decide_eq_true J3
      have q540 : x5_1 < (l1.length : Int) := of_decide_eq_true J3
      obtain ⟨ad540, e540, hx540_0⟩ := Kd.at_string HR1.out x5_1 p540 q540
      cases e540
      replace p540 := eq_true p540
      replace q540 := eq_true q540
      go_wp2
      repeat (go_quiet (fail); try go_wp2)
      go_roundg k1
      case measure => have := HK1.out; omega
      case rel => exact ⟨(wrap64 (x5_1 + 1)), J4, H', ⟨J73⟩, J7⟩
end Go.Proofs.YtfjhiiaahbjaiaaDoor.HSystemSigns
