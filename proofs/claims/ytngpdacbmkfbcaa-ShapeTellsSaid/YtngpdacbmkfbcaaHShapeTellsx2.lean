-- Written by the session's program hy.py.
import Derived.Test.YtngpdacbmkfbcaaHShapeTellsx0
import Derived.Test.YtngpdacbmkfbcaaHShapeTellsx1
namespace Go.Proofs.Ytngpdacbmkfbcaa.HShapeTells
open Go.RowKit Go.Proofs.YtngpdacbmkfbcaaW.PrintWords Go.Proofs.YtngpdacbmkfbcaaW.PrintLast Go.Proofs.YtngpdacbmkfbcaaW.PrintMore
attribute [local go_sem] max2_int min2_int max_two min_two max_three min_three max_four min_four   -- for this text's walks alone
set_option linter.unusedVariables false
set_option linter.unusedSimpArgs false

/-! ### shape_Index: function 13 -/
mutual
def shape_Index.j0 : Nat → List Int → Int → Int → Bool → Option (List Int × Bool)
  | 0, _, _, _, _ => none
  | k + 1, x0, x1, x6, x25 => if x25 = true then (some (([] : List Int), false)) else (if 0 ≤ (x0.length : Int) then (if ((x0.length : Int) : Int).toNat ≤ 35184372088832 then (shape_Index.l0 k x0 x1 x6 (List.replicate ((x0.length : Int) : Int).toNat 0) (x0.length : Int) 0) else (none)) else (none))
def shape_Index.l0 : Nat → List Int → Int → Int → List Int → Int → Int → Option (List Int × Bool)
  | 0, _, _, _, _, _, _ => none
  | k + 1, x0, x1, x6, x8, x30, x31 => if x31 < x30 then (if 0 ≤ x31 then (if x31 < (x0.length : Int) then (if (rd x0 x31) = 0 then (none) else (if (wrap64 (Int.tdiv x6 (rd x0 x31))) = 0 then (none) else (if x31 < (x8.length : Int) then (shape_Index.l0 k x0 (Int.tmod x1 (wrap64 (Int.tdiv x6 (rd x0 x31)))) (wrap64 (Int.tdiv x6 (rd x0 x31))) (x8.set (x31 : Int).toNat (wrap64 (Int.tdiv x1 (wrap64 (Int.tdiv x6 (rd x0 x31)))))) x30 (wrap64 (x31 + 1))) else (none)))) else (none)) else (none)) else (some (x8, true))
end
def shape_Index.f (k : Nat) (l0 : List Int) (a1 : Int) : Option (List Int × Bool) := (shape_Count.f k l0).bind fun bt115 => (if bt115.2 = true then (if a1 < 0 then (shape_Index.j0 k l0 a1 bt115.1 true) else (shape_Index.j0 k l0 a1 bt115.1 (decide (a1 ≥ bt115.1)))) else (shape_Index.j0 k l0 a1 bt115.1 true))
theorem shape_Index.mono_l : ∀ k, (∀ y0 y1 y2 y3, LeO (shape_Index.j0 k y0 y1 y2 y3) (shape_Index.j0 (k + 1) y0 y1 y2 y3)) ∧ (∀ y0 y1 y2 y3 y4 y5, LeO (shape_Index.l0 k y0 y1 y2 y3 y4 y5) (shape_Index.l0 (k + 1) y0 y1 y2 y3 y4 y5))
  | 0 => ⟨fun _ _ _ _ r h => by simp [shape_Index.j0] at h, fun _ _ _ _ _ _ r h => by simp [shape_Index.l0] at h⟩
  | k + 1 => by
    obtain ⟨ih0, ih1⟩ := shape_Index.mono_l k
    refine ⟨?_, ?_⟩
    · intro y0 y1 y2 y3
      unfold shape_Index.j0
      repeat' first
      | (with_reducible exact ih0 _ _ _ _)
      | (with_reducible exact ih1 _ _ _ _ _ _)
      | (with_reducible exact shape_Count.mono _ _)
      | (with_reducible exact LeO.refl _)
      | (with_reducible exact LeO.none _)
      | (with_reducible refine LeO.ite ?_ ?_)
      | (with_reducible refine LeO.bind ?_ (fun _ => ?_))
      | exact ih0 _ _ _ _
      | exact ih1 _ _ _ _ _ _
      | exact shape_Count.mono _ _
      | exact LeO.none _
      | refine LeO.ite ?_ ?_
      | refine LeO.bind ?_ (fun _ => ?_)
    · intro y0 y1 y2 y3 y4 y5
      unfold shape_Index.l0
      repeat' first
      | (with_reducible exact ih0 _ _ _ _)
      | (with_reducible exact ih1 _ _ _ _ _ _)
      | (with_reducible exact shape_Count.mono _ _)
      | (with_reducible exact LeO.refl _)
      | (with_reducible exact LeO.none _)
      | (with_reducible refine LeO.ite ?_ ?_)
      | (with_reducible refine LeO.bind ?_ (fun _ => ?_))
      | exact ih0 _ _ _ _
      | exact ih1 _ _ _ _ _ _
      | exact shape_Count.mono _ _
      | exact LeO.none _
      | refine LeO.ite ?_ ?_
      | refine LeO.bind ?_ (fun _ => ?_)
theorem shape_Index.mono : ∀ a0 a1 k, LeO (shape_Index.f k a0 a1) (shape_Index.f (k + 1) a0 a1) := by
  intro a0 a1 k
  obtain ⟨ih0, ih1⟩ := shape_Index.mono_l k
  unfold shape_Index.f
  repeat' first
      | (with_reducible exact ih0 _ _ _ _)
      | (with_reducible exact ih1 _ _ _ _ _ _)
      | (with_reducible exact shape_Count.mono _ _)
      | (with_reducible exact LeO.refl _)
      | (with_reducible exact LeO.none _)
      | (with_reducible refine LeO.ite ?_ ?_)
      | (with_reducible refine LeO.bind ?_ (fun _ => ?_))
      | exact ih0 _ _ _ _
      | exact ih1 _ _ _ _ _ _
      | exact shape_Count.mono _ _
      | exact LeO.none _
      | refine LeO.ite ?_ ?_
      | refine LeO.bind ?_ (fun _ => ?_)
def shape_Index.T9 : Bool × List (List Nat × List Nat) := (true, [([], []), ([], []), ([], []), ([], []), ([2, 3], [2, 3]), ([], []), ([], []), ([5, 6], [5, 6]), ([0, 1, 0, 1, 2, 3, 4], [0, 1]), ([8, 4, 0, 1, 2, 3, 4], [4, 8]), ([7, 9, 0, 1, 2, 3, 4, 5, 6, 7, 8, 9], [2, 5, 7])])
def shape_Index.B9 : List Nat := [0, 0, 0, 0, 12, 0, 0, 96, 31, 287, 1023]
theorem shape_Index.tab9 : rtab .any (opsOf Try.f13 9) = shape_Index.T9 := by kernel_rfl
theorem shape_Index.bits9 : waitsOk shape_Index.T9.2 shape_Index.B9 = true := by kernel_rfl
set_option maxHeartbeats 8000000 in
set_option maxRecDepth 100000 in
theorem shape_Index.calls (k : Nat) (A0 : Option Addr) (c0 : Nat) (l0 : List Int) (a1 : Int) (r1 : List Int) (r2 : Bool) (w : World) (hr0 : Kd.C (Kd.int .i64) w A0 l0.length l0) (hc0 : l0.length ≤ c0) (h : shape_Index.f k l0 a1 = some (r1, r2)) :
    Calls Try.prog 13 #[.slice A0 l0.length c0, .int .i64 a1] w fun e w' => ∃ v0_ : Value, e = .returned (.tuple #[v0_, .bool r2]) ∧ Kd.R (Kd.int .i64) 3 w' w.heap.size (fun _ => True) v0_ r1 ∧ Below w.heap.size w w' := by
  have HR0 := Aside0.mk hr0
  have HC0 := Aside0.mk hc0
  clear hr0 hc0
  have HB := Aside0.mk (Below.refl w.heap.size w)
  have H : ((shape_Count.f k l0).bind fun bt115 => (if bt115.2 = true then (if a1 < 0 then (shape_Index.j0 k l0 a1 bt115.1 true) else (shape_Index.j0 k l0 a1 bt115.1 (decide (a1 ≥ bt115.1)))) else (shape_Index.j0 k l0 a1 bt115.1 true))) = some (r1, r2) := h
  clear h
  replace H := Option.bind_eq_some_iff.mp H
  obtain ⟨⟨t115, t116⟩, A30, H⟩ := H
  replace H : (if t116 = true then (if a1 < 0 then (shape_Index.j0 k l0 a1 t115 true) else (shape_Index.j0 k l0 a1 t115 (decide (a1 ≥ t115)))) else (shape_Index.j0 k l0 a1 t115 true)) = some (r1, r2) := H
  have A3 := Aside0.mk A30
  clear A30
  have HC4 := Aside0.mk H
  clear H
  go_enter Try.func13, Try.ntmps13
  go_upto_region 2 with (first | ((with_reducible refine gate_callee (f := 9) rfl ?_); refine goesL_ (some 12) rfl rfl Try.func9 (by kernel_rfl) rfl #[.slice A0 l0.length c0] rfl (by (try simp only [List.map_toArray, List.map_cons, List.map_nil]); first | done | rfl | (simp only [List.length_drop, List.length_take]; rfl)) ?_; (with_reducible refine (shape_Count.calls k _ _ l0 t115 t116 _ ?side1 ?side2 A3.out).mono ?_); (case side1 => repeat (first | exact HR0.out | (with_reducible refine Kd.C_alloc ?_ _) | (with_reducible refine Kd.C_drewN ?_ _) | (with_reducible refine Kd.C_drew ?_))); (case side2 => exact HC0.out); rintro e w' ⟨rfl, ⟨nd, rfl⟩⟩; refine ⟨_, rfl, ?_⟩))
  (try simp only [Act.put, List.setIfInBounds_toArray, List.set_cons_zero, List.set_cons_succ])
  go_cut [25] (fun v25 wc => ∃ (kq : Nat) (x25_3 : Bool), v25 = .bool x25_3 ∧ Aside0 (shape_Index.j0 kq l0 a1 t115 x25_3 = some (r1, r2)) ∧ Aside0 (kq ≤ k) ∧ Aside0 (Below w.heap.size w wc))
  case first =>
    have H := HC4.out
    clear HC4
    by_cases c5 : t116 = true
    · subst c5
      have H1 : (if a1 < 0 then (shape_Index.j0 k l0 a1 t115 true) else (shape_Index.j0 k l0 a1 t115 (decide (a1 ≥ t115)))) = some (r1, r2) := by rw [if_pos rfl] at H; exact H
      clear H
      have H := H1
      clear H1
      by_cases c6 : a1 < 0
      · rw [if_pos c6] at H
        have c6b0 : decide (a1 < 0) = true := decide_eq_true c6
        clear c6
        (first | rw [c6b0] | (simp only [i64_w, i32_w]; rw [c6b0]) | skip)
        have H' := Aside0.mk H
        clear H
        go_wp2
        go_meet
        case rel => exact ⟨_, (true), (by first | rfl | (simp; done) | (simp [*]; done)), H', ⟨by first | omega | exact Nat.le_refl _⟩, ⟨by repeat (first | (with_reducible first | exact HB.out | apply below_alloc | apply pw_below_drewN | apply below_drew1) | exact HB.out)⟩⟩
      · rw [if_neg c6] at H
        have c6b0 : decide (a1 < 0) = false := decide_eq_false c6
        clear c6
        (first | rw [c6b0] | (simp only [i64_w, i32_w]; rw [c6b0]) | skip)
        have H' := Aside0.mk H
        clear H
        go_wp2
        go_meet
        case rel => exact ⟨_, (decide (a1 ≥ t115)), (by first | rfl | (simp; done) | (simp [*]; done)), H', ⟨by first | omega | exact Nat.le_refl _⟩, ⟨by repeat (first | (with_reducible first | exact HB.out | apply below_alloc | apply pw_below_drewN | apply below_drew1) | exact HB.out)⟩⟩
    · replace c5 := Bool.eq_false_iff.mpr c5
      subst c5
      have H1 : (shape_Index.j0 k l0 a1 t115 true) = some (r1, r2) := by rw [if_neg (show ¬ (false = true) by decide)] at H; exact H
      clear H
      have H := H1
      clear H1
      have H' := Aside0.mk H
      clear H
      go_wp2
      go_meet
      case rel => exact ⟨_, (true), (by first | rfl | (simp; done) | (simp [*]; done)), H', ⟨by first | omega | exact Nat.le_refl _⟩, ⟨by repeat (first | (with_reducible first | exact HB.out | apply below_alloc | apply pw_below_drewN | apply below_drew1) | exact HB.out)⟩⟩
  case rest =>
    clear HC4
    try clear c1
    try clear p2
    try clear c5
    try clear c6
    try clear c6b0
    obtain ⟨kq, x25_3, rfl, HA, HJ3, HB⟩ := hcut
    cases kq with
    | zero => exact absurd HA.out (by simp [shape_Index.j0])
    | succ kj3 =>
      have H := HA.out
      clear HA
      simp only [shape_Index.j0] at H
      by_cases c7 : x25_3 = true
      · subst c7
        have H1 : (some (([] : List Int), false)) = some (r1, r2) := by rw [if_pos rfl] at H; exact H
        clear H
        have H := H1
        clear H1
        simp only [Option.some.injEq, Prod.mk.injEq] at H
        obtain ⟨rfl, rfl⟩ := H
        go_wp2
        go_ret2
        exact ⟨_, by first | rfl | (simp [errW_none, errW_some] <;> rfl) | (simp [*, errW_none, errW_some] <;> rfl), by first | exact Kd.R_nil _ _ _ _ _ | exact Kd.N_nil _ _ _ _ _ | exact Kd.V_nil _ _ _ _ _ | exact Kd.Q_nil _ _ _ _ _ | exact Kd.S_nil _ _ _ _ _, by repeat (first | (with_reducible first | exact HB.out | apply below_alloc | apply pw_below_drewN | apply below_drew1) | exact HB.out)⟩
      · replace c7 := Bool.eq_false_iff.mpr c7
        subst c7
        have H1 : (if 0 ≤ (l0.length : Int) then (if ((l0.length : Int) : Int).toNat ≤ 35184372088832 then (shape_Index.l0 kj3 l0 a1 t115 (List.replicate ((l0.length : Int) : Int).toNat 0) (l0.length : Int) 0) else (none)) else (none)) = some (r1, r2) := by rw [if_neg (show ¬ (false = true) by decide)] at H; exact H
        clear H
        have H := H1
        clear H1
        by_cases c8 : 0 ≤ (l0.length : Int)
        · rw [if_pos c8] at H
          have c8b0 := eq_true c8
          have c8b1 : decide (0 ≤ (l0.length : Int)) = true := decide_eq_true c8
          clear c8
          by_cases c9 : ((l0.length : Int) : Int).toNat ≤ 35184372088832
          · rw [if_pos c9] at H
            have c9b0 := eq_true c9
            have c9b1 : decide (((l0.length : Int) : Int).toNat ≤ 35184372088832) = true := decide_eq_true c9
            clear c9
            obtain ⟨y117, hy117⟩ : ∃ y_ : List Int, y_ = (List.replicate ((l0.length : Int) : Int).toNat 0) := ⟨_, rfl⟩
            replace H : (shape_Index.l0 kj3 l0 a1 t115 y117 (l0.length : Int) 0) = some (r1, r2) := by first | (rw [hy117]; with_reducible exact H) | (have H2_ := (Option.bind_some _ _).symm.trans H; rw [hy117]; with_reducible exact H2_) | (have H2_ := (Option.bind_some _ _).symm.trans H; with_reducible exact H2_) | with_reducible exact H | (rw [hy117]; exact H) | exact H
            have Ny117 := Aside0.mk hy117
            clear hy117
            have H' := Aside0.mk H
            clear H
            go_wp2_with (first | ((with_reducible refine gate_dst (N := 28) rfl ?_); refine Kd.R_make (Kd.int .i64) _ 3 rfl (N := 28) rfl 22 _ _ rfl (l0.length : Int) rfl rfl Try.underlying22 (.int .i64 0) 8 info3 rfl (by decide) (by omega) 0 (ok := fun _ => True) (okp := fun _ => True) rfl (fun _ hk => hk) trivial (of_decide_eq_true (by first | (with_reducible assumption) | assumption)) (Nat.le_trans (Nat.mul_le_mul_right _ (of_decide_eq_true (by first | (with_reducible assumption) | assumption) : (l0.length : Int).toNat ≤ 35184372088832)) (by omega)) (Below.refl _ _) (Nat.le_refl _) ?_; intro v118 w10 ho11 hb hg_ hnew_; clear hg_ hnew_; (first | rw [← Ny117.out] at ho11 | (simp only [Int.reduceToNat] at ho11; rw [← Ny117.out] at ho11)); have n0_ := Aside0.mk (Kd.R_lower ho11 (below_size (by repeat (first | (with_reducible first | exact HB.out | apply below_alloc | apply pw_below_drewN | apply below_drew1) | exact HB.out)))); have n1_ := Aside0.mk (below_step (by repeat (first | (with_reducible first | exact HB.out | apply below_alloc | apply pw_below_drewN | apply below_drew1) | exact HB.out)) hb); clear HB; have HO119 := n0_; have HB := n1_; clear n0_ n1_; clear hb ho11))
            go_loopg [1, 6, 31] kj3 (fun kq v1 v6 v31 w' => ∃ (x1_2 : Int) (x6_2 : Int) (x8_2 : List Int) (x31_2 : Int), v1 = .int .i64 x1_2 ∧ v6 = .int .i64 x6_2 ∧ v31 = .int .i64 x31_2 ∧ Aside0 (shape_Index.l0 kq l0 x1_2 x6_2 x8_2 (l0.length : Int) x31_2 = some (r1, r2)) ∧ Aside0 (kq ≤ kj3) ∧ Aside0 (Kd.R (Kd.int .i64) 3 w' w.heap.size (fun _ => True) v118 x8_2) ∧ Aside0 (Below w.heap.size w w'))
            case atStart => exact ⟨(a1), (t115), (y117), (0), (by first | rfl | (simp; done) | (simp [*]; done)), (by first | rfl | (simp; done) | (simp [*]; done)), (by first | rfl | (simp; done) | (simp [*]; done)), H', ⟨Nat.le_refl _⟩, ⟨by (with_reducible repeat (first | apply Kd.R_alloc | apply Kd.R_drewN | apply Kd.R_drew)); exact HO119.out⟩, ⟨by repeat (first | (with_reducible first | exact HB.out | apply below_alloc | apply pw_below_drewN | apply below_drew1) | exact HB.out)⟩⟩
            case round =>
              clear H'
              try clear c1
              try clear p2
              try clear c5
              try clear c6
              try clear c6b0
              try clear c7
              try clear c8
              try clear c8b0
              try clear c8b1
              try clear c9
              try clear c9b0
              try clear c9b1
              try clear p2
              obtain ⟨x1_2, x6_2, x8_2, x31_2, rfl, rfl, rfl, HA, HK2, HO_8, HB⟩ := hrel
              cases gk with
              | zero => exact absurd HA.out (by simp [shape_Index.l0])
              | succ k2 =>
                have H := HA.out
                clear HA
                simp only [shape_Index.l0] at H
                by_cases c12 : x31_2 < (l0.length : Int)
                · rw [if_pos c12] at H
                  have c12b0 : decide (x31_2 < (l0.length : Int)) = true := decide_eq_true c12
                  clear c12
                  by_cases c13 : 0 ≤ x31_2
                  · rw [if_pos c13] at H
                    have c13b0 : decide (0 ≤ x31_2) = true := decide_eq_true c13
                    clear c13
                    by_cases c14 : x31_2 < (l0.length : Int)
                    · rw [if_pos c14] at H
                      have c14b0 : decide (x31_2 < (l0.length : Int)) = true := decide_eq_true c14
                      clear c14
                      by_cases c15 : (rd l0 x31_2) = 0
                      · rw [if_pos c15] at H
                        exact absurd H (by simp)
                      · rw [if_neg c15] at H
                        have c15b0 : ((rd l0 x31_2) == 0) = false := beq_eq_false_iff_ne.mpr c15
                        have c15b1 : ((rd l0 x31_2) != 0) = true := bne_iff_ne.mpr c15
                        by_cases c16 : (wrap64 (Int.tdiv x6_2 (rd l0 x31_2))) = 0
                        · rw [if_pos c16] at H
                          exact absurd H (by simp)
                        · rw [if_neg c16] at H
                          have c16b0 : ((wrap64 (Int.tdiv x6_2 (rd l0 x31_2))) == 0) = false := beq_eq_false_iff_ne.mpr c16
                          have c16b1 : ((wrap64 (Int.tdiv x6_2 (rd l0 x31_2))) != 0) = true := bne_iff_ne.mpr c16
                          by_cases c17 : x31_2 < (x8_2.length : Int)
                          · rw [if_pos c17] at H
                            have c17b0 : decide (x31_2 < (x8_2.length : Int)) = true := decide_eq_true c17
                            clear c17
                            obtain ⟨y121, hy121⟩ : ∃ y_ : List Int, y_ = (x8_2.set (x31_2 : Int).toNat (wrap64 (Int.tdiv x1_2 (wrap64 (Int.tdiv x6_2 (rd l0 x31_2)))))) := ⟨_, rfl⟩
                            replace H : (shape_Index.l0 k2 l0 (Int.tmod x1_2 (wrap64 (Int.tdiv x6_2 (rd l0 x31_2)))) (wrap64 (Int.tdiv x6_2 (rd l0 x31_2))) y121 (l0.length : Int) (wrap64 (x31_2 + 1))) = some (r1, r2) := by first | (rw [hy121]; with_reducible exact H) | (have H2_ := (Option.bind_some _ _).symm.trans H; rw [hy121]; with_reducible exact H2_) | (have H2_ := (Option.bind_some _ _).symm.trans H; with_reducible exact H2_) | with_reducible exact H | (rw [hy121]; exact H) | exact H
                            have Ny121 := Aside0.mk hy121
                            clear hy121
                            have H' := Aside0.mk H
                            clear H
                            have p120 : 0 ≤ (x31_2 : Int) := of_decide_eq_true (by first | (with_reducible assumption) | assumption)
                            have q120 : x31_2 < (l0.length : Int) := of_decide_eq_true (by first | (with_reducible assumption) | assumption)
                            obtain ⟨ad120, e120, hx120_0⟩ := Kd.at_int HR0.out x31_2 p120 q120
                            cases e120
                            replace hx120_0 := (HB.out.cell (World.block_lt_of_cell? w _ hx120_0)).trans hx120_0
                            replace p120 := eq_true p120
                            replace q120 := eq_true q120
                            try go_wp2
                            have n0_ := Aside0.mk (Kd.R_drew HO_8.out)
                            have n1_ := Aside0.mk (below_drew1 HB.out)
                            clear HO_8
                            clear HB
                            have HO_8 := n0_
                            have HB := n1_
                            clear n0_ n1_
                            have p18 : 0 ≤ (x31_2 : Int) := of_decide_eq_true (by first | (with_reducible assumption) | assumption)
                            have q18 : (x31_2 : Int) < ((x8_2.length : Int) : Int) := of_decide_eq_true (by first | (with_reducible assumption) | assumption)
                            obtain ⟨go18, co18, eo18, gb18, gl18, cl18, HG18⟩ := Kd.R_form HO_8.out (by omega)
                            (first | cases eo18 | (injection eo18 with ea_ en_ ec_; (first | subst ea_ | (injection ea_ with ea_; subst ea_)); subst ec_; clear en_))
                            have GB18 := Aside0.mk gb18
                            have GG18 := Aside0.mk HG18
                            clear gb18 gl18 HG18
                            obtain ⟨hx18_0, hf18_0⟩ := Kd.R_celln 0 HO_8.out (x31_2 : Int) p18 q18
                            replace p18 := eq_true p18
                            replace q18 := eq_true q18
                            have HP20 := Kd.R_putn HO_8.out (x31_2 : Int) (wrap64 (Int.tdiv x1_2 (wrap64 (Int.tdiv x6_2 (rd l0 x31_2)))))
                            rw [← Ny121.out] at HP20
                            have HQ20 := Aside0.mk HP20
                            clear HP20
                            refine start_ (n := 11) (S := fun w' => True) (ds := [9]) #[false, false, false, false, false, false, false, false, false, false, false] (by kernel_rfl) rfl rfl trivial (fun hHeld => ?_); refine with_tabW shape_Index.tab9 shape_Index.bits9 (fun HT_ HW_ => ?_)
                            generalize wr.drew = w19 at HO_8 HB GG18 HQ20 hf18_0 hx18_0 hHeld ⊢
                            refine pure_ (i := 0) (N := some 40) (v := ?_) (a' := ?_) #[true, false, false, false, false, false, false, false, false, false, false] rfl rfl (any_of HT_.out (by kernel_rfl)) (fun _ _ _ h => h) (Or.inl ⟨by rfl, ?_⟩) ?_ ?_
                            rotate_left
                            · intro w'
                              go_simp
                              with_reducible rfl
                            rotate_left
                            · simp only [Act.put, List.setIfInBounds_toArray, List.set_cons_zero, List.set_cons_succ, i64_w, i32_w]
                              rfl
                            refine pure_ (i := 1) (N := some 41) (v := ?_) (a' := ?_) #[true, true, false, false, false, false, false, false, false, false, false] rfl rfl (any_of HT_.out (by kernel_rfl)) (fun _ _ _ h => h) (Or.inl ⟨by rfl, ?_⟩) ?_ ?_
                            rotate_left
                            · intro w'
                              go_simp
                              with_reducible rfl
                            rotate_left
                            · simp only [Act.put, List.setIfInBounds_toArray, List.set_cons_zero, List.set_cons_succ, i64_w, i32_w]
                              rfl
                            refine pure_ (i := 2) (N := some 42) (v := ?_) (a' := ?_) #[true, true, true, false, false, false, false, false, false, false, false] rfl rfl (any_of HT_.out (by kernel_rfl)) (fun _ _ _ h => h) (Or.inl ⟨by rfl, ?_⟩) ?_ ?_
                            rotate_left
                            · intro w'
                              go_simp
                              with_reducible rfl
                            rotate_left
                            · simp only [Act.put, List.setIfInBounds_toArray, List.set_cons_zero, List.set_cons_succ, i64_w, i32_w]
                              rfl
                            refine pure_ (i := 3) (N := some 43) (v := ?_) (a' := ?_) #[true, true, true, true, false, false, false, false, false, false, false] rfl rfl (any_of HT_.out (by kernel_rfl)) (fun _ _ _ h => h) (Or.inl ⟨by rfl, ?_⟩) ?_ ?_
                            rotate_left
                            · intro w'
                              go_simp
                              with_reducible rfl
                            rotate_left
                            · simp only [Act.put, List.setIfInBounds_toArray, List.set_cons_zero, List.set_cons_succ, i64_w, i32_w]
                              rfl
                            refine pure_ (i := 4) (N := some 44) (v := ?_) (a' := ?_) #[true, true, true, true, true, false, false, false, false, false, false] rfl rfl (any_of HT_.out (by kernel_rfl)) (fun _ _ _ h => h) (Or.inl ⟨by rfl, ?_⟩) ?_ ?_
                            rotate_left
                            · intro w'
                              go_simp
                              with_reducible rfl
                            rotate_left
                            · simp only [Act.put, List.setIfInBounds_toArray, List.set_cons_zero, List.set_cons_succ, i64_w, i32_w]
                              rfl
                            refine pure_ (i := 5) (N := some 45) (v := ?_) (a' := ?_) #[true, true, true, true, true, true, false, false, false, false, false] rfl rfl (any_of HT_.out (by kernel_rfl)) (fun _ _ _ h => h) (Or.inl ⟨by rfl, ?_⟩) ?_ ?_
                            rotate_left
                            · intro w'
                              go_simp
                              with_reducible rfl
                            rotate_left
                            · simp only [Act.put, List.setIfInBounds_toArray, List.set_cons_zero, List.set_cons_succ, i64_w, i32_w]
                              rfl
                            refine pure_ (i := 6) (N := some 46) (v := ?_) (a' := ?_) #[true, true, true, true, true, true, true, false, false, false, false] rfl rfl (any_of HT_.out (by kernel_rfl)) (fun _ _ _ h => h) (Or.inl ⟨by rfl, ?_⟩) ?_ ?_
                            rotate_left
                            · intro w'
                              go_simp
                              with_reducible rfl
                            rotate_left
                            · simp only [Act.put, List.setIfInBounds_toArray, List.set_cons_zero, List.set_cons_succ, i64_w, i32_w]
                              rfl
                            refine pure_ (i := 7) (N := some 47) (v := ?_) (a' := ?_) #[true, true, true, true, true, true, true, true, false, false, false] rfl rfl (any_of HT_.out (by kernel_rfl)) (fun _ _ _ h => h) (Or.inl ⟨by rfl, ?_⟩) ?_ ?_
                            rotate_left
                            · intro w'
                              go_simp
                              with_reducible rfl
                            rotate_left
                            · simp only [Act.put, List.setIfInBounds_toArray, List.set_cons_zero, List.set_cons_succ, i64_w, i32_w]
                              rfl
                            refine pure_ (i := 8) (N := some 48) (v := ?_) (a' := ?_) #[true, true, true, true, true, true, true, true, true, false, false] rfl rfl (any_of HT_.out (by kernel_rfl)) (fun _ _ _ h => h) (Or.inl ⟨by rfl, ?_⟩) ?_ ?_
                            rotate_left
                            · intro w'
                              go_simp
                              with_reducible rfl
                            rotate_left
                            · simp only [Act.put, List.setIfInBounds_toArray, List.set_cons_zero, List.set_cons_succ, i64_w, i32_w]
                              rfl
                            refine last_ (i := 9) (N := none) #[true, true, true, true, true, true, true, true, true, true, false] rfl rfl (one_of HT_.out (by kernel_rfl)) (by decide) (fun K hK => ?_)
                            refine skip_ (w1 := ?_) (by rfl) rfl ?_ ?_
                            rotate_left
                            · go_simp
                              rfl
                            refine hK.out _ _ ?_
                            clear hK K
                            refine pure_ (i := 10) (N := some 1) (v := ?_) (a' := ?_) #[true, true, true, true, true, true, true, true, true, true, true] rfl rfl (any_of HT_.out (by kernel_rfl)) (fun _ _ _ h => h) (Or.inl ⟨by rfl, ?_⟩) ?_ ?_
                            rotate_left
                            · intro w'
                              go_simp
                              with_reducible rfl
                            rotate_left
                            · simp only [Act.put, List.setIfInBounds_toArray, List.set_cons_zero, List.set_cons_succ, i64_w, i32_w]
                              rfl
                            refine done_ (done_of HT_.out (by kernel_rfl)) ?_
                            try go_wp2
                            go_roundg k2
                            case measure => have := HJ3.out; have := HK2.out; omega
                            case rel => exact ⟨(Int.tmod x1_2 (wrap64 (Int.tdiv x6_2 (rd l0 x31_2)))), (wrap64 (Int.tdiv x6_2 (rd l0 x31_2))), (y121), (wrap64 (x31_2 + 1)), (by first | rfl | (simp; done) | (simp [*]; done)), (by first | rfl | (simp; done) | (simp [*]; done)), (by first | rfl | (simp; done) | (simp [*]; done)), H', ⟨by have := HJ3.out; have := HK2.out; omega⟩, ⟨by (with_reducible repeat (first | apply Kd.R_alloc | apply Kd.R_drewN | apply Kd.R_drew)); exact HQ20.out⟩, ⟨by repeat (first | (with_reducible first | exact HB.out | apply below_alloc | apply pw_below_drewN | apply below_drew1 | refine below_set ?_ GB18.out) | exact HB.out)⟩⟩
                          · rw [if_neg c17] at H
                            exact absurd H (by simp)
                    · rw [if_neg c14] at H
                      exact absurd H (by simp)
                  · rw [if_neg c13] at H
                    exact absurd H (by simp)
                · rw [if_neg c12] at H
                  have c12b0 : decide (x31_2 < (l0.length : Int)) = false := decide_eq_false c12
                  clear c12
                  simp only [Option.some.injEq, Prod.mk.injEq] at H
                  obtain ⟨rfl, rfl⟩ := H
                  go_wp2
                  go_ret2
                  exact ⟨_, by first | rfl | (simp [errW_none, errW_some] <;> rfl) | (simp [*, errW_none, errW_some] <;> rfl), by (with_reducible repeat (first | apply Kd.R_alloc | apply Kd.R_drewN | apply Kd.R_drew)); exact HO_8.out, by repeat (first | (with_reducible first | exact HB.out | apply below_alloc | apply pw_below_drewN | apply below_drew1) | exact HB.out)⟩
          · rw [if_neg c9] at H
            exact absurd H (by simp)
        · rw [if_neg c8] at H
          exact absurd H (by simp)

/-! ### deckleref01_Same: function 15 -/
def deckleref01_Same.l0 : Nat → List Int → List Int → Int → Option (Bool)
  | 0, _, _, _ => none
  | k + 1, x0, x1, x5 => if x5 < (x0.length : Int) then (if 0 ≤ x5 then (if x5 < (x1.length : Int) then (if (rd x0 x5) = (rd x1 x5) then (deckleref01_Same.l0 k x0 x1 (wrap64 (x5 + 1))) else (some false)) else (none)) else (none)) else (some true)
def deckleref01_Same.f (k : Nat) (l0 : List Int) (l1 : List Int) : Option (Bool) := if (l0.length : Int) = (l1.length : Int) then (deckleref01_Same.l0 k l0 l1 0) else (some false)
theorem deckleref01_Same.mono_l : ∀ k, (∀ y0 y1 y2, LeO (deckleref01_Same.l0 k y0 y1 y2) (deckleref01_Same.l0 (k + 1) y0 y1 y2))
  | 0 => fun _ _ _ r h => by simp [deckleref01_Same.l0] at h
  | k + 1 => by
    have ih0 := deckleref01_Same.mono_l k
    · intro y0 y1 y2
      unfold deckleref01_Same.l0
      repeat' first
      | (with_reducible exact ih0 _ _ _)
      | (with_reducible exact LeO.refl _)
      | (with_reducible exact LeO.none _)
      | (with_reducible refine LeO.ite ?_ ?_)
      | (with_reducible refine LeO.bind ?_ (fun _ => ?_))
      | exact ih0 _ _ _
      | exact LeO.none _
      | refine LeO.ite ?_ ?_
      | refine LeO.bind ?_ (fun _ => ?_)
theorem deckleref01_Same.mono : ∀ a0 a1 k, LeO (deckleref01_Same.f k a0 a1) (deckleref01_Same.f (k + 1) a0 a1) := by
  intro a0 a1 k
  have ih0 := deckleref01_Same.mono_l k
  unfold deckleref01_Same.f
  repeat' first
      | (with_reducible exact ih0 _ _ _)
      | (with_reducible exact LeO.refl _)
      | (with_reducible exact LeO.none _)
      | (with_reducible refine LeO.ite ?_ ?_)
      | (with_reducible refine LeO.bind ?_ (fun _ => ?_))
      | exact ih0 _ _ _
      | exact LeO.none _
      | refine LeO.ite ?_ ?_
      | refine LeO.bind ?_ (fun _ => ?_)
set_option maxHeartbeats 8000000 in
set_option maxRecDepth 100000 in
theorem deckleref01_Same.calls (k : Nat) (A0 : Option Addr) (c0 : Nat) (l0 : List Int) (A1 : Option Addr) (c1 : Nat) (l1 : List Int) (r : Bool) (w : World) (hr0 : Kd.C (Kd.int .i64) w A0 l0.length l0) (hc0 : l0.length ≤ c0) (hr1 : Kd.C (Kd.int .i64) w A1 l1.length l1) (hc1 : l1.length ≤ c1) (h : deckleref01_Same.f k l0 l1 = some r) :
    Calls Try.prog 15 #[.slice A0 l0.length c0, .slice A1 l1.length c1] w fun e w' => e = .returned (.bool r) ∧ Drawn0 w w' := by
  have HR0 := Aside0.mk hr0
  have HC0 := Aside0.mk hc0
  clear hr0 hc0
  have HR1 := Aside0.mk hr1
  have HC1 := Aside0.mk hc1
  clear hr1 hc1
  have H : (if (l0.length : Int) = (l1.length : Int) then (deckleref01_Same.l0 k l0 l1 0) else (some false)) = some r := h
  clear h
  by_cases c3 : (l0.length : Int) = (l1.length : Int)
  · rw [if_pos c3] at H
    have c3b0 : ((l0.length : Int) == (l1.length : Int)) = true := beq_iff_eq.mpr c3
    have c3b1 : ((l0.length : Int) != (l1.length : Int)) = false := bne_eq_false_iff_eq.mpr c3
    have c3b2 : (l0.length == l1.length) = true := by first | simpa using c3 | (simp at c3 ⊢; omega)
    clear c3
    have H' := Aside0.mk H
    clear H
    go_enter Try.func15, Try.ntmps15
    go_wp2
    repeat (go_quiet (fail); try go_wp2)
    go_loopg [5] k (fun kq v5 w' => ∃ (x5_1 : Int), v5 = .int .i64 x5_1 ∧ Aside0 (deckleref01_Same.l0 kq l0 l1 x5_1 = some r) ∧ Aside0 (kq ≤ k) ∧ Drawn0 w w')
    case atStart => exact ⟨(0), (by first | rfl | (simp; done) | (simp [*]; done)), H', ⟨Nat.le_refl _⟩, by repeat (first | exact Drawn0.refl _ | apply Drawn0.step)⟩
    case round =>
      clear H'
      try clear c1
      try clear p2
      try clear c3
      try clear c3b0
      try clear c3b1
      try clear c3b2
      obtain ⟨x5_1, rfl, HA, HK1, ⟨m1, rfl⟩⟩ := hrel
      cases gk with
      | zero => exact absurd HA.out (by simp [deckleref01_Same.l0])
      | succ k1 =>
        have H := HA.out
        clear HA
        simp only [deckleref01_Same.l0] at H
        by_cases c4 : x5_1 < (l0.length : Int)
        · rw [if_pos c4] at H
          have c4b0 : decide (x5_1 < (l0.length : Int)) = true := decide_eq_true c4
          clear c4
          by_cases c5 : 0 ≤ x5_1
          · rw [if_pos c5] at H
            have c5b0 : decide (0 ≤ x5_1) = true := decide_eq_true c5
            clear c5
            by_cases c6 : x5_1 < (l1.length : Int)
            · rw [if_pos c6] at H
              have c6b0 : decide (x5_1 < (l1.length : Int)) = true := decide_eq_true c6
              clear c6
              by_cases c7 : (rd l0 x5_1) = (rd l1 x5_1)
              · rw [if_pos c7] at H
                have c7b0 : ((rd l0 x5_1) == (rd l1 x5_1)) = true := beq_iff_eq.mpr c7
                have c7b1 : ((rd l0 x5_1) != (rd l1 x5_1)) = false := bne_eq_false_iff_eq.mpr c7
                clear c7
                have H' := Aside0.mk H
                clear H
                have p122 : 0 ≤ (x5_1 : Int) := of_decide_eq_true (by first | (with_reducible assumption) | assumption)
                have q122 : x5_1 < (l0.length : Int) := of_decide_eq_true (by first | (with_reducible assumption) | assumption)
                obtain ⟨ad122, e122, hx122_0⟩ := Kd.at_int HR0.out x5_1 p122 q122
                cases e122
                replace p122 := eq_true p122
                replace q122 := eq_true q122
                have p123 : 0 ≤ (x5_1 : Int) := of_decide_eq_true (by first | (with_reducible assumption) | assumption)
                have q123 : x5_1 < (l1.length : Int) := of_decide_eq_true (by first | (with_reducible assumption) | assumption)
                obtain ⟨ad123, e123, hx123_0⟩ := Kd.at_int HR1.out x5_1 p123 q123
                cases e123
                replace p123 := eq_true p123
                replace q123 := eq_true q123
                go_wp2
                repeat (go_quiet (fail); try go_wp2)
                go_roundg k1
                case measure => have := HK1.out; omega
                case rel => exact ⟨(wrap64 (x5_1 + 1)), (by first | rfl | (simp; done) | (simp [*]; done)), H', ⟨by have := HK1.out; omega⟩, by repeat (first | exact Drawn0.refl _ | apply Drawn0.step)⟩
              · rw [if_neg c7] at H
                have c7b0 : ((rd l0 x5_1) == (rd l1 x5_1)) = false := beq_eq_false_iff_ne.mpr c7
                have c7b1 : ((rd l0 x5_1) != (rd l1 x5_1)) = true := bne_iff_ne.mpr c7
                obtain rfl := Option.some.inj H
                have p122 : 0 ≤ (x5_1 : Int) := of_decide_eq_true (by first | (with_reducible assumption) | assumption)
                have q122 : x5_1 < (l0.length : Int) := of_decide_eq_true (by first | (with_reducible assumption) | assumption)
                obtain ⟨ad122, e122, hx122_0⟩ := Kd.at_int HR0.out x5_1 p122 q122
                cases e122
                replace p122 := eq_true p122
                replace q122 := eq_true q122
                have p123 : 0 ≤ (x5_1 : Int) := of_decide_eq_true (by first | (with_reducible assumption) | assumption)
                have q123 : x5_1 < (l1.length : Int) := of_decide_eq_true (by first | (with_reducible assumption) | assumption)
                obtain ⟨ad123, e123, hx123_0⟩ := Kd.at_int HR1.out x5_1 p123 q123
                cases e123
                replace p123 := eq_true p123
                replace q123 := eq_true q123
                go_wp2
                repeat (go_quiet (fail); try go_wp2)
                go_ret
                exact ⟨by first | rfl | (simp; done) | (simp [*]; done), by repeat (first | exact Drawn0.refl _ | apply Drawn0.step)⟩
            · rw [if_neg c6] at H
              exact absurd H (by simp)
          · rw [if_neg c5] at H
            exact absurd H (by simp)
        · rw [if_neg c4] at H
          have c4b0 : decide (x5_1 < (l0.length : Int)) = false := decide_eq_false c4
          clear c4
          obtain rfl := Option.some.inj H
          go_wp2
          repeat (go_quiet (fail); try go_wp2)
          go_ret
          exact ⟨by first | rfl | (simp; done) | (simp [*]; done), by repeat (first | exact Drawn0.refl _ | apply Drawn0.step)⟩
  · rw [if_neg c3] at H
    have c3b0 : ((l0.length : Int) == (l1.length : Int)) = false := beq_eq_false_iff_ne.mpr c3
    have c3b1 : ((l0.length : Int) != (l1.length : Int)) = true := bne_iff_ne.mpr c3
    have c3b2 : (l0.length == l1.length) = false := by first | simpa using c3 | (simp at c3 ⊢; omega)
    obtain rfl := Option.some.inj H
    go_enter Try.func15, Try.ntmps15
    go_wp2
    repeat (go_quiet (fail); try go_wp2)
    go_ret
    exact ⟨by first | rfl | (simp; done) | (simp [*]; done), by repeat (first | exact Drawn0.refl _ | apply Drawn0.step)⟩

/-! ### decklelaw09_small: function 8 -/
def decklelaw09_small.f (k : Nat)  : Option (Bool) := (shape_Count.f k (([2, 3] : List Int))).bind fun bt127 => ((shape_Count.f k ([] : List Int)).bind fun bt129 => ((shape_Count.f k (([0, 1048576, 1048576] : List Int))).bind fun bt134 => ((shape_Count.f k (([1024, 1025] : List Int))).bind fun bt139 => ((shape_Count.f k (([(-1), 0] : List Int))).bind fun bt144 => (if 17 ≤ 35184372088832 then ((shape_Count.f k (List.replicate 17 0)).bind fun bt149 => ((shape_Place.f k (([2, 3] : List Int)) (([1, 2] : List Int))).bind fun bt157 => ((shape_Place.f k (([2, 3] : List Int)) (([1, 3] : List Int))).bind fun bt165 => ((shape_Place.f k (([2, 3] : List Int)) (([1] : List Int))).bind fun bt173 => ((shape_Index.f k (([2, 3] : List Int)) 5).bind fun bt178 => ((shape_Place.f k ([] : List Int) ([] : List Int)).bind fun bt182 => ((shape_Index.f k (([2, 0] : List Int)) 0).bind fun bt187 => (if bt127.1 = 6 then (if bt127.2 = true then (if bt129.1 = 1 then (if bt129.2 = true then (if bt134.1 = 0 then (if bt134.2 = true then (if bt139.2 = true then (none) else (if bt144.2 = true then (none) else (if bt149.2 = true then (none) else (if bt157.1 = 5 then (if bt157.2 = true then (if bt165.2 = true then (none) else (if bt173.2 = true then (none) else ((deckleref01_Same.f k bt178.1 (([1, 2] : List Int))).bind fun t194 => (if t194 = true then (if bt178.2 = true then (if bt182.1 = 0 then (if bt182.2 = true then (some (!bt187.2)) else (none)) else (none)) else (none)) else (none))))) else (none)) else (none))))) else (none)) else (none)) else (none)) else (none)) else (none)) else (none))))))))) else (none))))))
theorem decklelaw09_small.mono : ∀ k, LeO (decklelaw09_small.f k ) (decklelaw09_small.f (k + 1) ) := by
  intro  k
  unfold decklelaw09_small.f
  repeat' first
      | (with_reducible exact deckleref01_Same.mono _ _ _)
      | (with_reducible exact shape_Count.mono _ _)
      | (with_reducible exact shape_Index.mono _ _ _)
      | (with_reducible exact shape_Place.mono _ _ _)
      | (with_reducible exact LeO.refl _)
      | (with_reducible exact LeO.none _)
      | (with_reducible refine LeO.ite ?_ ?_)
      | (with_reducible refine LeO.bind ?_ (fun _ => ?_))
      | exact deckleref01_Same.mono _ _ _
      | exact shape_Count.mono _ _
      | exact shape_Index.mono _ _ _
      | exact shape_Place.mono _ _ _
      | exact LeO.none _
      | refine LeO.ite ?_ ?_
      | refine LeO.bind ?_ (fun _ => ?_)
set_option maxHeartbeats 8000000 in
set_option maxRecDepth 100000 in
theorem decklelaw09_small.calls (k : Nat)  (r : Bool) (w : World) (h : decklelaw09_small.f k  = some r) :
    Calls Try.prog 8 #[] w fun e w' => e = .returned (.bool r) ∧ Below w.heap.size w w' := by
  have HB := Aside0.mk (Below.refl w.heap.size w)
  have H : ((shape_Count.f k (([2, 3] : List Int))).bind fun bt127 => ((shape_Count.f k ([] : List Int)).bind fun bt129 => ((shape_Count.f k (([0, 1048576, 1048576] : List Int))).bind fun bt134 => ((shape_Count.f k (([1024, 1025] : List Int))).bind fun bt139 => ((shape_Count.f k (([(-1), 0] : List Int))).bind fun bt144 => (if 17 ≤ 35184372088832 then ((shape_Count.f k (List.replicate 17 0)).bind fun bt149 => ((shape_Place.f k (([2, 3] : List Int)) (([1, 2] : List Int))).bind fun bt157 => ((shape_Place.f k (([2, 3] : List Int)) (([1, 3] : List Int))).bind fun bt165 => ((shape_Place.f k (([2, 3] : List Int)) (([1] : List Int))).bind fun bt173 => ((shape_Index.f k (([2, 3] : List Int)) 5).bind fun bt178 => ((shape_Place.f k ([] : List Int) ([] : List Int)).bind fun bt182 => ((shape_Index.f k (([2, 0] : List Int)) 0).bind fun bt187 => (if bt127.1 = 6 then (if bt127.2 = true then (if bt129.1 = 1 then (if bt129.2 = true then (if bt134.1 = 0 then (if bt134.2 = true then (if bt139.2 = true then (none) else (if bt144.2 = true then (none) else (if bt149.2 = true then (none) else (if bt157.1 = 5 then (if bt157.2 = true then (if bt165.2 = true then (none) else (if bt173.2 = true then (none) else ((deckleref01_Same.f k bt178.1 (([1, 2] : List Int))).bind fun t194 => (if t194 = true then (if bt178.2 = true then (if bt182.1 = 0 then (if bt182.2 = true then (some (!bt187.2)) else (none)) else (none)) else (none)) else (none))))) else (none)) else (none))))) else (none)) else (none)) else (none)) else (none)) else (none)) else (none))))))))) else (none))))))) = some r := h
  clear h
  obtain ⟨y124, hy124⟩ : ∃ y_ : List Int, y_ = (([2, 3] : List Int)) := ⟨_, rfl⟩
  replace H : ((shape_Count.f k y124).bind fun bt127 => ((shape_Count.f k ([] : List Int)).bind fun bt129 => ((shape_Count.f k (([0, 1048576, 1048576] : List Int))).bind fun bt134 => ((shape_Count.f k (([1024, 1025] : List Int))).bind fun bt139 => ((shape_Count.f k (([(-1), 0] : List Int))).bind fun bt144 => (if 17 ≤ 35184372088832 then ((shape_Count.f k (List.replicate 17 0)).bind fun bt149 => ((shape_Place.f k (([2, 3] : List Int)) (([1, 2] : List Int))).bind fun bt157 => ((shape_Place.f k (([2, 3] : List Int)) (([1, 3] : List Int))).bind fun bt165 => ((shape_Place.f k (([2, 3] : List Int)) (([1] : List Int))).bind fun bt173 => ((shape_Index.f k (([2, 3] : List Int)) 5).bind fun bt178 => ((shape_Place.f k ([] : List Int) ([] : List Int)).bind fun bt182 => ((shape_Index.f k (([2, 0] : List Int)) 0).bind fun bt187 => (if bt127.1 = 6 then (if bt127.2 = true then (if bt129.1 = 1 then (if bt129.2 = true then (if bt134.1 = 0 then (if bt134.2 = true then (if bt139.2 = true then (none) else (if bt144.2 = true then (none) else (if bt149.2 = true then (none) else (if bt157.1 = 5 then (if bt157.2 = true then (if bt165.2 = true then (none) else (if bt173.2 = true then (none) else ((deckleref01_Same.f k bt178.1 (([1, 2] : List Int))).bind fun t194 => (if t194 = true then (if bt178.2 = true then (if bt182.1 = 0 then (if bt182.2 = true then (some (!bt187.2)) else (none)) else (none)) else (none)) else (none))))) else (none)) else (none))))) else (none)) else (none)) else (none)) else (none)) else (none)) else (none))))))))) else (none))))))) = some r := by first | (rw [hy124]; with_reducible exact H) | (have H2_ := (Option.bind_some _ _).symm.trans H; rw [hy124]; with_reducible exact H2_) | (have H2_ := (Option.bind_some _ _).symm.trans H; with_reducible exact H2_) | with_reducible exact H | (rw [hy124]; exact H) | exact H
  have Ny124 := Aside0.mk hy124
  clear hy124
  replace H := Option.bind_eq_some_iff.mp H
  obtain ⟨⟨t127, t128⟩, A10, H⟩ := H
  replace H : ((shape_Count.f k ([] : List Int)).bind fun bt129 => ((shape_Count.f k (([0, 1048576, 1048576] : List Int))).bind fun bt134 => ((shape_Count.f k (([1024, 1025] : List Int))).bind fun bt139 => ((shape_Count.f k (([(-1), 0] : List Int))).bind fun bt144 => (if 17 ≤ 35184372088832 then ((shape_Count.f k (List.replicate 17 0)).bind fun bt149 => ((shape_Place.f k (([2, 3] : List Int)) (([1, 2] : List Int))).bind fun bt157 => ((shape_Place.f k (([2, 3] : List Int)) (([1, 3] : List Int))).bind fun bt165 => ((shape_Place.f k (([2, 3] : List Int)) (([1] : List Int))).bind fun bt173 => ((shape_Index.f k (([2, 3] : List Int)) 5).bind fun bt178 => ((shape_Place.f k ([] : List Int) ([] : List Int)).bind fun bt182 => ((shape_Index.f k (([2, 0] : List Int)) 0).bind fun bt187 => (if t127 = 6 then (if t128 = true then (if bt129.1 = 1 then (if bt129.2 = true then (if bt134.1 = 0 then (if bt134.2 = true then (if bt139.2 = true then (none) else (if bt144.2 = true then (none) else (if bt149.2 = true then (none) else (if bt157.1 = 5 then (if bt157.2 = true then (if bt165.2 = true then (none) else (if bt173.2 = true then (none) else ((deckleref01_Same.f k bt178.1 (([1, 2] : List Int))).bind fun t194 => (if t194 = true then (if bt178.2 = true then (if bt182.1 = 0 then (if bt182.2 = true then (some (!bt187.2)) else (none)) else (none)) else (none)) else (none))))) else (none)) else (none))))) else (none)) else (none)) else (none)) else (none)) else (none)) else (none))))))))) else (none)))))) = some r := H
  have A1 := Aside0.mk A10
  clear A10
  replace H := Option.bind_eq_some_iff.mp H
  obtain ⟨⟨t129, t130⟩, A20, H⟩ := H
  replace H : ((shape_Count.f k (([0, 1048576, 1048576] : List Int))).bind fun bt134 => ((shape_Count.f k (([1024, 1025] : List Int))).bind fun bt139 => ((shape_Count.f k (([(-1), 0] : List Int))).bind fun bt144 => (if 17 ≤ 35184372088832 then ((shape_Count.f k (List.replicate 17 0)).bind fun bt149 => ((shape_Place.f k (([2, 3] : List Int)) (([1, 2] : List Int))).bind fun bt157 => ((shape_Place.f k (([2, 3] : List Int)) (([1, 3] : List Int))).bind fun bt165 => ((shape_Place.f k (([2, 3] : List Int)) (([1] : List Int))).bind fun bt173 => ((shape_Index.f k (([2, 3] : List Int)) 5).bind fun bt178 => ((shape_Place.f k ([] : List Int) ([] : List Int)).bind fun bt182 => ((shape_Index.f k (([2, 0] : List Int)) 0).bind fun bt187 => (if t127 = 6 then (if t128 = true then (if t129 = 1 then (if t130 = true then (if bt134.1 = 0 then (if bt134.2 = true then (if bt139.2 = true then (none) else (if bt144.2 = true then (none) else (if bt149.2 = true then (none) else (if bt157.1 = 5 then (if bt157.2 = true then (if bt165.2 = true then (none) else (if bt173.2 = true then (none) else ((deckleref01_Same.f k bt178.1 (([1, 2] : List Int))).bind fun t194 => (if t194 = true then (if bt178.2 = true then (if bt182.1 = 0 then (if bt182.2 = true then (some (!bt187.2)) else (none)) else (none)) else (none)) else (none))))) else (none)) else (none))))) else (none)) else (none)) else (none)) else (none)) else (none)) else (none))))))))) else (none))))) = some r := H
  have A2 := Aside0.mk A20
  clear A20
  obtain ⟨y131, hy131⟩ : ∃ y_ : List Int, y_ = (([0, 1048576, 1048576] : List Int)) := ⟨_, rfl⟩
  replace H : ((shape_Count.f k y131).bind fun bt134 => ((shape_Count.f k (([1024, 1025] : List Int))).bind fun bt139 => ((shape_Count.f k (([(-1), 0] : List Int))).bind fun bt144 => (if 17 ≤ 35184372088832 then ((shape_Count.f k (List.replicate 17 0)).bind fun bt149 => ((shape_Place.f k (([2, 3] : List Int)) (([1, 2] : List Int))).bind fun bt157 => ((shape_Place.f k (([2, 3] : List Int)) (([1, 3] : List Int))).bind fun bt165 => ((shape_Place.f k (([2, 3] : List Int)) (([1] : List Int))).bind fun bt173 => ((shape_Index.f k (([2, 3] : List Int)) 5).bind fun bt178 => ((shape_Place.f k ([] : List Int) ([] : List Int)).bind fun bt182 => ((shape_Index.f k (([2, 0] : List Int)) 0).bind fun bt187 => (if t127 = 6 then (if t128 = true then (if t129 = 1 then (if t130 = true then (if bt134.1 = 0 then (if bt134.2 = true then (if bt139.2 = true then (none) else (if bt144.2 = true then (none) else (if bt149.2 = true then (none) else (if bt157.1 = 5 then (if bt157.2 = true then (if bt165.2 = true then (none) else (if bt173.2 = true then (none) else ((deckleref01_Same.f k bt178.1 (([1, 2] : List Int))).bind fun t194 => (if t194 = true then (if bt178.2 = true then (if bt182.1 = 0 then (if bt182.2 = true then (some (!bt187.2)) else (none)) else (none)) else (none)) else (none))))) else (none)) else (none))))) else (none)) else (none)) else (none)) else (none)) else (none)) else (none))))))))) else (none))))) = some r := by first | (rw [hy131]; with_reducible exact H) | (have H2_ := (Option.bind_some _ _).symm.trans H; rw [hy131]; with_reducible exact H2_) | (have H2_ := (Option.bind_some _ _).symm.trans H; with_reducible exact H2_) | with_reducible exact H | (rw [hy131]; exact H) | exact H
  have Ny131 := Aside0.mk hy131
  clear hy131
  replace H := Option.bind_eq_some_iff.mp H
  obtain ⟨⟨t134, t135⟩, A30, H⟩ := H
  replace H : ((shape_Count.f k (([1024, 1025] : List Int))).bind fun bt139 => ((shape_Count.f k (([(-1), 0] : List Int))).bind fun bt144 => (if 17 ≤ 35184372088832 then ((shape_Count.f k (List.replicate 17 0)).bind fun bt149 => ((shape_Place.f k (([2, 3] : List Int)) (([1, 2] : List Int))).bind fun bt157 => ((shape_Place.f k (([2, 3] : List Int)) (([1, 3] : List Int))).bind fun bt165 => ((shape_Place.f k (([2, 3] : List Int)) (([1] : List Int))).bind fun bt173 => ((shape_Index.f k (([2, 3] : List Int)) 5).bind fun bt178 => ((shape_Place.f k ([] : List Int) ([] : List Int)).bind fun bt182 => ((shape_Index.f k (([2, 0] : List Int)) 0).bind fun bt187 => (if t127 = 6 then (if t128 = true then (if t129 = 1 then (if t130 = true then (if t134 = 0 then (if t135 = true then (if bt139.2 = true then (none) else (if bt144.2 = true then (none) else (if bt149.2 = true then (none) else (if bt157.1 = 5 then (if bt157.2 = true then (if bt165.2 = true then (none) else (if bt173.2 = true then (none) else ((deckleref01_Same.f k bt178.1 (([1, 2] : List Int))).bind fun t194 => (if t194 = true then (if bt178.2 = true then (if bt182.1 = 0 then (if bt182.2 = true then (some (!bt187.2)) else (none)) else (none)) else (none)) else (none))))) else (none)) else (none))))) else (none)) else (none)) else (none)) else (none)) else (none)) else (none))))))))) else (none)))) = some r := H
  have A3 := Aside0.mk A30
  clear A30
  obtain ⟨y136, hy136⟩ : ∃ y_ : List Int, y_ = (([1024, 1025] : List Int)) := ⟨_, rfl⟩
  replace H : ((shape_Count.f k y136).bind fun bt139 => ((shape_Count.f k (([(-1), 0] : List Int))).bind fun bt144 => (if 17 ≤ 35184372088832 then ((shape_Count.f k (List.replicate 17 0)).bind fun bt149 => ((shape_Place.f k (([2, 3] : List Int)) (([1, 2] : List Int))).bind fun bt157 => ((shape_Place.f k (([2, 3] : List Int)) (([1, 3] : List Int))).bind fun bt165 => ((shape_Place.f k (([2, 3] : List Int)) (([1] : List Int))).bind fun bt173 => ((shape_Index.f k (([2, 3] : List Int)) 5).bind fun bt178 => ((shape_Place.f k ([] : List Int) ([] : List Int)).bind fun bt182 => ((shape_Index.f k (([2, 0] : List Int)) 0).bind fun bt187 => (if t127 = 6 then (if t128 = true then (if t129 = 1 then (if t130 = true then (if t134 = 0 then (if t135 = true then (if bt139.2 = true then (none) else (if bt144.2 = true then (none) else (if bt149.2 = true then (none) else (if bt157.1 = 5 then (if bt157.2 = true then (if bt165.2 = true then (none) else (if bt173.2 = true then (none) else ((deckleref01_Same.f k bt178.1 (([1, 2] : List Int))).bind fun t194 => (if t194 = true then (if bt178.2 = true then (if bt182.1 = 0 then (if bt182.2 = true then (some (!bt187.2)) else (none)) else (none)) else (none)) else (none))))) else (none)) else (none))))) else (none)) else (none)) else (none)) else (none)) else (none)) else (none))))))))) else (none)))) = some r := by first | (rw [hy136]; with_reducible exact H) | (have H2_ := (Option.bind_some _ _).symm.trans H; rw [hy136]; with_reducible exact H2_) | (have H2_ := (Option.bind_some _ _).symm.trans H; with_reducible exact H2_) | with_reducible exact H | (rw [hy136]; exact H) | exact H
  have Ny136 := Aside0.mk hy136
  clear hy136
  replace H := Option.bind_eq_some_iff.mp H
  obtain ⟨⟨t139, t140⟩, A40, H⟩ := H
  replace H : ((shape_Count.f k (([(-1), 0] : List Int))).bind fun bt144 => (if 17 ≤ 35184372088832 then ((shape_Count.f k (List.replicate 17 0)).bind fun bt149 => ((shape_Place.f k (([2, 3] : List Int)) (([1, 2] : List Int))).bind fun bt157 => ((shape_Place.f k (([2, 3] : List Int)) (([1, 3] : List Int))).bind fun bt165 => ((shape_Place.f k (([2, 3] : List Int)) (([1] : List Int))).bind fun bt173 => ((shape_Index.f k (([2, 3] : List Int)) 5).bind fun bt178 => ((shape_Place.f k ([] : List Int) ([] : List Int)).bind fun bt182 => ((shape_Index.f k (([2, 0] : List Int)) 0).bind fun bt187 => (if t127 = 6 then (if t128 = true then (if t129 = 1 then (if t130 = true then (if t134 = 0 then (if t135 = true then (if t140 = true then (none) else (if bt144.2 = true then (none) else (if bt149.2 = true then (none) else (if bt157.1 = 5 then (if bt157.2 = true then (if bt165.2 = true then (none) else (if bt173.2 = true then (none) else ((deckleref01_Same.f k bt178.1 (([1, 2] : List Int))).bind fun t194 => (if t194 = true then (if bt178.2 = true then (if bt182.1 = 0 then (if bt182.2 = true then (some (!bt187.2)) else (none)) else (none)) else (none)) else (none))))) else (none)) else (none))))) else (none)) else (none)) else (none)) else (none)) else (none)) else (none))))))))) else (none))) = some r := H
  have A4 := Aside0.mk A40
  clear A40
  obtain ⟨y141, hy141⟩ : ∃ y_ : List Int, y_ = (([(-1), 0] : List Int)) := ⟨_, rfl⟩
  replace H : ((shape_Count.f k y141).bind fun bt144 => (if 17 ≤ 35184372088832 then ((shape_Count.f k (List.replicate 17 0)).bind fun bt149 => ((shape_Place.f k (([2, 3] : List Int)) (([1, 2] : List Int))).bind fun bt157 => ((shape_Place.f k (([2, 3] : List Int)) (([1, 3] : List Int))).bind fun bt165 => ((shape_Place.f k (([2, 3] : List Int)) (([1] : List Int))).bind fun bt173 => ((shape_Index.f k (([2, 3] : List Int)) 5).bind fun bt178 => ((shape_Place.f k ([] : List Int) ([] : List Int)).bind fun bt182 => ((shape_Index.f k (([2, 0] : List Int)) 0).bind fun bt187 => (if t127 = 6 then (if t128 = true then (if t129 = 1 then (if t130 = true then (if t134 = 0 then (if t135 = true then (if t140 = true then (none) else (if bt144.2 = true then (none) else (if bt149.2 = true then (none) else (if bt157.1 = 5 then (if bt157.2 = true then (if bt165.2 = true then (none) else (if bt173.2 = true then (none) else ((deckleref01_Same.f k bt178.1 (([1, 2] : List Int))).bind fun t194 => (if t194 = true then (if bt178.2 = true then (if bt182.1 = 0 then (if bt182.2 = true then (some (!bt187.2)) else (none)) else (none)) else (none)) else (none))))) else (none)) else (none))))) else (none)) else (none)) else (none)) else (none)) else (none)) else (none))))))))) else (none))) = some r := by first | (rw [hy141]; with_reducible exact H) | (have H2_ := (Option.bind_some _ _).symm.trans H; rw [hy141]; with_reducible exact H2_) | (have H2_ := (Option.bind_some _ _).symm.trans H; with_reducible exact H2_) | with_reducible exact H | (rw [hy141]; exact H) | exact H
  have Ny141 := Aside0.mk hy141
  clear hy141
  replace H := Option.bind_eq_some_iff.mp H
  obtain ⟨⟨t144, t145⟩, A50, H⟩ := H
  replace H : (if 17 ≤ 35184372088832 then ((shape_Count.f k (List.replicate 17 0)).bind fun bt149 => ((shape_Place.f k (([2, 3] : List Int)) (([1, 2] : List Int))).bind fun bt157 => ((shape_Place.f k (([2, 3] : List Int)) (([1, 3] : List Int))).bind fun bt165 => ((shape_Place.f k (([2, 3] : List Int)) (([1] : List Int))).bind fun bt173 => ((shape_Index.f k (([2, 3] : List Int)) 5).bind fun bt178 => ((shape_Place.f k ([] : List Int) ([] : List Int)).bind fun bt182 => ((shape_Index.f k (([2, 0] : List Int)) 0).bind fun bt187 => (if t127 = 6 then (if t128 = true then (if t129 = 1 then (if t130 = true then (if t134 = 0 then (if t135 = true then (if t140 = true then (none) else (if t145 = true then (none) else (if bt149.2 = true then (none) else (if bt157.1 = 5 then (if bt157.2 = true then (if bt165.2 = true then (none) else (if bt173.2 = true then (none) else ((deckleref01_Same.f k bt178.1 (([1, 2] : List Int))).bind fun t194 => (if t194 = true then (if bt178.2 = true then (if bt182.1 = 0 then (if bt182.2 = true then (some (!bt187.2)) else (none)) else (none)) else (none)) else (none))))) else (none)) else (none))))) else (none)) else (none)) else (none)) else (none)) else (none)) else (none))))))))) else (none)) = some r := H
  have A5 := Aside0.mk A50
  clear A50
  by_cases c6 : 17 ≤ 35184372088832
  · rw [if_pos c6] at H
    have c6b0 := eq_true c6
    have c6b1 : decide (17 ≤ 35184372088832) = true := decide_eq_true c6
    clear c6
    obtain ⟨y146, hy146⟩ : ∃ y_ : List Int, y_ = (List.replicate 17 0) := ⟨_, rfl⟩
    replace H : ((shape_Count.f k y146).bind fun bt149 => ((shape_Place.f k (([2, 3] : List Int)) (([1, 2] : List Int))).bind fun bt157 => ((shape_Place.f k (([2, 3] : List Int)) (([1, 3] : List Int))).bind fun bt165 => ((shape_Place.f k (([2, 3] : List Int)) (([1] : List Int))).bind fun bt173 => ((shape_Index.f k (([2, 3] : List Int)) 5).bind fun bt178 => ((shape_Place.f k ([] : List Int) ([] : List Int)).bind fun bt182 => ((shape_Index.f k (([2, 0] : List Int)) 0).bind fun bt187 => (if t127 = 6 then (if t128 = true then (if t129 = 1 then (if t130 = true then (if t134 = 0 then (if t135 = true then (if t140 = true then (none) else (if t145 = true then (none) else (if bt149.2 = true then (none) else (if bt157.1 = 5 then (if bt157.2 = true then (if bt165.2 = true then (none) else (if bt173.2 = true then (none) else ((deckleref01_Same.f k bt178.1 (([1, 2] : List Int))).bind fun t194 => (if t194 = true then (if bt178.2 = true then (if bt182.1 = 0 then (if bt182.2 = true then (some (!bt187.2)) else (none)) else (none)) else (none)) else (none))))) else (none)) else (none))))) else (none)) else (none)) else (none)) else (none)) else (none)) else (none))))))))) = some r := by first | (rw [hy146]; with_reducible exact H) | (have H2_ := (Option.bind_some _ _).symm.trans H; rw [hy146]; with_reducible exact H2_) | (have H2_ := (Option.bind_some _ _).symm.trans H; with_reducible exact H2_) | with_reducible exact H | (rw [hy146]; exact H) | exact H
    have Ny146 := Aside0.mk hy146
    clear hy146
    replace H := Option.bind_eq_some_iff.mp H
    obtain ⟨⟨t149, t150⟩, A70, H⟩ := H
    replace H : ((shape_Place.f k (([2, 3] : List Int)) (([1, 2] : List Int))).bind fun bt157 => ((shape_Place.f k (([2, 3] : List Int)) (([1, 3] : List Int))).bind fun bt165 => ((shape_Place.f k (([2, 3] : List Int)) (([1] : List Int))).bind fun bt173 => ((shape_Index.f k (([2, 3] : List Int)) 5).bind fun bt178 => ((shape_Place.f k ([] : List Int) ([] : List Int)).bind fun bt182 => ((shape_Index.f k (([2, 0] : List Int)) 0).bind fun bt187 => (if t127 = 6 then (if t128 = true then (if t129 = 1 then (if t130 = true then (if t134 = 0 then (if t135 = true then (if t140 = true then (none) else (if t145 = true then (none) else (if t150 = true then (none) else (if bt157.1 = 5 then (if bt157.2 = true then (if bt165.2 = true then (none) else (if bt173.2 = true then (none) else ((deckleref01_Same.f k bt178.1 (([1, 2] : List Int))).bind fun t194 => (if t194 = true then (if bt178.2 = true then (if bt182.1 = 0 then (if bt182.2 = true then (some (!bt187.2)) else (none)) else (none)) else (none)) else (none))))) else (none)) else (none))))) else (none)) else (none)) else (none)) else (none)) else (none)) else (none)))))))) = some r := H
    have A7 := Aside0.mk A70
    clear A70
    obtain ⟨y151, hy151⟩ : ∃ y_ : List Int, y_ = (([2, 3] : List Int)) := ⟨_, rfl⟩
    replace H : ((shape_Place.f k y151 (([1, 2] : List Int))).bind fun bt157 => ((shape_Place.f k (([2, 3] : List Int)) (([1, 3] : List Int))).bind fun bt165 => ((shape_Place.f k (([2, 3] : List Int)) (([1] : List Int))).bind fun bt173 => ((shape_Index.f k (([2, 3] : List Int)) 5).bind fun bt178 => ((shape_Place.f k ([] : List Int) ([] : List Int)).bind fun bt182 => ((shape_Index.f k (([2, 0] : List Int)) 0).bind fun bt187 => (if t127 = 6 then (if t128 = true then (if t129 = 1 then (if t130 = true then (if t134 = 0 then (if t135 = true then (if t140 = true then (none) else (if t145 = true then (none) else (if t150 = true then (none) else (if bt157.1 = 5 then (if bt157.2 = true then (if bt165.2 = true then (none) else (if bt173.2 = true then (none) else ((deckleref01_Same.f k bt178.1 (([1, 2] : List Int))).bind fun t194 => (if t194 = true then (if bt178.2 = true then (if bt182.1 = 0 then (if bt182.2 = true then (some (!bt187.2)) else (none)) else (none)) else (none)) else (none))))) else (none)) else (none))))) else (none)) else (none)) else (none)) else (none)) else (none)) else (none)))))))) = some r := by first | (rw [hy151]; with_reducible exact H) | (have H2_ := (Option.bind_some _ _).symm.trans H; rw [hy151]; with_reducible exact H2_) | (have H2_ := (Option.bind_some _ _).symm.trans H; with_reducible exact H2_) | with_reducible exact H | (rw [hy151]; exact H) | exact H
    have Ny151 := Aside0.mk hy151
    clear hy151
    obtain ⟨y154, hy154⟩ : ∃ y_ : List Int, y_ = (([1, 2] : List Int)) := ⟨_, rfl⟩
    replace H : ((shape_Place.f k y151 y154).bind fun bt157 => ((shape_Place.f k (([2, 3] : List Int)) (([1, 3] : List Int))).bind fun bt165 => ((shape_Place.f k (([2, 3] : List Int)) (([1] : List Int))).bind fun bt173 => ((shape_Index.f k (([2, 3] : List Int)) 5).bind fun bt178 => ((shape_Place.f k ([] : List Int) ([] : List Int)).bind fun bt182 => ((shape_Index.f k (([2, 0] : List Int)) 0).bind fun bt187 => (if t127 = 6 then (if t128 = true then (if t129 = 1 then (if t130 = true then (if t134 = 0 then (if t135 = true then (if t140 = true then (none) else (if t145 = true then (none) else (if t150 = true then (none) else (if bt157.1 = 5 then (if bt157.2 = true then (if bt165.2 = true then (none) else (if bt173.2 = true then (none) else ((deckleref01_Same.f k bt178.1 (([1, 2] : List Int))).bind fun t194 => (if t194 = true then (if bt178.2 = true then (if bt182.1 = 0 then (if bt182.2 = true then (some (!bt187.2)) else (none)) else (none)) else (none)) else (none))))) else (none)) else (none))))) else (none)) else (none)) else (none)) else (none)) else (none)) else (none)))))))) = some r := by first | (rw [hy154]; with_reducible exact H) | (have H2_ := (Option.bind_some _ _).symm.trans H; rw [hy154]; with_reducible exact H2_) | (have H2_ := (Option.bind_some _ _).symm.trans H; with_reducible exact H2_) | with_reducible exact H | (rw [hy154]; exact H) | exact H
    have Ny154 := Aside0.mk hy154
    clear hy154
    replace H := Option.bind_eq_some_iff.mp H
    obtain ⟨⟨t157, t158⟩, A80, H⟩ := H
    replace H : ((shape_Place.f k (([2, 3] : List Int)) (([1, 3] : List Int))).bind fun bt165 => ((shape_Place.f k (([2, 3] : List Int)) (([1] : List Int))).bind fun bt173 => ((shape_Index.f k (([2, 3] : List Int)) 5).bind fun bt178 => ((shape_Place.f k ([] : List Int) ([] : List Int)).bind fun bt182 => ((shape_Index.f k (([2, 0] : List Int)) 0).bind fun bt187 => (if t127 = 6 then (if t128 = true then (if t129 = 1 then (if t130 = true then (if t134 = 0 then (if t135 = true then (if t140 = true then (none) else (if t145 = true then (none) else (if t150 = true then (none) else (if t157 = 5 then (if t158 = true then (if bt165.2 = true then (none) else (if bt173.2 = true then (none) else ((deckleref01_Same.f k bt178.1 (([1, 2] : List Int))).bind fun t194 => (if t194 = true then (if bt178.2 = true then (if bt182.1 = 0 then (if bt182.2 = true then (some (!bt187.2)) else (none)) else (none)) else (none)) else (none))))) else (none)) else (none))))) else (none)) else (none)) else (none)) else (none)) else (none)) else (none))))))) = some r := H
    have A8 := Aside0.mk A80
    clear A80
    obtain ⟨y159, hy159⟩ : ∃ y_ : List Int, y_ = (([2, 3] : List Int)) := ⟨_, rfl⟩
    replace H : ((shape_Place.f k y159 (([1, 3] : List Int))).bind fun bt165 => ((shape_Place.f k (([2, 3] : List Int)) (([1] : List Int))).bind fun bt173 => ((shape_Index.f k (([2, 3] : List Int)) 5).bind fun bt178 => ((shape_Place.f k ([] : List Int) ([] : List Int)).bind fun bt182 => ((shape_Index.f k (([2, 0] : List Int)) 0).bind fun bt187 => (if t127 = 6 then (if t128 = true then (if t129 = 1 then (if t130 = true then (if t134 = 0 then (if t135 = true then (if t140 = true then (none) else (if t145 = true then (none) else (if t150 = true then (none) else (if t157 = 5 then (if t158 = true then (if bt165.2 = true then (none) else (if bt173.2 = true then (none) else ((deckleref01_Same.f k bt178.1 (([1, 2] : List Int))).bind fun t194 => (if t194 = true then (if bt178.2 = true then (if bt182.1 = 0 then (if bt182.2 = true then (some (!bt187.2)) else (none)) else (none)) else (none)) else (none))))) else (none)) else (none))))) else (none)) else (none)) else (none)) else (none)) else (none)) else (none))))))) = some r := by first | (rw [hy159]; with_reducible exact H) | (have H2_ := (Option.bind_some _ _).symm.trans H; rw [hy159]; with_reducible exact H2_) | (have H2_ := (Option.bind_some _ _).symm.trans H; with_reducible exact H2_) | with_reducible exact H | (rw [hy159]; exact H) | exact H
    have Ny159 := Aside0.mk hy159
    clear hy159
    obtain ⟨y162, hy162⟩ : ∃ y_ : List Int, y_ = (([1, 3] : List Int)) := ⟨_, rfl⟩
    replace H : ((shape_Place.f k y159 y162).bind fun bt165 => ((shape_Place.f k (([2, 3] : List Int)) (([1] : List Int))).bind fun bt173 => ((shape_Index.f k (([2, 3] : List Int)) 5).bind fun bt178 => ((shape_Place.f k ([] : List Int) ([] : List Int)).bind fun bt182 => ((shape_Index.f k (([2, 0] : List Int)) 0).bind fun bt187 => (if t127 = 6 then (if t128 = true then (if t129 = 1 then (if t130 = true then (if t134 = 0 then (if t135 = true then (if t140 = true then (none) else (if t145 = true then (none) else (if t150 = true then (none) else (if t157 = 5 then (if t158 = true then (if bt165.2 = true then (none) else (if bt173.2 = true then (none) else ((deckleref01_Same.f k bt178.1 (([1, 2] : List Int))).bind fun t194 => (if t194 = true then (if bt178.2 = true then (if bt182.1 = 0 then (if bt182.2 = true then (some (!bt187.2)) else (none)) else (none)) else (none)) else (none))))) else (none)) else (none))))) else (none)) else (none)) else (none)) else (none)) else (none)) else (none))))))) = some r := by first | (rw [hy162]; with_reducible exact H) | (have H2_ := (Option.bind_some _ _).symm.trans H; rw [hy162]; with_reducible exact H2_) | (have H2_ := (Option.bind_some _ _).symm.trans H; with_reducible exact H2_) | with_reducible exact H | (rw [hy162]; exact H) | exact H
    have Ny162 := Aside0.mk hy162
    clear hy162
    replace H := Option.bind_eq_some_iff.mp H
    obtain ⟨⟨t165, t166⟩, A90, H⟩ := H
    replace H : ((shape_Place.f k (([2, 3] : List Int)) (([1] : List Int))).bind fun bt173 => ((shape_Index.f k (([2, 3] : List Int)) 5).bind fun bt178 => ((shape_Place.f k ([] : List Int) ([] : List Int)).bind fun bt182 => ((shape_Index.f k (([2, 0] : List Int)) 0).bind fun bt187 => (if t127 = 6 then (if t128 = true then (if t129 = 1 then (if t130 = true then (if t134 = 0 then (if t135 = true then (if t140 = true then (none) else (if t145 = true then (none) else (if t150 = true then (none) else (if t157 = 5 then (if t158 = true then (if t166 = true then (none) else (if bt173.2 = true then (none) else ((deckleref01_Same.f k bt178.1 (([1, 2] : List Int))).bind fun t194 => (if t194 = true then (if bt178.2 = true then (if bt182.1 = 0 then (if bt182.2 = true then (some (!bt187.2)) else (none)) else (none)) else (none)) else (none))))) else (none)) else (none))))) else (none)) else (none)) else (none)) else (none)) else (none)) else (none)))))) = some r := H
    have A9 := Aside0.mk A90
    clear A90
    obtain ⟨y167, hy167⟩ : ∃ y_ : List Int, y_ = (([2, 3] : List Int)) := ⟨_, rfl⟩
    replace H : ((shape_Place.f k y167 (([1] : List Int))).bind fun bt173 => ((shape_Index.f k (([2, 3] : List Int)) 5).bind fun bt178 => ((shape_Place.f k ([] : List Int) ([] : List Int)).bind fun bt182 => ((shape_Index.f k (([2, 0] : List Int)) 0).bind fun bt187 => (if t127 = 6 then (if t128 = true then (if t129 = 1 then (if t130 = true then (if t134 = 0 then (if t135 = true then (if t140 = true then (none) else (if t145 = true then (none) else (if t150 = true then (none) else (if t157 = 5 then (if t158 = true then (if t166 = true then (none) else (if bt173.2 = true then (none) else ((deckleref01_Same.f k bt178.1 (([1, 2] : List Int))).bind fun t194 => (if t194 = true then (if bt178.2 = true then (if bt182.1 = 0 then (if bt182.2 = true then (some (!bt187.2)) else (none)) else (none)) else (none)) else (none))))) else (none)) else (none))))) else (none)) else (none)) else (none)) else (none)) else (none)) else (none)))))) = some r := by first | (rw [hy167]; with_reducible exact H) | (have H2_ := (Option.bind_some _ _).symm.trans H; rw [hy167]; with_reducible exact H2_) | (have H2_ := (Option.bind_some _ _).symm.trans H; with_reducible exact H2_) | with_reducible exact H | (rw [hy167]; exact H) | exact H
    have Ny167 := Aside0.mk hy167
    clear hy167
    obtain ⟨y170, hy170⟩ : ∃ y_ : List Int, y_ = (([1] : List Int)) := ⟨_, rfl⟩
    replace H : ((shape_Place.f k y167 y170).bind fun bt173 => ((shape_Index.f k (([2, 3] : List Int)) 5).bind fun bt178 => ((shape_Place.f k ([] : List Int) ([] : List Int)).bind fun bt182 => ((shape_Index.f k (([2, 0] : List Int)) 0).bind fun bt187 => (if t127 = 6 then (if t128 = true then (if t129 = 1 then (if t130 = true then (if t134 = 0 then (if t135 = true then (if t140 = true then (none) else (if t145 = true then (none) else (if t150 = true then (none) else (if t157 = 5 then (if t158 = true then (if t166 = true then (none) else (if bt173.2 = true then (none) else ((deckleref01_Same.f k bt178.1 (([1, 2] : List Int))).bind fun t194 => (if t194 = true then (if bt178.2 = true then (if bt182.1 = 0 then (if bt182.2 = true then (some (!bt187.2)) else (none)) else (none)) else (none)) else (none))))) else (none)) else (none))))) else (none)) else (none)) else (none)) else (none)) else (none)) else (none)))))) = some r := by first | (rw [hy170]; with_reducible exact H) | (have H2_ := (Option.bind_some _ _).symm.trans H; rw [hy170]; with_reducible exact H2_) | (have H2_ := (Option.bind_some _ _).symm.trans H; with_reducible exact H2_) | with_reducible exact H | (rw [hy170]; exact H) | exact H
    have Ny170 := Aside0.mk hy170
    clear hy170
    replace H := Option.bind_eq_some_iff.mp H
    obtain ⟨⟨t173, t174⟩, A100, H⟩ := H
    replace H : ((shape_Index.f k (([2, 3] : List Int)) 5).bind fun bt178 => ((shape_Place.f k ([] : List Int) ([] : List Int)).bind fun bt182 => ((shape_Index.f k (([2, 0] : List Int)) 0).bind fun bt187 => (if t127 = 6 then (if t128 = true then (if t129 = 1 then (if t130 = true then (if t134 = 0 then (if t135 = true then (if t140 = true then (none) else (if t145 = true then (none) else (if t150 = true then (none) else (if t157 = 5 then (if t158 = true then (if t166 = true then (none) else (if t174 = true then (none) else ((deckleref01_Same.f k bt178.1 (([1, 2] : List Int))).bind fun t194 => (if t194 = true then (if bt178.2 = true then (if bt182.1 = 0 then (if bt182.2 = true then (some (!bt187.2)) else (none)) else (none)) else (none)) else (none))))) else (none)) else (none))))) else (none)) else (none)) else (none)) else (none)) else (none)) else (none))))) = some r := H
    have A10 := Aside0.mk A100
    clear A100
    obtain ⟨y175, hy175⟩ : ∃ y_ : List Int, y_ = (([2, 3] : List Int)) := ⟨_, rfl⟩
    replace H : ((shape_Index.f k y175 5).bind fun bt178 => ((shape_Place.f k ([] : List Int) ([] : List Int)).bind fun bt182 => ((shape_Index.f k (([2, 0] : List Int)) 0).bind fun bt187 => (if t127 = 6 then (if t128 = true then (if t129 = 1 then (if t130 = true then (if t134 = 0 then (if t135 = true then (if t140 = true then (none) else (if t145 = true then (none) else (if t150 = true then (none) else (if t157 = 5 then (if t158 = true then (if t166 = true then (none) else (if t174 = true then (none) else ((deckleref01_Same.f k bt178.1 (([1, 2] : List Int))).bind fun t194 => (if t194 = true then (if bt178.2 = true then (if bt182.1 = 0 then (if bt182.2 = true then (some (!bt187.2)) else (none)) else (none)) else (none)) else (none))))) else (none)) else (none))))) else (none)) else (none)) else (none)) else (none)) else (none)) else (none))))) = some r := by first | (rw [hy175]; with_reducible exact H) | (have H2_ := (Option.bind_some _ _).symm.trans H; rw [hy175]; with_reducible exact H2_) | (have H2_ := (Option.bind_some _ _).symm.trans H; with_reducible exact H2_) | with_reducible exact H | (rw [hy175]; exact H) | exact H
    have Ny175 := Aside0.mk hy175
    clear hy175
    replace H := Option.bind_eq_some_iff.mp H
    obtain ⟨⟨t178, t179⟩, A110, H⟩ := H
    replace H : ((shape_Place.f k ([] : List Int) ([] : List Int)).bind fun bt182 => ((shape_Index.f k (([2, 0] : List Int)) 0).bind fun bt187 => (if t127 = 6 then (if t128 = true then (if t129 = 1 then (if t130 = true then (if t134 = 0 then (if t135 = true then (if t140 = true then (none) else (if t145 = true then (none) else (if t150 = true then (none) else (if t157 = 5 then (if t158 = true then (if t166 = true then (none) else (if t174 = true then (none) else ((deckleref01_Same.f k t178 (([1, 2] : List Int))).bind fun t194 => (if t194 = true then (if t179 = true then (if bt182.1 = 0 then (if bt182.2 = true then (some (!bt187.2)) else (none)) else (none)) else (none)) else (none))))) else (none)) else (none))))) else (none)) else (none)) else (none)) else (none)) else (none)) else (none)))) = some r := H
    have A11 := Aside0.mk A110
    clear A110
    replace H := Option.bind_eq_some_iff.mp H
    obtain ⟨⟨t182, t183⟩, A120, H⟩ := H
    replace H : ((shape_Index.f k (([2, 0] : List Int)) 0).bind fun bt187 => (if t127 = 6 then (if t128 = true then (if t129 = 1 then (if t130 = true then (if t134 = 0 then (if t135 = true then (if t140 = true then (none) else (if t145 = true then (none) else (if t150 = true then (none) else (if t157 = 5 then (if t158 = true then (if t166 = true then (none) else (if t174 = true then (none) else ((deckleref01_Same.f k t178 (([1, 2] : List Int))).bind fun t194 => (if t194 = true then (if t179 = true then (if t182 = 0 then (if t183 = true then (some (!bt187.2)) else (none)) else (none)) else (none)) else (none))))) else (none)) else (none))))) else (none)) else (none)) else (none)) else (none)) else (none)) else (none))) = some r := H
    have A12 := Aside0.mk A120
    clear A120
    obtain ⟨y184, hy184⟩ : ∃ y_ : List Int, y_ = (([2, 0] : List Int)) := ⟨_, rfl⟩
    replace H : ((shape_Index.f k y184 0).bind fun bt187 => (if t127 = 6 then (if t128 = true then (if t129 = 1 then (if t130 = true then (if t134 = 0 then (if t135 = true then (if t140 = true then (none) else (if t145 = true then (none) else (if t150 = true then (none) else (if t157 = 5 then (if t158 = true then (if t166 = true then (none) else (if t174 = true then (none) else ((deckleref01_Same.f k t178 (([1, 2] : List Int))).bind fun t194 => (if t194 = true then (if t179 = true then (if t182 = 0 then (if t183 = true then (some (!bt187.2)) else (none)) else (none)) else (none)) else (none))))) else (none)) else (none))))) else (none)) else (none)) else (none)) else (none)) else (none)) else (none))) = some r := by first | (rw [hy184]; with_reducible exact H) | (have H2_ := (Option.bind_some _ _).symm.trans H; rw [hy184]; with_reducible exact H2_) | (have H2_ := (Option.bind_some _ _).symm.trans H; with_reducible exact H2_) | with_reducible exact H | (rw [hy184]; exact H) | exact H
    have Ny184 := Aside0.mk hy184
    clear hy184
    replace H := Option.bind_eq_some_iff.mp H
    obtain ⟨⟨t187, t188⟩, A130, H⟩ := H
    replace H : (if t127 = 6 then (if t128 = true then (if t129 = 1 then (if t130 = true then (if t134 = 0 then (if t135 = true then (if t140 = true then (none) else (if t145 = true then (none) else (if t150 = true then (none) else (if t157 = 5 then (if t158 = true then (if t166 = true then (none) else (if t174 = true then (none) else ((deckleref01_Same.f k t178 (([1, 2] : List Int))).bind fun t194 => (if t194 = true then (if t179 = true then (if t182 = 0 then (if t183 = true then (some (!t188)) else (none)) else (none)) else (none)) else (none))))) else (none)) else (none))))) else (none)) else (none)) else (none)) else (none)) else (none)) else (none)) = some r := H
    have A13 := Aside0.mk A130
    clear A130
    by_cases c14 : t127 = 6
    · rw [if_pos c14] at H
      have c14b0 : (t127 == 6) = true := beq_iff_eq.mpr c14
      have c14b1 : (t127 != 6) = false := bne_eq_false_iff_eq.mpr c14
      clear c14
      by_cases c15 : t128 = true
      · subst c15
        have H1 : (if t129 = 1 then (if t130 = true then (if t134 = 0 then (if t135 = true then (if t140 = true then (none) else (if t145 = true then (none) else (if t150 = true then (none) else (if t157 = 5 then (if t158 = true then (if t166 = true then (none) else (if t174 = true then (none) else ((deckleref01_Same.f k t178 (([1, 2] : List Int))).bind fun t194 => (if t194 = true then (if t179 = true then (if t182 = 0 then (if t183 = true then (some (!t188)) else (none)) else (none)) else (none)) else (none))))) else (none)) else (none))))) else (none)) else (none)) else (none)) else (none)) = some r := by rw [if_pos rfl] at H; exact H
        clear H
        have H := H1
        clear H1
        by_cases c16 : t129 = 1
        · rw [if_pos c16] at H
          have c16b0 : (t129 == 1) = true := beq_iff_eq.mpr c16
          have c16b1 : (t129 != 1) = false := bne_eq_false_iff_eq.mpr c16
          clear c16
          by_cases c17 : t130 = true
          · subst c17
            have H1 : (if t134 = 0 then (if t135 = true then (if t140 = true then (none) else (if t145 = true then (none) else (if t150 = true then (none) else (if t157 = 5 then (if t158 = true then (if t166 = true then (none) else (if t174 = true then (none) else ((deckleref01_Same.f k t178 (([1, 2] : List Int))).bind fun t194 => (if t194 = true then (if t179 = true then (if t182 = 0 then (if t183 = true then (some (!t188)) else (none)) else (none)) else (none)) else (none))))) else (none)) else (none))))) else (none)) else (none)) = some r := by rw [if_pos rfl] at H; exact H
            clear H
            have H := H1
            clear H1
            by_cases c18 : t134 = 0
            · rw [if_pos c18] at H
              have c18b0 : (t134 == 0) = true := beq_iff_eq.mpr c18
              have c18b1 : (t134 != 0) = false := bne_eq_false_iff_eq.mpr c18
              clear c18
              by_cases c19 : t135 = true
              · subst c19
                have H1 : (if t140 = true then (none) else (if t145 = true then (none) else (if t150 = true then (none) else (if t157 = 5 then (if t158 = true then (if t166 = true then (none) else (if t174 = true then (none) else ((deckleref01_Same.f k t178 (([1, 2] : List Int))).bind fun t194 => (if t194 = true then (if t179 = true then (if t182 = 0 then (if t183 = true then (some (!t188)) else (none)) else (none)) else (none)) else (none))))) else (none)) else (none))))) = some r := by rw [if_pos rfl] at H; exact H
                clear H
                have H := H1
                clear H1
                by_cases c20 : t140 = true
                · subst c20
                  have H1 : (none) = some r := by rw [if_pos rfl] at H; exact H
                  clear H
                  have H := H1
                  clear H1
                  exact absurd H (by simp)
                · replace c20 := Bool.eq_false_iff.mpr c20
                  subst c20
                  have H1 : (if t145 = true then (none) else (if t150 = true then (none) else (if t157 = 5 then (if t158 = true then (if t166 = true then (none) else (if t174 = true then (none) else ((deckleref01_Same.f k t178 (([1, 2] : List Int))).bind fun t194 => (if t194 = true then (if t179 = true then (if t182 = 0 then (if t183 = true then (some (!t188)) else (none)) else (none)) else (none)) else (none))))) else (none)) else (none)))) = some r := by rw [if_neg (show ¬ (false = true) by decide)] at H; exact H
                  clear H
                  have H := H1
                  clear H1
                  by_cases c21 : t145 = true
                  · subst c21
                    have H1 : (none) = some r := by rw [if_pos rfl] at H; exact H
                    clear H
                    have H := H1
                    clear H1
                    exact absurd H (by simp)
                  · replace c21 := Bool.eq_false_iff.mpr c21
                    subst c21
                    have H1 : (if t150 = true then (none) else (if t157 = 5 then (if t158 = true then (if t166 = true then (none) else (if t174 = true then (none) else ((deckleref01_Same.f k t178 (([1, 2] : List Int))).bind fun t194 => (if t194 = true then (if t179 = true then (if t182 = 0 then (if t183 = true then (some (!t188)) else (none)) else (none)) else (none)) else (none))))) else (none)) else (none))) = some r := by rw [if_neg (show ¬ (false = true) by decide)] at H; exact H
                    clear H
                    have H := H1
                    clear H1
                    by_cases c22 : t150 = true
                    · subst c22
                      have H1 : (none) = some r := by rw [if_pos rfl] at H; exact H
                      clear H
                      have H := H1
                      clear H1
                      exact absurd H (by simp)
                    · replace c22 := Bool.eq_false_iff.mpr c22
                      subst c22
                      have H1 : (if t157 = 5 then (if t158 = true then (if t166 = true then (none) else (if t174 = true then (none) else ((deckleref01_Same.f k t178 (([1, 2] : List Int))).bind fun t194 => (if t194 = true then (if t179 = true then (if t182 = 0 then (if t183 = true then (some (!t188)) else (none)) else (none)) else (none)) else (none))))) else (none)) else (none)) = some r := by rw [if_neg (show ¬ (false = true) by decide)] at H; exact H
                      clear H
                      have H := H1
                      clear H1
                      by_cases c23 : t157 = 5
                      · rw [if_pos c23] at H
                        have c23b0 : (t157 == 5) = true := beq_iff_eq.mpr c23
                        have c23b1 : (t157 != 5) = false := bne_eq_false_iff_eq.mpr c23
                        clear c23
                        by_cases c24 : t158 = true
                        · subst c24
                          have H1 : (if t166 = true then (none) else (if t174 = true then (none) else ((deckleref01_Same.f k t178 (([1, 2] : List Int))).bind fun t194 => (if t194 = true then (if t179 = true then (if t182 = 0 then (if t183 = true then (some (!t188)) else (none)) else (none)) else (none)) else (none))))) = some r := by rw [if_pos rfl] at H; exact H
                          clear H
                          have H := H1
                          clear H1
                          by_cases c25 : t166 = true
                          · subst c25
                            have H1 : (none) = some r := by rw [if_pos rfl] at H; exact H
                            clear H
                            have H := H1
                            clear H1
                            exact absurd H (by simp)
                          · replace c25 := Bool.eq_false_iff.mpr c25
                            subst c25
                            have H1 : (if t174 = true then (none) else ((deckleref01_Same.f k t178 (([1, 2] : List Int))).bind fun t194 => (if t194 = true then (if t179 = true then (if t182 = 0 then (if t183 = true then (some (!t188)) else (none)) else (none)) else (none)) else (none)))) = some r := by rw [if_neg (show ¬ (false = true) by decide)] at H; exact H
                            clear H
                            have H := H1
                            clear H1
                            by_cases c26 : t174 = true
                            · subst c26
                              have H1 : (none) = some r := by rw [if_pos rfl] at H; exact H
                              clear H
                              have H := H1
                              clear H1
                              exact absurd H (by simp)
                            · replace c26 := Bool.eq_false_iff.mpr c26
                              subst c26
                              have H1 : ((deckleref01_Same.f k t178 (([1, 2] : List Int))).bind fun t194 => (if t194 = true then (if t179 = true then (if t182 = 0 then (if t183 = true then (some (!t188)) else (none)) else (none)) else (none)) else (none))) = some r := by rw [if_neg (show ¬ (false = true) by decide)] at H; exact H
                              clear H
                              have H := H1
                              clear H1
                              obtain ⟨y191, hy191⟩ : ∃ y_ : List Int, y_ = (([1, 2] : List Int)) := ⟨_, rfl⟩
                              replace H : ((deckleref01_Same.f k t178 y191).bind fun t194 => (if t194 = true then (if t179 = true then (if t182 = 0 then (if t183 = true then (some (!t188)) else (none)) else (none)) else (none)) else (none))) = some r := by first | (rw [hy191]; with_reducible exact H) | (have H2_ := (Option.bind_some _ _).symm.trans H; rw [hy191]; with_reducible exact H2_) | (have H2_ := (Option.bind_some _ _).symm.trans H; with_reducible exact H2_) | with_reducible exact H | (rw [hy191]; exact H) | exact H
                              have Ny191 := Aside0.mk hy191
                              clear hy191
                              replace H := Option.bind_eq_some_iff.mp H
                              obtain ⟨t194, A270, H⟩ := H
                              replace H : (if t194 = true then (if t179 = true then (if t182 = 0 then (if t183 = true then (some (!t188)) else (none)) else (none)) else (none)) else (none)) = some r := H
                              have A27 := Aside0.mk A270
                              clear A270
                              by_cases c28 : t194 = true
                              · subst c28
                                have H1 : (if t179 = true then (if t182 = 0 then (if t183 = true then (some (!t188)) else (none)) else (none)) else (none)) = some r := by rw [if_pos rfl] at H; exact H
                                clear H
                                have H := H1
                                clear H1
                                by_cases c29 : t179 = true
                                · subst c29
                                  have H1 : (if t182 = 0 then (if t183 = true then (some (!t188)) else (none)) else (none)) = some r := by rw [if_pos rfl] at H; exact H
                                  clear H
                                  have H := H1
                                  clear H1
                                  by_cases c30 : t182 = 0
                                  · rw [if_pos c30] at H
                                    have c30b0 : (t182 == 0) = true := beq_iff_eq.mpr c30
                                    have c30b1 : (t182 != 0) = false := bne_eq_false_iff_eq.mpr c30
                                    clear c30
                                    by_cases c31 : t183 = true
                                    · subst c31
                                      have H1 : (some (!t188)) = some r := by rw [if_pos rfl] at H; exact H
                                      clear H
                                      have H := H1
                                      clear H1
                                      obtain rfl := Option.some.inj H
                                      go_enter Try.func8, Try.ntmps8
                                      go_wp2_with (first | ((with_reducible refine gate_dst (N := 26) rfl ?_); (try (refine gate_guard (by rfl) ?_; dsimp only)); refine Kd.R_lit (Kd.int .i64) _ 3 ?hg (N := 26) ?hd (xs := ([2, 3] : List Int)) (inner := [.int .i64 2, .int .i64 3]) (ok := fun _ => True) (okp := fun _ => True) ?hr ?hp (fun _ hk => hk) trivial (Below.refl _ _) (Nat.le_refl _) (by simp) ?_; (case hd => rfl); (case hg => rfl); (case hr => first | (go_simp; done) | (go_simp; rfl)); (case hp => exact (Reps.one (show Kd.M (Kd.int .i64) _ _ _ 2 [.int .i64 2] from rfl) (Reps.one (show Kd.M (Kd.int .i64) _ _ _ 3 [.int .i64 3] from rfl) (Reps.none _ _)))); intro v125 w32 ho33 hb hg_ hnew_; clear hg_ hnew_; (first | rw [← Ny124.out] at ho33 | (simp only [Int.reduceToNat] at ho33; rw [← Ny124.out] at ho33)); have n0_ := Aside0.mk (Kd.R_lower ho33 (below_size (by repeat (first | (with_reducible first | exact HB.out | apply below_alloc | apply pw_below_drewN | apply below_drew1) | exact HB.out)))); have n1_ := Aside0.mk (below_step (by repeat (first | (with_reducible first | exact HB.out | apply below_alloc | apply pw_below_drewN | apply below_drew1) | exact HB.out)) hb); clear HB; have HO126 := n0_; have HB := n1_; clear n0_ n1_; clear hb ho33; obtain ⟨Ao34, co34, eo34⟩ := Kd.R_slice HO126.out; subst eo34) | ((with_reducible refine gate_callee (f := 9) rfl ?_); refine goesL_ (some 27) rfl rfl Try.func9 (by kernel_rfl) rfl #[.slice Ao34 y124.length co34] rfl (by (try simp only [List.map_toArray, List.map_cons, List.map_nil]); first | done | rfl | (simp only [List.length_drop, List.length_take]; rfl)) ?_; (with_reducible refine (shape_Count.calls k _ _ y124 t127 true _ ?side1 ?side2 A1.out).mono ?_); (case side1 => repeat (first | exact (Kd.R_reads' HO126.out).2.2 | (with_reducible refine Kd.C_alloc ?_ _) | (with_reducible refine Kd.C_drewN ?_ _) | (with_reducible refine Kd.C_drew ?_))); (case side2 => exact (Kd.R_reads' HO126.out).2.1); rintro e w' ⟨rfl, ⟨nd, rfl⟩⟩; refine ⟨_, rfl, ?_⟩) | ((with_reducible refine gate_callee (f := 9) rfl ?_); refine goesL_ (some 31) rfl rfl Try.func9 (by kernel_rfl) rfl #[.slice none 0 0] rfl (by (try simp only [List.map_toArray, List.map_cons, List.map_nil]); first | done | rfl | (simp only [List.length_drop, List.length_take]; rfl)) ?_; (refine (shape_Count.calls k _ _ ([] : List Int) t129 true _ ?side1 ?side2 A2.out).mono ?_); (case side1 => exact Kd.C_nil _ _); (case side2 => exact Nat.le_refl _); rintro e w' ⟨rfl, ⟨nd, rfl⟩⟩; refine ⟨_, rfl, ?_⟩) | ((with_reducible refine gate_dst (N := 35) rfl ?_); (try (refine gate_guard (by rfl) ?_; dsimp only)); refine Kd.R_lit (Kd.int .i64) _ 3 ?hg (N := 35) ?hd (xs := ([0, 1048576, 1048576] : List Int)) (inner := [.int .i64 0, .int .i64 1048576, .int .i64 1048576]) (ok := fun _ => True) (okp := fun _ => True) ?hr ?hp (fun _ hk => hk) trivial (Below.refl _ _) (Nat.le_refl _) (by simp) ?_; (case hd => rfl); (case hg => rfl); (case hr => first | (go_simp; done) | (go_simp; rfl)); (case hp => exact (Reps.one (show Kd.M (Kd.int .i64) _ _ _ 0 [.int .i64 0] from rfl) (Reps.one (show Kd.M (Kd.int .i64) _ _ _ 1048576 [.int .i64 1048576] from rfl) (Reps.one (show Kd.M (Kd.int .i64) _ _ _ 1048576 [.int .i64 1048576] from rfl) (Reps.none _ _))))); intro v132 w35 ho36 hb hg_ hnew_; clear hg_ hnew_; (first | rw [← Ny131.out] at ho36 | (simp only [Int.reduceToNat] at ho36; rw [← Ny131.out] at ho36)); have n0_ := Aside0.mk (Kd.R_elder' (by (with_reducible repeat (first | apply Kd.R_alloc | apply Kd.R_drewN | apply Kd.R_drew)); exact HO126.out) (Kd.R_base ho36) hb); have n1_ := Aside0.mk (Kd.R_lower (Kd.R_new' ho36 (Kd.R_lt (by (with_reducible repeat (first | apply Kd.R_alloc | apply Kd.R_drewN | apply Kd.R_drew)); exact HO126.out))) (below_size (by repeat (first | (with_reducible first | exact HB.out | apply below_alloc | apply pw_below_drewN | apply below_drew1) | exact HB.out)))); have n2_ := Aside0.mk (below_step (by repeat (first | (with_reducible first | exact HB.out | apply below_alloc | apply pw_below_drewN | apply below_drew1) | exact HB.out)) hb); clear HO126; clear HB; have HO126 := n0_; have HO133 := n1_; have HB := n2_; clear n0_ n1_ n2_; clear hb ho36; obtain ⟨Ao37, co37, eo37⟩ := Kd.R_slice HO133.out; subst eo37) | ((with_reducible refine gate_callee (f := 9) rfl ?_); refine goesL_ (some 36) rfl rfl Try.func9 (by kernel_rfl) rfl #[.slice Ao37 y131.length co37] rfl (by (try simp only [List.map_toArray, List.map_cons, List.map_nil]); first | done | rfl | (simp only [List.length_drop, List.length_take]; rfl)) ?_; (with_reducible refine (shape_Count.calls k _ _ y131 t134 true _ ?side1 ?side2 A3.out).mono ?_); (case side1 => repeat (first | exact (Kd.R_reads' HO133.out).2.2 | (with_reducible refine Kd.C_alloc ?_ _) | (with_reducible refine Kd.C_drewN ?_ _) | (with_reducible refine Kd.C_drew ?_))); (case side2 => exact (Kd.R_reads' HO133.out).2.1); rintro e w' ⟨rfl, ⟨nd, rfl⟩⟩; refine ⟨_, rfl, ?_⟩) | ((with_reducible refine gate_dst (N := 40) rfl ?_); (try (refine gate_guard (by rfl) ?_; dsimp only)); refine Kd.R_lit (Kd.int .i64) _ 3 ?hg (N := 40) ?hd (xs := ([1024, 1025] : List Int)) (inner := [.int .i64 1024, .int .i64 1025]) (ok := fun _ => True) (okp := fun _ => True) ?hr ?hp (fun _ hk => hk) trivial (Below.refl _ _) (Nat.le_refl _) (by simp) ?_; (case hd => rfl); (case hg => rfl); (case hr => first | (go_simp; done) | (go_simp; rfl)); (case hp => exact (Reps.one (show Kd.M (Kd.int .i64) _ _ _ 1024 [.int .i64 1024] from rfl) (Reps.one (show Kd.M (Kd.int .i64) _ _ _ 1025 [.int .i64 1025] from rfl) (Reps.none _ _)))); intro v137 w38 ho39 hb hg_ hnew_; clear hg_ hnew_; (first | rw [← Ny136.out] at ho39 | (simp only [Int.reduceToNat] at ho39; rw [← Ny136.out] at ho39)); have n0_ := Aside0.mk (Kd.R_elder' (by (with_reducible repeat (first | apply Kd.R_alloc | apply Kd.R_drewN | apply Kd.R_drew)); exact HO126.out) (Kd.R_base ho39) hb); have n1_ := Aside0.mk (Kd.R_elder' (by (with_reducible repeat (first | apply Kd.R_alloc | apply Kd.R_drewN | apply Kd.R_drew)); exact HO133.out) (Kd.R_base ho39) hb); have n2_ := Aside0.mk (Kd.R_lower (Kd.R_new' (Kd.R_new' ho39 (Kd.R_lt (by (with_reducible repeat (first | apply Kd.R_alloc | apply Kd.R_drewN | apply Kd.R_drew)); exact HO126.out))) (Kd.R_lt (by (with_reducible repeat (first | apply Kd.R_alloc | apply Kd.R_drewN | apply Kd.R_drew)); exact HO133.out))) (below_size (by repeat (first | (with_reducible first | exact HB.out | apply below_alloc | apply pw_below_drewN | apply below_drew1) | exact HB.out)))); have n3_ := Aside0.mk (below_step (by repeat (first | (with_reducible first | exact HB.out | apply below_alloc | apply pw_below_drewN | apply below_drew1) | exact HB.out)) hb); clear HO126; clear HO133; clear HB; have HO126 := n0_; have HO133 := n1_; have HO138 := n2_; have HB := n3_; clear n0_ n1_ n2_ n3_; clear hb ho39; obtain ⟨Ao40, co40, eo40⟩ := Kd.R_slice HO138.out; subst eo40) | ((with_reducible refine gate_callee (f := 9) rfl ?_); refine goesL_ (some 41) rfl rfl Try.func9 (by kernel_rfl) rfl #[.slice Ao40 y136.length co40] rfl (by (try simp only [List.map_toArray, List.map_cons, List.map_nil]); first | done | rfl | (simp only [List.length_drop, List.length_take]; rfl)) ?_; (with_reducible refine (shape_Count.calls k _ _ y136 t139 false _ ?side1 ?side2 A4.out).mono ?_); (case side1 => repeat (first | exact (Kd.R_reads' HO138.out).2.2 | (with_reducible refine Kd.C_alloc ?_ _) | (with_reducible refine Kd.C_drewN ?_ _) | (with_reducible refine Kd.C_drew ?_))); (case side2 => exact (Kd.R_reads' HO138.out).2.1); rintro e w' ⟨rfl, ⟨nd, rfl⟩⟩; refine ⟨_, rfl, ?_⟩) | ((with_reducible refine gate_dst (N := 45) rfl ?_); (try (refine gate_guard (by rfl) ?_; dsimp only)); refine Kd.R_lit (Kd.int .i64) _ 3 ?hg (N := 45) ?hd (xs := ([(-1), 0] : List Int)) (inner := [.int .i64 (-1), .int .i64 0]) (ok := fun _ => True) (okp := fun _ => True) ?hr ?hp (fun _ hk => hk) trivial (Below.refl _ _) (Nat.le_refl _) (by simp) ?_; (case hd => rfl); (case hg => rfl); (case hr => first | (go_simp; done) | (go_simp; rfl)); (case hp => exact (Reps.one (show Kd.M (Kd.int .i64) _ _ _ (-1) [.int .i64 (-1)] from rfl) (Reps.one (show Kd.M (Kd.int .i64) _ _ _ 0 [.int .i64 0] from rfl) (Reps.none _ _)))); intro v142 w41 ho42 hb hg_ hnew_; clear hg_ hnew_; (first | rw [← Ny141.out] at ho42 | (simp only [Int.reduceToNat] at ho42; rw [← Ny141.out] at ho42)); have n0_ := Aside0.mk (Kd.R_elder' (by (with_reducible repeat (first | apply Kd.R_alloc | apply Kd.R_drewN | apply Kd.R_drew)); exact HO126.out) (Kd.R_base ho42) hb); have n1_ := Aside0.mk (Kd.R_elder' (by (with_reducible repeat (first | apply Kd.R_alloc | apply Kd.R_drewN | apply Kd.R_drew)); exact HO133.out) (Kd.R_base ho42) hb); have n2_ := Aside0.mk (Kd.R_elder' (by (with_reducible repeat (first | apply Kd.R_alloc | apply Kd.R_drewN | apply Kd.R_drew)); exact HO138.out) (Kd.R_base ho42) hb); have n3_ := Aside0.mk (Kd.R_lower (Kd.R_new' (Kd.R_new' (Kd.R_new' ho42 (Kd.R_lt (by (with_reducible repeat (first | apply Kd.R_alloc | apply Kd.R_drewN | apply Kd.R_drew)); exact HO126.out))) (Kd.R_lt (by (with_reducible repeat (first | apply Kd.R_alloc | apply Kd.R_drewN | apply Kd.R_drew)); exact HO133.out))) (Kd.R_lt (by (with_reducible repeat (first | apply Kd.R_alloc | apply Kd.R_drewN | apply Kd.R_drew)); exact HO138.out))) (below_size (by repeat (first | (with_reducible first | exact HB.out | apply below_alloc | apply pw_below_drewN | apply below_drew1) | exact HB.out)))); have n4_ := Aside0.mk (below_step (by repeat (first | (with_reducible first | exact HB.out | apply below_alloc | apply pw_below_drewN | apply below_drew1) | exact HB.out)) hb); clear HO126; clear HO133; clear HO138; clear HB; have HO126 := n0_; have HO133 := n1_; have HO138 := n2_; have HO143 := n3_; have HB := n4_; clear n0_ n1_ n2_ n3_ n4_; clear hb ho42; obtain ⟨Ao43, co43, eo43⟩ := Kd.R_slice HO143.out; subst eo43) | ((with_reducible refine gate_callee (f := 9) rfl ?_); refine goesL_ (some 46) rfl rfl Try.func9 (by kernel_rfl) rfl #[.slice Ao43 y141.length co43] rfl (by (try simp only [List.map_toArray, List.map_cons, List.map_nil]); first | done | rfl | (simp only [List.length_drop, List.length_take]; rfl)) ?_; (with_reducible refine (shape_Count.calls k _ _ y141 t144 false _ ?side1 ?side2 A5.out).mono ?_); (case side1 => repeat (first | exact (Kd.R_reads' HO143.out).2.2 | (with_reducible refine Kd.C_alloc ?_ _) | (with_reducible refine Kd.C_drewN ?_ _) | (with_reducible refine Kd.C_drew ?_))); (case side2 => exact (Kd.R_reads' HO143.out).2.1); rintro e w' ⟨rfl, ⟨nd, rfl⟩⟩; refine ⟨_, rfl, ?_⟩) | ((with_reducible refine gate_dst (N := 50) rfl ?_); (try (refine gate_guard (by rfl) ?_; dsimp only)); refine Kd.R_make (Kd.int .i64) _ 3 rfl (N := 50) rfl 22 _ _ rfl 17 rfl rfl Try.underlying22 (.int .i64 0) 8 info3 rfl (by decide) (by omega) 0 (ok := fun _ => True) (okp := fun _ => True) rfl (fun _ hk => hk) trivial (by omega) (by omega) (Below.refl _ _) (Nat.le_refl _) ?_; intro v147 w44 ho45 hb hg_ hnew_; clear hg_ hnew_; (first | rw [← Ny146.out] at ho45 | (simp only [Int.reduceToNat] at ho45; rw [← Ny146.out] at ho45)); have n0_ := Aside0.mk (Kd.R_elder' (by (with_reducible repeat (first | apply Kd.R_alloc | apply Kd.R_drewN | apply Kd.R_drew)); exact HO126.out) (Kd.R_base ho45) hb); have n1_ := Aside0.mk (Kd.R_elder' (by (with_reducible repeat (first | apply Kd.R_alloc | apply Kd.R_drewN | apply Kd.R_drew)); exact HO133.out) (Kd.R_base ho45) hb); have n2_ := Aside0.mk (Kd.R_elder' (by (with_reducible repeat (first | apply Kd.R_alloc | apply Kd.R_drewN | apply Kd.R_drew)); exact HO138.out) (Kd.R_base ho45) hb); have n3_ := Aside0.mk (Kd.R_elder' (by (with_reducible repeat (first | apply Kd.R_alloc | apply Kd.R_drewN | apply Kd.R_drew)); exact HO143.out) (Kd.R_base ho45) hb); have n4_ := Aside0.mk (Kd.R_lower (Kd.R_new' (Kd.R_new' (Kd.R_new' (Kd.R_new' ho45 (Kd.R_lt (by (with_reducible repeat (first | apply Kd.R_alloc | apply Kd.R_drewN | apply Kd.R_drew)); exact HO126.out))) (Kd.R_lt (by (with_reducible repeat (first | apply Kd.R_alloc | apply Kd.R_drewN | apply Kd.R_drew)); exact HO133.out))) (Kd.R_lt (by (with_reducible repeat (first | apply Kd.R_alloc | apply Kd.R_drewN | apply Kd.R_drew)); exact HO138.out))) (Kd.R_lt (by (with_reducible repeat (first | apply Kd.R_alloc | apply Kd.R_drewN | apply Kd.R_drew)); exact HO143.out))) (below_size (by repeat (first | (with_reducible first | exact HB.out | apply below_alloc | apply pw_below_drewN | apply below_drew1) | exact HB.out)))); have n5_ := Aside0.mk (below_step (by repeat (first | (with_reducible first | exact HB.out | apply below_alloc | apply pw_below_drewN | apply below_drew1) | exact HB.out)) hb); clear HO126; clear HO133; clear HO138; clear HO143; clear HB; have HO126 := n0_; have HO133 := n1_; have HO138 := n2_; have HO143 := n3_; have HO148 := n4_; have HB := n5_; clear n0_ n1_ n2_ n3_ n4_ n5_; clear hb ho45; obtain ⟨Ao46, co46, eo46⟩ := Kd.R_slice HO148.out; subst eo46) | ((with_reducible refine gate_callee (f := 9) rfl ?_); refine goesL_ (some 51) rfl rfl Try.func9 (by kernel_rfl) rfl #[.slice Ao46 y146.length co46] rfl (by (try simp only [List.map_toArray, List.map_cons, List.map_nil]); first | done | rfl | (simp only [List.length_drop, List.length_take]; rfl)) ?_; (with_reducible refine (shape_Count.calls k _ _ y146 t149 false _ ?side1 ?side2 A7.out).mono ?_); (case side1 => repeat (first | exact (Kd.R_reads' HO148.out).2.2 | (with_reducible refine Kd.C_alloc ?_ _) | (with_reducible refine Kd.C_drewN ?_ _) | (with_reducible refine Kd.C_drew ?_))); (case side2 => exact (Kd.R_reads' HO148.out).2.1); rintro e w' ⟨rfl, ⟨nd, rfl⟩⟩; refine ⟨_, rfl, ?_⟩) | ((with_reducible refine gate_dst (N := 55) rfl ?_); (try (refine gate_guard (by rfl) ?_; dsimp only)); refine Kd.R_lit (Kd.int .i64) _ 3 ?hg (N := 55) ?hd (xs := ([2, 3] : List Int)) (inner := [.int .i64 2, .int .i64 3]) (ok := fun _ => True) (okp := fun _ => True) ?hr ?hp (fun _ hk => hk) trivial (Below.refl _ _) (Nat.le_refl _) (by simp) ?_; (case hd => rfl); (case hg => rfl); (case hr => first | (go_simp; done) | (go_simp; rfl)); (case hp => exact (Reps.one (show Kd.M (Kd.int .i64) _ _ _ 2 [.int .i64 2] from rfl) (Reps.one (show Kd.M (Kd.int .i64) _ _ _ 3 [.int .i64 3] from rfl) (Reps.none _ _)))); intro v152 w47 ho48 hb hg_ hnew_; clear hg_ hnew_; (first | rw [← Ny151.out] at ho48 | (simp only [Int.reduceToNat] at ho48; rw [← Ny151.out] at ho48)); have n0_ := Aside0.mk (Kd.R_elder' (by (with_reducible repeat (first | apply Kd.R_alloc | apply Kd.R_drewN | apply Kd.R_drew)); exact HO126.out) (Kd.R_base ho48) hb); have n1_ := Aside0.mk (Kd.R_elder' (by (with_reducible repeat (first | apply Kd.R_alloc | apply Kd.R_drewN | apply Kd.R_drew)); exact HO133.out) (Kd.R_base ho48) hb); have n2_ := Aside0.mk (Kd.R_elder' (by (with_reducible repeat (first | apply Kd.R_alloc | apply Kd.R_drewN | apply Kd.R_drew)); exact HO138.out) (Kd.R_base ho48) hb); have n3_ := Aside0.mk (Kd.R_elder' (by (with_reducible repeat (first | apply Kd.R_alloc | apply Kd.R_drewN | apply Kd.R_drew)); exact HO143.out) (Kd.R_base ho48) hb); have n4_ := Aside0.mk (Kd.R_elder' (by (with_reducible repeat (first | apply Kd.R_alloc | apply Kd.R_drewN | apply Kd.R_drew)); exact HO148.out) (Kd.R_base ho48) hb); have n5_ := Aside0.mk (Kd.R_lower (Kd.R_new' (Kd.R_new' (Kd.R_new' (Kd.R_new' (Kd.R_new' ho48 (Kd.R_lt (by (with_reducible repeat (first | apply Kd.R_alloc | apply Kd.R_drewN | apply Kd.R_drew)); exact HO126.out))) (Kd.R_lt (by (with_reducible repeat (first | apply Kd.R_alloc | apply Kd.R_drewN | apply Kd.R_drew)); exact HO133.out))) (Kd.R_lt (by (with_reducible repeat (first | apply Kd.R_alloc | apply Kd.R_drewN | apply Kd.R_drew)); exact HO138.out))) (Kd.R_lt (by (with_reducible repeat (first | apply Kd.R_alloc | apply Kd.R_drewN | apply Kd.R_drew)); exact HO143.out))) (Kd.R_lt (by (with_reducible repeat (first | apply Kd.R_alloc | apply Kd.R_drewN | apply Kd.R_drew)); exact HO148.out))) (below_size (by repeat (first | (with_reducible first | exact HB.out | apply below_alloc | apply pw_below_drewN | apply below_drew1) | exact HB.out)))); have n6_ := Aside0.mk (below_step (by repeat (first | (with_reducible first | exact HB.out | apply below_alloc | apply pw_below_drewN | apply below_drew1) | exact HB.out)) hb); clear HO126; clear HO133; clear HO138; clear HO143; clear HO148; clear HB; have HO126 := n0_; have HO133 := n1_; have HO138 := n2_; have HO143 := n3_; have HO148 := n4_; have HO153 := n5_; have HB := n6_; clear n0_ n1_ n2_ n3_ n4_ n5_ n6_; clear hb ho48) | ((with_reducible refine gate_dst (N := 56) rfl ?_); (try (refine gate_guard (by rfl) ?_; dsimp only)); refine Kd.R_lit (Kd.int .i64) _ 3 ?hg (N := 56) ?hd (xs := ([1, 2] : List Int)) (inner := [.int .i64 1, .int .i64 2]) (ok := fun _ => True) (okp := fun _ => True) ?hr ?hp (fun _ hk => hk) trivial (Below.refl _ _) (Nat.le_refl _) (by simp) ?_; (case hd => rfl); (case hg => rfl); (case hr => first | (go_simp; done) | (go_simp; rfl)); (case hp => exact (Reps.one (show Kd.M (Kd.int .i64) _ _ _ 1 [.int .i64 1] from rfl) (Reps.one (show Kd.M (Kd.int .i64) _ _ _ 2 [.int .i64 2] from rfl) (Reps.none _ _)))); intro v155 w49 ho50 hb hg_ hnew_; clear hg_ hnew_; (first | rw [← Ny154.out] at ho50 | (simp only [Int.reduceToNat] at ho50; rw [← Ny154.out] at ho50)); have n0_ := Aside0.mk (Kd.R_elder' (by (with_reducible repeat (first | apply Kd.R_alloc | apply Kd.R_drewN | apply Kd.R_drew)); exact HO126.out) (Kd.R_base ho50) hb); have n1_ := Aside0.mk (Kd.R_elder' (by (with_reducible repeat (first | apply Kd.R_alloc | apply Kd.R_drewN | apply Kd.R_drew)); exact HO133.out) (Kd.R_base ho50) hb); have n2_ := Aside0.mk (Kd.R_elder' (by (with_reducible repeat (first | apply Kd.R_alloc | apply Kd.R_drewN | apply Kd.R_drew)); exact HO138.out) (Kd.R_base ho50) hb); have n3_ := Aside0.mk (Kd.R_elder' (by (with_reducible repeat (first | apply Kd.R_alloc | apply Kd.R_drewN | apply Kd.R_drew)); exact HO143.out) (Kd.R_base ho50) hb); have n4_ := Aside0.mk (Kd.R_elder' (by (with_reducible repeat (first | apply Kd.R_alloc | apply Kd.R_drewN | apply Kd.R_drew)); exact HO148.out) (Kd.R_base ho50) hb); have n5_ := Aside0.mk (Kd.R_elder' (by (with_reducible repeat (first | apply Kd.R_alloc | apply Kd.R_drewN | apply Kd.R_drew)); exact HO153.out) (Kd.R_base ho50) hb); have n6_ := Aside0.mk (Kd.R_lower (Kd.R_new' (Kd.R_new' (Kd.R_new' (Kd.R_new' (Kd.R_new' (Kd.R_new' ho50 (Kd.R_lt (by (with_reducible repeat (first | apply Kd.R_alloc | apply Kd.R_drewN | apply Kd.R_drew)); exact HO126.out))) (Kd.R_lt (by (with_reducible repeat (first | apply Kd.R_alloc | apply Kd.R_drewN | apply Kd.R_drew)); exact HO133.out))) (Kd.R_lt (by (with_reducible repeat (first | apply Kd.R_alloc | apply Kd.R_drewN | apply Kd.R_drew)); exact HO138.out))) (Kd.R_lt (by (with_reducible repeat (first | apply Kd.R_alloc | apply Kd.R_drewN | apply Kd.R_drew)); exact HO143.out))) (Kd.R_lt (by (with_reducible repeat (first | apply Kd.R_alloc | apply Kd.R_drewN | apply Kd.R_drew)); exact HO148.out))) (Kd.R_lt (by (with_reducible repeat (first | apply Kd.R_alloc | apply Kd.R_drewN | apply Kd.R_drew)); exact HO153.out))) (below_size (by repeat (first | (with_reducible first | exact HB.out | apply below_alloc | apply pw_below_drewN | apply below_drew1) | exact HB.out)))); have n7_ := Aside0.mk (below_step (by repeat (first | (with_reducible first | exact HB.out | apply below_alloc | apply pw_below_drewN | apply below_drew1) | exact HB.out)) hb); clear HO126; clear HO133; clear HO138; clear HO143; clear HO148; clear HO153; clear HB; have HO126 := n0_; have HO133 := n1_; have HO138 := n2_; have HO143 := n3_; have HO148 := n4_; have HO153 := n5_; have HO156 := n6_; have HB := n7_; clear n0_ n1_ n2_ n3_ n4_ n5_ n6_ n7_; clear hb ho50; obtain ⟨Ao51, co51, eo51⟩ := Kd.R_slice HO153.out; subst eo51; obtain ⟨Ao52, co52, eo52⟩ := Kd.R_slice HO156.out; subst eo52) | ((with_reducible refine gate_callee (f := 11) rfl ?_); refine goesL_ (some 57) rfl rfl Try.func11 (by kernel_rfl) rfl #[.slice Ao51 y151.length co51, .slice Ao52 y154.length co52] rfl (by (try simp only [List.map_toArray, List.map_cons, List.map_nil]); first | done | rfl | (simp only [List.length_drop, List.length_take]; rfl)) ?_; (with_reducible refine (shape_Place.calls k _ _ y151 _ _ y154 t157 true _ ?side1 ?side2 ?side3 ?side4 A8.out).mono ?_); (case side1 => repeat (first | exact (Kd.R_reads' HO153.out).2.2 | (with_reducible refine Kd.C_alloc ?_ _) | (with_reducible refine Kd.C_drewN ?_ _) | (with_reducible refine Kd.C_drew ?_))); (case side2 => exact (Kd.R_reads' HO153.out).2.1); (case side3 => repeat (first | exact (Kd.R_reads' HO156.out).2.2 | (with_reducible refine Kd.C_alloc ?_ _) | (with_reducible refine Kd.C_drewN ?_ _) | (with_reducible refine Kd.C_drew ?_))); (case side4 => exact (Kd.R_reads' HO156.out).2.1); rintro e w' ⟨rfl, ⟨nd, rfl⟩⟩; refine ⟨_, rfl, ?_⟩) | ((with_reducible refine gate_dst (N := 61) rfl ?_); (try (refine gate_guard (by rfl) ?_; dsimp only)); refine Kd.R_lit (Kd.int .i64) _ 3 ?hg (N := 61) ?hd (xs := ([2, 3] : List Int)) (inner := [.int .i64 2, .int .i64 3]) (ok := fun _ => True) (okp := fun _ => True) ?hr ?hp (fun _ hk => hk) trivial (Below.refl _ _) (Nat.le_refl _) (by simp) ?_; (case hd => rfl); (case hg => rfl); (case hr => first | (go_simp; done) | (go_simp; rfl)); (case hp => exact (Reps.one (show Kd.M (Kd.int .i64) _ _ _ 2 [.int .i64 2] from rfl) (Reps.one (show Kd.M (Kd.int .i64) _ _ _ 3 [.int .i64 3] from rfl) (Reps.none _ _)))); intro v160 w53 ho54 hb hg_ hnew_; clear hg_ hnew_; (first | rw [← Ny159.out] at ho54 | (simp only [Int.reduceToNat] at ho54; rw [← Ny159.out] at ho54)); have n0_ := Aside0.mk (Kd.R_elder' (by (with_reducible repeat (first | apply Kd.R_alloc | apply Kd.R_drewN | apply Kd.R_drew)); exact HO126.out) (Kd.R_base ho54) hb); have n1_ := Aside0.mk (Kd.R_elder' (by (with_reducible repeat (first | apply Kd.R_alloc | apply Kd.R_drewN | apply Kd.R_drew)); exact HO133.out) (Kd.R_base ho54) hb); have n2_ := Aside0.mk (Kd.R_elder' (by (with_reducible repeat (first | apply Kd.R_alloc | apply Kd.R_drewN | apply Kd.R_drew)); exact HO138.out) (Kd.R_base ho54) hb); have n3_ := Aside0.mk (Kd.R_elder' (by (with_reducible repeat (first | apply Kd.R_alloc | apply Kd.R_drewN | apply Kd.R_drew)); exact HO143.out) (Kd.R_base ho54) hb); have n4_ := Aside0.mk (Kd.R_elder' (by (with_reducible repeat (first | apply Kd.R_alloc | apply Kd.R_drewN | apply Kd.R_drew)); exact HO148.out) (Kd.R_base ho54) hb); have n5_ := Aside0.mk (Kd.R_elder' (by (with_reducible repeat (first | apply Kd.R_alloc | apply Kd.R_drewN | apply Kd.R_drew)); exact HO153.out) (Kd.R_base ho54) hb); have n6_ := Aside0.mk (Kd.R_elder' (by (with_reducible repeat (first | apply Kd.R_alloc | apply Kd.R_drewN | apply Kd.R_drew)); exact HO156.out) (Kd.R_base ho54) hb); have n7_ := Aside0.mk (Kd.R_lower (Kd.R_new' (Kd.R_new' (Kd.R_new' (Kd.R_new' (Kd.R_new' (Kd.R_new' (Kd.R_new' ho54 (Kd.R_lt (by (with_reducible repeat (first | apply Kd.R_alloc | apply Kd.R_drewN | apply Kd.R_drew)); exact HO126.out))) (Kd.R_lt (by (with_reducible repeat (first | apply Kd.R_alloc | apply Kd.R_drewN | apply Kd.R_drew)); exact HO133.out))) (Kd.R_lt (by (with_reducible repeat (first | apply Kd.R_alloc | apply Kd.R_drewN | apply Kd.R_drew)); exact HO138.out))) (Kd.R_lt (by (with_reducible repeat (first | apply Kd.R_alloc | apply Kd.R_drewN | apply Kd.R_drew)); exact HO143.out))) (Kd.R_lt (by (with_reducible repeat (first | apply Kd.R_alloc | apply Kd.R_drewN | apply Kd.R_drew)); exact HO148.out))) (Kd.R_lt (by (with_reducible repeat (first | apply Kd.R_alloc | apply Kd.R_drewN | apply Kd.R_drew)); exact HO153.out))) (Kd.R_lt (by (with_reducible repeat (first | apply Kd.R_alloc | apply Kd.R_drewN | apply Kd.R_drew)); exact HO156.out))) (below_size (by repeat (first | (with_reducible first | exact HB.out | apply below_alloc | apply pw_below_drewN | apply below_drew1) | exact HB.out)))); have n8_ := Aside0.mk (below_step (by repeat (first | (with_reducible first | exact HB.out | apply below_alloc | apply pw_below_drewN | apply below_drew1) | exact HB.out)) hb); clear HO126; clear HO133; clear HO138; clear HO143; clear HO148; clear HO153; clear HO156; clear HB; have HO126 := n0_; have HO133 := n1_; have HO138 := n2_; have HO143 := n3_; have HO148 := n4_; have HO153 := n5_; have HO156 := n6_; have HO161 := n7_; have HB := n8_; clear n0_ n1_ n2_ n3_ n4_ n5_ n6_ n7_ n8_; clear hb ho54) | ((with_reducible refine gate_dst (N := 62) rfl ?_); (try (refine gate_guard (by rfl) ?_; dsimp only)); refine Kd.R_lit (Kd.int .i64) _ 3 ?hg (N := 62) ?hd (xs := ([1, 3] : List Int)) (inner := [.int .i64 1, .int .i64 3]) (ok := fun _ => True) (okp := fun _ => True) ?hr ?hp (fun _ hk => hk) trivial (Below.refl _ _) (Nat.le_refl _) (by simp) ?_; (case hd => rfl); (case hg => rfl); (case hr => first | (go_simp; done) | (go_simp; rfl)); (case hp => exact (Reps.one (show Kd.M (Kd.int .i64) _ _ _ 1 [.int .i64 1] from rfl) (Reps.one (show Kd.M (Kd.int .i64) _ _ _ 3 [.int .i64 3] from rfl) (Reps.none _ _)))); intro v163 w55 ho56 hb hg_ hnew_; clear hg_ hnew_; (first | rw [← Ny162.out] at ho56 | (simp only [Int.reduceToNat] at ho56; rw [← Ny162.out] at ho56)); have n0_ := Aside0.mk (Kd.R_elder' (by (with_reducible repeat (first | apply Kd.R_alloc | apply Kd.R_drewN | apply Kd.R_drew)); exact HO126.out) (Kd.R_base ho56) hb); have n1_ := Aside0.mk (Kd.R_elder' (by (with_reducible repeat (first | apply Kd.R_alloc | apply Kd.R_drewN | apply Kd.R_drew)); exact HO133.out) (Kd.R_base ho56) hb); have n2_ := Aside0.mk (Kd.R_elder' (by (with_reducible repeat (first | apply Kd.R_alloc | apply Kd.R_drewN | apply Kd.R_drew)); exact HO138.out) (Kd.R_base ho56) hb); have n3_ := Aside0.mk (Kd.R_elder' (by (with_reducible repeat (first | apply Kd.R_alloc | apply Kd.R_drewN | apply Kd.R_drew)); exact HO143.out) (Kd.R_base ho56) hb); have n4_ := Aside0.mk (Kd.R_elder' (by (with_reducible repeat (first | apply Kd.R_alloc | apply Kd.R_drewN | apply Kd.R_drew)); exact HO148.out) (Kd.R_base ho56) hb); have n5_ := Aside0.mk (Kd.R_elder' (by (with_reducible repeat (first | apply Kd.R_alloc | apply Kd.R_drewN | apply Kd.R_drew)); exact HO153.out) (Kd.R_base ho56) hb); have n6_ := Aside0.mk (Kd.R_elder' (by (with_reducible repeat (first | apply Kd.R_alloc | apply Kd.R_drewN | apply Kd.R_drew)); exact HO156.out) (Kd.R_base ho56) hb); have n7_ := Aside0.mk (Kd.R_elder' (by (with_reducible repeat (first | apply Kd.R_alloc | apply Kd.R_drewN | apply Kd.R_drew)); exact HO161.out) (Kd.R_base ho56) hb); have n8_ := Aside0.mk (Kd.R_lower (Kd.R_new' (Kd.R_new' (Kd.R_new' (Kd.R_new' (Kd.R_new' (Kd.R_new' (Kd.R_new' (Kd.R_new' ho56 (Kd.R_lt (by (with_reducible repeat (first | apply Kd.R_alloc | apply Kd.R_drewN | apply Kd.R_drew)); exact HO126.out))) (Kd.R_lt (by (with_reducible repeat (first | apply Kd.R_alloc | apply Kd.R_drewN | apply Kd.R_drew)); exact HO133.out))) (Kd.R_lt (by (with_reducible repeat (first | apply Kd.R_alloc | apply Kd.R_drewN | apply Kd.R_drew)); exact HO138.out))) (Kd.R_lt (by (with_reducible repeat (first | apply Kd.R_alloc | apply Kd.R_drewN | apply Kd.R_drew)); exact HO143.out))) (Kd.R_lt (by (with_reducible repeat (first | apply Kd.R_alloc | apply Kd.R_drewN | apply Kd.R_drew)); exact HO148.out))) (Kd.R_lt (by (with_reducible repeat (first | apply Kd.R_alloc | apply Kd.R_drewN | apply Kd.R_drew)); exact HO153.out))) (Kd.R_lt (by (with_reducible repeat (first | apply Kd.R_alloc | apply Kd.R_drewN | apply Kd.R_drew)); exact HO156.out))) (Kd.R_lt (by (with_reducible repeat (first | apply Kd.R_alloc | apply Kd.R_drewN | apply Kd.R_drew)); exact HO161.out))) (below_size (by repeat (first | (with_reducible first | exact HB.out | apply below_alloc | apply pw_below_drewN | apply below_drew1) | exact HB.out)))); have n9_ := Aside0.mk (below_step (by repeat (first | (with_reducible first | exact HB.out | apply below_alloc | apply pw_below_drewN | apply below_drew1) | exact HB.out)) hb); clear HO126; clear HO133; clear HO138; clear HO143; clear HO148; clear HO153; clear HO156; clear HO161; clear HB; have HO126 := n0_; have HO133 := n1_; have HO138 := n2_; have HO143 := n3_; have HO148 := n4_; have HO153 := n5_; have HO156 := n6_; have HO161 := n7_; have HO164 := n8_; have HB := n9_; clear n0_ n1_ n2_ n3_ n4_ n5_ n6_ n7_ n8_ n9_; clear hb ho56; obtain ⟨Ao57, co57, eo57⟩ := Kd.R_slice HO161.out; subst eo57; obtain ⟨Ao58, co58, eo58⟩ := Kd.R_slice HO164.out; subst eo58) | ((with_reducible refine gate_callee (f := 11) rfl ?_); refine goesL_ (some 63) rfl rfl Try.func11 (by kernel_rfl) rfl #[.slice Ao57 y159.length co57, .slice Ao58 y162.length co58] rfl (by (try simp only [List.map_toArray, List.map_cons, List.map_nil]); first | done | rfl | (simp only [List.length_drop, List.length_take]; rfl)) ?_; (with_reducible refine (shape_Place.calls k _ _ y159 _ _ y162 t165 false _ ?side1 ?side2 ?side3 ?side4 A9.out).mono ?_); (case side1 => repeat (first | exact (Kd.R_reads' HO161.out).2.2 | (with_reducible refine Kd.C_alloc ?_ _) | (with_reducible refine Kd.C_drewN ?_ _) | (with_reducible refine Kd.C_drew ?_))); (case side2 => exact (Kd.R_reads' HO161.out).2.1); (case side3 => repeat (first | exact (Kd.R_reads' HO164.out).2.2 | (with_reducible refine Kd.C_alloc ?_ _) | (with_reducible refine Kd.C_drewN ?_ _) | (with_reducible refine Kd.C_drew ?_))); (case side4 => exact (Kd.R_reads' HO164.out).2.1); rintro e w' ⟨rfl, ⟨nd, rfl⟩⟩; refine ⟨_, rfl, ?_⟩) | ((with_reducible refine gate_dst (N := 67) rfl ?_); (try (refine gate_guard (by rfl) ?_; dsimp only)); refine Kd.R_lit (Kd.int .i64) _ 3 ?hg (N := 67) ?hd (xs := ([2, 3] : List Int)) (inner := [.int .i64 2, .int .i64 3]) (ok := fun _ => True) (okp := fun _ => True) ?hr ?hp (fun _ hk => hk) trivial (Below.refl _ _) (Nat.le_refl _) (by simp) ?_; (case hd => rfl); (case hg => rfl); (case hr => first | (go_simp; done) | (go_simp; rfl)); (case hp => exact (Reps.one (show Kd.M (Kd.int .i64) _ _ _ 2 [.int .i64 2] from rfl) (Reps.one (show Kd.M (Kd.int .i64) _ _ _ 3 [.int .i64 3] from rfl) (Reps.none _ _)))); intro v168 w59 ho60 hb hg_ hnew_; clear hg_ hnew_; (first | rw [← Ny167.out] at ho60 | (simp only [Int.reduceToNat] at ho60; rw [← Ny167.out] at ho60)); have n0_ := Aside0.mk (Kd.R_elder' (by (with_reducible repeat (first | apply Kd.R_alloc | apply Kd.R_drewN | apply Kd.R_drew)); exact HO126.out) (Kd.R_base ho60) hb); have n1_ := Aside0.mk (Kd.R_elder' (by (with_reducible repeat (first | apply Kd.R_alloc | apply Kd.R_drewN | apply Kd.R_drew)); exact HO133.out) (Kd.R_base ho60) hb); have n2_ := Aside0.mk (Kd.R_elder' (by (with_reducible repeat (first | apply Kd.R_alloc | apply Kd.R_drewN | apply Kd.R_drew)); exact HO138.out) (Kd.R_base ho60) hb); have n3_ := Aside0.mk (Kd.R_elder' (by (with_reducible repeat (first | apply Kd.R_alloc | apply Kd.R_drewN | apply Kd.R_drew)); exact HO143.out) (Kd.R_base ho60) hb); have n4_ := Aside0.mk (Kd.R_elder' (by (with_reducible repeat (first | apply Kd.R_alloc | apply Kd.R_drewN | apply Kd.R_drew)); exact HO148.out) (Kd.R_base ho60) hb); have n5_ := Aside0.mk (Kd.R_elder' (by (with_reducible repeat (first | apply Kd.R_alloc | apply Kd.R_drewN | apply Kd.R_drew)); exact HO153.out) (Kd.R_base ho60) hb); have n6_ := Aside0.mk (Kd.R_elder' (by (with_reducible repeat (first | apply Kd.R_alloc | apply Kd.R_drewN | apply Kd.R_drew)); exact HO156.out) (Kd.R_base ho60) hb); have n7_ := Aside0.mk (Kd.R_elder' (by (with_reducible repeat (first | apply Kd.R_alloc | apply Kd.R_drewN | apply Kd.R_drew)); exact HO161.out) (Kd.R_base ho60) hb); have n8_ := Aside0.mk (Kd.R_elder' (by (with_reducible repeat (first | apply Kd.R_alloc | apply Kd.R_drewN | apply Kd.R_drew)); exact HO164.out) (Kd.R_base ho60) hb); have n9_ := Aside0.mk (Kd.R_lower (Kd.R_new' (Kd.R_new' (Kd.R_new' (Kd.R_new' (Kd.R_new' (Kd.R_new' (Kd.R_new' (Kd.R_new' (Kd.R_new' ho60 (Kd.R_lt (by (with_reducible repeat (first | apply Kd.R_alloc | apply Kd.R_drewN | apply Kd.R_drew)); exact HO126.out))) (Kd.R_lt (by (with_reducible repeat (first | apply Kd.R_alloc | apply Kd.R_drewN | apply Kd.R_drew)); exact HO133.out))) (Kd.R_lt (by (with_reducible repeat (first | apply Kd.R_alloc | apply Kd.R_drewN | apply Kd.R_drew)); exact HO138.out))) (Kd.R_lt (by (with_reducible repeat (first | apply Kd.R_alloc | apply Kd.R_drewN | apply Kd.R_drew)); exact HO143.out))) (Kd.R_lt (by (with_reducible repeat (first | apply Kd.R_alloc | apply Kd.R_drewN | apply Kd.R_drew)); exact HO148.out))) (Kd.R_lt (by (with_reducible repeat (first | apply Kd.R_alloc | apply Kd.R_drewN | apply Kd.R_drew)); exact HO153.out))) (Kd.R_lt (by (with_reducible repeat (first | apply Kd.R_alloc | apply Kd.R_drewN | apply Kd.R_drew)); exact HO156.out))) (Kd.R_lt (by (with_reducible repeat (first | apply Kd.R_alloc | apply Kd.R_drewN | apply Kd.R_drew)); exact HO161.out))) (Kd.R_lt (by (with_reducible repeat (first | apply Kd.R_alloc | apply Kd.R_drewN | apply Kd.R_drew)); exact HO164.out))) (below_size (by repeat (first | (with_reducible first | exact HB.out | apply below_alloc | apply pw_below_drewN | apply below_drew1) | exact HB.out)))); have n10_ := Aside0.mk (below_step (by repeat (first | (with_reducible first | exact HB.out | apply below_alloc | apply pw_below_drewN | apply below_drew1) | exact HB.out)) hb); clear HO126; clear HO133; clear HO138; clear HO143; clear HO148; clear HO153; clear HO156; clear HO161; clear HO164; clear HB; have HO126 := n0_; have HO133 := n1_; have HO138 := n2_; have HO143 := n3_; have HO148 := n4_; have HO153 := n5_; have HO156 := n6_; have HO161 := n7_; have HO164 := n8_; have HO169 := n9_; have HB := n10_; clear n0_ n1_ n2_ n3_ n4_ n5_ n6_ n7_ n8_ n9_ n10_; clear hb ho60) | ((with_reducible refine gate_dst (N := 68) rfl ?_); (try (refine gate_guard (by rfl) ?_; dsimp only)); refine Kd.R_lit (Kd.int .i64) _ 3 ?hg (N := 68) ?hd (xs := ([1] : List Int)) (inner := [.int .i64 1]) (ok := fun _ => True) (okp := fun _ => True) ?hr ?hp (fun _ hk => hk) trivial (Below.refl _ _) (Nat.le_refl _) (by simp) ?_; (case hd => rfl); (case hg => rfl); (case hr => first | (go_simp; done) | (go_simp; rfl)); (case hp => exact (Reps.one (show Kd.M (Kd.int .i64) _ _ _ 1 [.int .i64 1] from rfl) (Reps.none _ _))); intro v171 w61 ho62 hb hg_ hnew_; clear hg_ hnew_; (first | rw [← Ny170.out] at ho62 | (simp only [Int.reduceToNat] at ho62; rw [← Ny170.out] at ho62)); have n0_ := Aside0.mk (Kd.R_elder' (by (with_reducible repeat (first | apply Kd.R_alloc | apply Kd.R_drewN | apply Kd.R_drew)); exact HO126.out) (Kd.R_base ho62) hb); have n1_ := Aside0.mk (Kd.R_elder' (by (with_reducible repeat (first | apply Kd.R_alloc | apply Kd.R_drewN | apply Kd.R_drew)); exact HO133.out) (Kd.R_base ho62) hb); have n2_ := Aside0.mk (Kd.R_elder' (by (with_reducible repeat (first | apply Kd.R_alloc | apply Kd.R_drewN | apply Kd.R_drew)); exact HO138.out) (Kd.R_base ho62) hb); have n3_ := Aside0.mk (Kd.R_elder' (by (with_reducible repeat (first | apply Kd.R_alloc | apply Kd.R_drewN | apply Kd.R_drew)); exact HO143.out) (Kd.R_base ho62) hb); have n4_ := Aside0.mk (Kd.R_elder' (by (with_reducible repeat (first | apply Kd.R_alloc | apply Kd.R_drewN | apply Kd.R_drew)); exact HO148.out) (Kd.R_base ho62) hb); have n5_ := Aside0.mk (Kd.R_elder' (by (with_reducible repeat (first | apply Kd.R_alloc | apply Kd.R_drewN | apply Kd.R_drew)); exact HO153.out) (Kd.R_base ho62) hb); have n6_ := Aside0.mk (Kd.R_elder' (by (with_reducible repeat (first | apply Kd.R_alloc | apply Kd.R_drewN | apply Kd.R_drew)); exact HO156.out) (Kd.R_base ho62) hb); have n7_ := Aside0.mk (Kd.R_elder' (by (with_reducible repeat (first | apply Kd.R_alloc | apply Kd.R_drewN | apply Kd.R_drew)); exact HO161.out) (Kd.R_base ho62) hb); have n8_ := Aside0.mk (Kd.R_elder' (by (with_reducible repeat (first | apply Kd.R_alloc | apply Kd.R_drewN | apply Kd.R_drew)); exact HO164.out) (Kd.R_base ho62) hb); have n9_ := Aside0.mk (Kd.R_elder' (by (with_reducible repeat (first | apply Kd.R_alloc | apply Kd.R_drewN | apply Kd.R_drew)); exact HO169.out) (Kd.R_base ho62) hb); have n10_ := Aside0.mk (Kd.R_lower (Kd.R_new' (Kd.R_new' (Kd.R_new' (Kd.R_new' (Kd.R_new' (Kd.R_new' (Kd.R_new' (Kd.R_new' (Kd.R_new' (Kd.R_new' ho62 (Kd.R_lt (by (with_reducible repeat (first | apply Kd.R_alloc | apply Kd.R_drewN | apply Kd.R_drew)); exact HO126.out))) (Kd.R_lt (by (with_reducible repeat (first | apply Kd.R_alloc | apply Kd.R_drewN | apply Kd.R_drew)); exact HO133.out))) (Kd.R_lt (by (with_reducible repeat (first | apply Kd.R_alloc | apply Kd.R_drewN | apply Kd.R_drew)); exact HO138.out))) (Kd.R_lt (by (with_reducible repeat (first | apply Kd.R_alloc | apply Kd.R_drewN | apply Kd.R_drew)); exact HO143.out))) (Kd.R_lt (by (with_reducible repeat (first | apply Kd.R_alloc | apply Kd.R_drewN | apply Kd.R_drew)); exact HO148.out))) (Kd.R_lt (by (with_reducible repeat (first | apply Kd.R_alloc | apply Kd.R_drewN | apply Kd.R_drew)); exact HO153.out))) (Kd.R_lt (by (with_reducible repeat (first | apply Kd.R_alloc | apply Kd.R_drewN | apply Kd.R_drew)); exact HO156.out))) (Kd.R_lt (by (with_reducible repeat (first | apply Kd.R_alloc | apply Kd.R_drewN | apply Kd.R_drew)); exact HO161.out))) (Kd.R_lt (by (with_reducible repeat (first | apply Kd.R_alloc | apply Kd.R_drewN | apply Kd.R_drew)); exact HO164.out))) (Kd.R_lt (by (with_reducible repeat (first | apply Kd.R_alloc | apply Kd.R_drewN | apply Kd.R_drew)); exact HO169.out))) (below_size (by repeat (first | (with_reducible first | exact HB.out | apply below_alloc | apply pw_below_drewN | apply below_drew1) | exact HB.out)))); have n11_ := Aside0.mk (below_step (by repeat (first | (with_reducible first | exact HB.out | apply below_alloc | apply pw_below_drewN | apply below_drew1) | exact HB.out)) hb); clear HO126; clear HO133; clear HO138; clear HO143; clear HO148; clear HO153; clear HO156; clear HO161; clear HO164; clear HO169; clear HB; have HO126 := n0_; have HO133 := n1_; have HO138 := n2_; have HO143 := n3_; have HO148 := n4_; have HO153 := n5_; have HO156 := n6_; have HO161 := n7_; have HO164 := n8_; have HO169 := n9_; have HO172 := n10_; have HB := n11_; clear n0_ n1_ n2_ n3_ n4_ n5_ n6_ n7_ n8_ n9_ n10_ n11_; clear hb ho62; obtain ⟨Ao63, co63, eo63⟩ := Kd.R_slice HO169.out; subst eo63; obtain ⟨Ao64, co64, eo64⟩ := Kd.R_slice HO172.out; subst eo64) | ((with_reducible refine gate_callee (f := 11) rfl ?_); refine goesL_ (some 69) rfl rfl Try.func11 (by kernel_rfl) rfl #[.slice Ao63 y167.length co63, .slice Ao64 y170.length co64] rfl (by (try simp only [List.map_toArray, List.map_cons, List.map_nil]); first | done | rfl | (simp only [List.length_drop, List.length_take]; rfl)) ?_; (with_reducible refine (shape_Place.calls k _ _ y167 _ _ y170 t173 false _ ?side1 ?side2 ?side3 ?side4 A10.out).mono ?_); (case side1 => repeat (first | exact (Kd.R_reads' HO169.out).2.2 | (with_reducible refine Kd.C_alloc ?_ _) | (with_reducible refine Kd.C_drewN ?_ _) | (with_reducible refine Kd.C_drew ?_))); (case side2 => exact (Kd.R_reads' HO169.out).2.1); (case side3 => repeat (first | exact (Kd.R_reads' HO172.out).2.2 | (with_reducible refine Kd.C_alloc ?_ _) | (with_reducible refine Kd.C_drewN ?_ _) | (with_reducible refine Kd.C_drew ?_))); (case side4 => exact (Kd.R_reads' HO172.out).2.1); rintro e w' ⟨rfl, ⟨nd, rfl⟩⟩; refine ⟨_, rfl, ?_⟩) | ((with_reducible refine gate_dst (N := 73) rfl ?_); (try (refine gate_guard (by rfl) ?_; dsimp only)); refine Kd.R_lit (Kd.int .i64) _ 3 ?hg (N := 73) ?hd (xs := ([2, 3] : List Int)) (inner := [.int .i64 2, .int .i64 3]) (ok := fun _ => True) (okp := fun _ => True) ?hr ?hp (fun _ hk => hk) trivial (Below.refl _ _) (Nat.le_refl _) (by simp) ?_; (case hd => rfl); (case hg => rfl); (case hr => first | (go_simp; done) | (go_simp; rfl)); (case hp => exact (Reps.one (show Kd.M (Kd.int .i64) _ _ _ 2 [.int .i64 2] from rfl) (Reps.one (show Kd.M (Kd.int .i64) _ _ _ 3 [.int .i64 3] from rfl) (Reps.none _ _)))); intro v176 w65 ho66 hb hg_ hnew_; clear hg_ hnew_; (first | rw [← Ny175.out] at ho66 | (simp only [Int.reduceToNat] at ho66; rw [← Ny175.out] at ho66)); have n0_ := Aside0.mk (Kd.R_elder' (by (with_reducible repeat (first | apply Kd.R_alloc | apply Kd.R_drewN | apply Kd.R_drew)); exact HO126.out) (Kd.R_base ho66) hb); have n1_ := Aside0.mk (Kd.R_elder' (by (with_reducible repeat (first | apply Kd.R_alloc | apply Kd.R_drewN | apply Kd.R_drew)); exact HO133.out) (Kd.R_base ho66) hb); have n2_ := Aside0.mk (Kd.R_elder' (by (with_reducible repeat (first | apply Kd.R_alloc | apply Kd.R_drewN | apply Kd.R_drew)); exact HO138.out) (Kd.R_base ho66) hb); have n3_ := Aside0.mk (Kd.R_elder' (by (with_reducible repeat (first | apply Kd.R_alloc | apply Kd.R_drewN | apply Kd.R_drew)); exact HO143.out) (Kd.R_base ho66) hb); have n4_ := Aside0.mk (Kd.R_elder' (by (with_reducible repeat (first | apply Kd.R_alloc | apply Kd.R_drewN | apply Kd.R_drew)); exact HO148.out) (Kd.R_base ho66) hb); have n5_ := Aside0.mk (Kd.R_elder' (by (with_reducible repeat (first | apply Kd.R_alloc | apply Kd.R_drewN | apply Kd.R_drew)); exact HO153.out) (Kd.R_base ho66) hb); have n6_ := Aside0.mk (Kd.R_elder' (by (with_reducible repeat (first | apply Kd.R_alloc | apply Kd.R_drewN | apply Kd.R_drew)); exact HO156.out) (Kd.R_base ho66) hb); have n7_ := Aside0.mk (Kd.R_elder' (by (with_reducible repeat (first | apply Kd.R_alloc | apply Kd.R_drewN | apply Kd.R_drew)); exact HO161.out) (Kd.R_base ho66) hb); have n8_ := Aside0.mk (Kd.R_elder' (by (with_reducible repeat (first | apply Kd.R_alloc | apply Kd.R_drewN | apply Kd.R_drew)); exact HO164.out) (Kd.R_base ho66) hb); have n9_ := Aside0.mk (Kd.R_elder' (by (with_reducible repeat (first | apply Kd.R_alloc | apply Kd.R_drewN | apply Kd.R_drew)); exact HO169.out) (Kd.R_base ho66) hb); have n10_ := Aside0.mk (Kd.R_elder' (by (with_reducible repeat (first | apply Kd.R_alloc | apply Kd.R_drewN | apply Kd.R_drew)); exact HO172.out) (Kd.R_base ho66) hb); have n11_ := Aside0.mk (Kd.R_lower (Kd.R_new' (Kd.R_new' (Kd.R_new' (Kd.R_new' (Kd.R_new' (Kd.R_new' (Kd.R_new' (Kd.R_new' (Kd.R_new' (Kd.R_new' (Kd.R_new' ho66 (Kd.R_lt (by (with_reducible repeat (first | apply Kd.R_alloc | apply Kd.R_drewN | apply Kd.R_drew)); exact HO126.out))) (Kd.R_lt (by (with_reducible repeat (first | apply Kd.R_alloc | apply Kd.R_drewN | apply Kd.R_drew)); exact HO133.out))) (Kd.R_lt (by (with_reducible repeat (first | apply Kd.R_alloc | apply Kd.R_drewN | apply Kd.R_drew)); exact HO138.out))) (Kd.R_lt (by (with_reducible repeat (first | apply Kd.R_alloc | apply Kd.R_drewN | apply Kd.R_drew)); exact HO143.out))) (Kd.R_lt (by (with_reducible repeat (first | apply Kd.R_alloc | apply Kd.R_drewN | apply Kd.R_drew)); exact HO148.out))) (Kd.R_lt (by (with_reducible repeat (first | apply Kd.R_alloc | apply Kd.R_drewN | apply Kd.R_drew)); exact HO153.out))) (Kd.R_lt (by (with_reducible repeat (first | apply Kd.R_alloc | apply Kd.R_drewN | apply Kd.R_drew)); exact HO156.out))) (Kd.R_lt (by (with_reducible repeat (first | apply Kd.R_alloc | apply Kd.R_drewN | apply Kd.R_drew)); exact HO161.out))) (Kd.R_lt (by (with_reducible repeat (first | apply Kd.R_alloc | apply Kd.R_drewN | apply Kd.R_drew)); exact HO164.out))) (Kd.R_lt (by (with_reducible repeat (first | apply Kd.R_alloc | apply Kd.R_drewN | apply Kd.R_drew)); exact HO169.out))) (Kd.R_lt (by (with_reducible repeat (first | apply Kd.R_alloc | apply Kd.R_drewN | apply Kd.R_drew)); exact HO172.out))) (below_size (by repeat (first | (with_reducible first | exact HB.out | apply below_alloc | apply pw_below_drewN | apply below_drew1) | exact HB.out)))); have n12_ := Aside0.mk (below_step (by repeat (first | (with_reducible first | exact HB.out | apply below_alloc | apply pw_below_drewN | apply below_drew1) | exact HB.out)) hb); clear HO126; clear HO133; clear HO138; clear HO143; clear HO148; clear HO153; clear HO156; clear HO161; clear HO164; clear HO169; clear HO172; clear HB; have HO126 := n0_; have HO133 := n1_; have HO138 := n2_; have HO143 := n3_; have HO148 := n4_; have HO153 := n5_; have HO156 := n6_; have HO161 := n7_; have HO164 := n8_; have HO169 := n9_; have HO172 := n10_; have HO177 := n11_; have HB := n12_; clear n0_ n1_ n2_ n3_ n4_ n5_ n6_ n7_ n8_ n9_ n10_ n11_ n12_; clear hb ho66; obtain ⟨Ao67, co67, eo67⟩ := Kd.R_slice HO177.out; subst eo67) | ((with_reducible refine gate_callee (f := 13) rfl ?_); refine goesL_ (some 74) rfl rfl Try.func13 (by kernel_rfl) rfl #[.slice Ao67 y175.length co67, .int .i64 5] rfl (by (try simp only [List.map_toArray, List.map_cons, List.map_nil]); first | done | rfl | (simp only [List.length_drop, List.length_take]; rfl)) ?_; (with_reducible refine (shape_Index.calls k _ _ y175 5 t178 true _ ?side1 ?side2 A11.out).mono ?_); (case side1 => repeat (first | exact (Kd.R_reads' HO177.out).2.2 | (with_reducible refine Kd.C_alloc ?_ _) | (with_reducible refine Kd.C_drewN ?_ _) | (with_reducible refine Kd.C_drew ?_))); (case side2 => exact (Kd.R_reads' HO177.out).2.1); rintro e w68 ⟨v180, rfl, ho0, hb⟩; refine ⟨_, rfl, ?_⟩; have n0_ := Aside0.mk (Kd.R_elder' (by (with_reducible repeat (first | apply Kd.R_alloc | apply Kd.R_drewN | apply Kd.R_drew)); exact HO126.out) (Kd.R_base ho0) hb); have n1_ := Aside0.mk (Kd.R_elder' (by (with_reducible repeat (first | apply Kd.R_alloc | apply Kd.R_drewN | apply Kd.R_drew)); exact HO133.out) (Kd.R_base ho0) hb); have n2_ := Aside0.mk (Kd.R_elder' (by (with_reducible repeat (first | apply Kd.R_alloc | apply Kd.R_drewN | apply Kd.R_drew)); exact HO138.out) (Kd.R_base ho0) hb); have n3_ := Aside0.mk (Kd.R_elder' (by (with_reducible repeat (first | apply Kd.R_alloc | apply Kd.R_drewN | apply Kd.R_drew)); exact HO143.out) (Kd.R_base ho0) hb); have n4_ := Aside0.mk (Kd.R_elder' (by (with_reducible repeat (first | apply Kd.R_alloc | apply Kd.R_drewN | apply Kd.R_drew)); exact HO148.out) (Kd.R_base ho0) hb); have n5_ := Aside0.mk (Kd.R_elder' (by (with_reducible repeat (first | apply Kd.R_alloc | apply Kd.R_drewN | apply Kd.R_drew)); exact HO153.out) (Kd.R_base ho0) hb); have n6_ := Aside0.mk (Kd.R_elder' (by (with_reducible repeat (first | apply Kd.R_alloc | apply Kd.R_drewN | apply Kd.R_drew)); exact HO156.out) (Kd.R_base ho0) hb); have n7_ := Aside0.mk (Kd.R_elder' (by (with_reducible repeat (first | apply Kd.R_alloc | apply Kd.R_drewN | apply Kd.R_drew)); exact HO161.out) (Kd.R_base ho0) hb); have n8_ := Aside0.mk (Kd.R_elder' (by (with_reducible repeat (first | apply Kd.R_alloc | apply Kd.R_drewN | apply Kd.R_drew)); exact HO164.out) (Kd.R_base ho0) hb); have n9_ := Aside0.mk (Kd.R_elder' (by (with_reducible repeat (first | apply Kd.R_alloc | apply Kd.R_drewN | apply Kd.R_drew)); exact HO169.out) (Kd.R_base ho0) hb); have n10_ := Aside0.mk (Kd.R_elder' (by (with_reducible repeat (first | apply Kd.R_alloc | apply Kd.R_drewN | apply Kd.R_drew)); exact HO172.out) (Kd.R_base ho0) hb); have n11_ := Aside0.mk (Kd.R_elder' (by (with_reducible repeat (first | apply Kd.R_alloc | apply Kd.R_drewN | apply Kd.R_drew)); exact HO177.out) (Kd.R_base ho0) hb); have n12_ := Aside0.mk (Kd.R_lower (Kd.R_new' (Kd.R_new' (Kd.R_new' (Kd.R_new' (Kd.R_new' (Kd.R_new' (Kd.R_new' (Kd.R_new' (Kd.R_new' (Kd.R_new' (Kd.R_new' (Kd.R_new' ho0 (Kd.R_lt (by (with_reducible repeat (first | apply Kd.R_alloc | apply Kd.R_drewN | apply Kd.R_drew)); exact HO126.out))) (Kd.R_lt (by (with_reducible repeat (first | apply Kd.R_alloc | apply Kd.R_drewN | apply Kd.R_drew)); exact HO133.out))) (Kd.R_lt (by (with_reducible repeat (first | apply Kd.R_alloc | apply Kd.R_drewN | apply Kd.R_drew)); exact HO138.out))) (Kd.R_lt (by (with_reducible repeat (first | apply Kd.R_alloc | apply Kd.R_drewN | apply Kd.R_drew)); exact HO143.out))) (Kd.R_lt (by (with_reducible repeat (first | apply Kd.R_alloc | apply Kd.R_drewN | apply Kd.R_drew)); exact HO148.out))) (Kd.R_lt (by (with_reducible repeat (first | apply Kd.R_alloc | apply Kd.R_drewN | apply Kd.R_drew)); exact HO153.out))) (Kd.R_lt (by (with_reducible repeat (first | apply Kd.R_alloc | apply Kd.R_drewN | apply Kd.R_drew)); exact HO156.out))) (Kd.R_lt (by (with_reducible repeat (first | apply Kd.R_alloc | apply Kd.R_drewN | apply Kd.R_drew)); exact HO161.out))) (Kd.R_lt (by (with_reducible repeat (first | apply Kd.R_alloc | apply Kd.R_drewN | apply Kd.R_drew)); exact HO164.out))) (Kd.R_lt (by (with_reducible repeat (first | apply Kd.R_alloc | apply Kd.R_drewN | apply Kd.R_drew)); exact HO169.out))) (Kd.R_lt (by (with_reducible repeat (first | apply Kd.R_alloc | apply Kd.R_drewN | apply Kd.R_drew)); exact HO172.out))) (Kd.R_lt (by (with_reducible repeat (first | apply Kd.R_alloc | apply Kd.R_drewN | apply Kd.R_drew)); exact HO177.out))) (below_size (by repeat (first | (with_reducible first | exact HB.out | apply below_alloc | apply pw_below_drewN | apply below_drew1) | exact HB.out)))); have n13_ := Aside0.mk (below_step (by repeat (first | (with_reducible first | exact HB.out | apply below_alloc | apply pw_below_drewN | apply below_drew1) | exact HB.out)) hb); clear HO126; clear HO133; clear HO138; clear HO143; clear HO148; clear HO153; clear HO156; clear HO161; clear HO164; clear HO169; clear HO172; clear HO177; clear HB; have HO126 := n0_; have HO133 := n1_; have HO138 := n2_; have HO143 := n3_; have HO148 := n4_; have HO153 := n5_; have HO156 := n6_; have HO161 := n7_; have HO164 := n8_; have HO169 := n9_; have HO172 := n10_; have HO177 := n11_; have HO181 := n12_; have HB := n13_; clear n0_ n1_ n2_ n3_ n4_ n5_ n6_ n7_ n8_ n9_ n10_ n11_ n12_ n13_; (try clear hb); (try clear hb2); (try clear hk); (try clear hi); (try clear ho0)) | ((with_reducible refine gate_callee (f := 11) rfl ?_); refine goesL_ (some 78) rfl rfl Try.func11 (by kernel_rfl) rfl #[.slice none 0 0, .slice none 0 0] rfl (by (try simp only [List.map_toArray, List.map_cons, List.map_nil]); first | done | rfl | (simp only [List.length_drop, List.length_take]; rfl)) ?_; (refine (shape_Place.calls k _ _ ([] : List Int) _ _ ([] : List Int) t182 true _ ?side1 ?side2 ?side3 ?side4 A12.out).mono ?_); (case side1 => exact Kd.C_nil _ _); (case side2 => exact Nat.le_refl _); (case side3 => exact Kd.C_nil _ _); (case side4 => exact Nat.le_refl _); rintro e w' ⟨rfl, ⟨nd, rfl⟩⟩; refine ⟨_, rfl, ?_⟩) | ((with_reducible refine gate_dst (N := 82) rfl ?_); (try (refine gate_guard (by rfl) ?_; dsimp only)); refine Kd.R_lit (Kd.int .i64) _ 3 ?hg (N := 82) ?hd (xs := ([2, 0] : List Int)) (inner := [.int .i64 2, .int .i64 0]) (ok := fun _ => True) (okp := fun _ => True) ?hr ?hp (fun _ hk => hk) trivial (Below.refl _ _) (Nat.le_refl _) (by simp) ?_; (case hd => rfl); (case hg => rfl); (case hr => first | (go_simp; done) | (go_simp; rfl)); (case hp => exact (Reps.one (show Kd.M (Kd.int .i64) _ _ _ 2 [.int .i64 2] from rfl) (Reps.one (show Kd.M (Kd.int .i64) _ _ _ 0 [.int .i64 0] from rfl) (Reps.none _ _)))); intro v185 w69 ho70 hb hg_ hnew_; clear hg_ hnew_; (first | rw [← Ny184.out] at ho70 | (simp only [Int.reduceToNat] at ho70; rw [← Ny184.out] at ho70)); have n0_ := Aside0.mk (Kd.R_elder' (by (with_reducible repeat (first | apply Kd.R_alloc | apply Kd.R_drewN | apply Kd.R_drew)); exact HO126.out) (Kd.R_base ho70) hb); have n1_ := Aside0.mk (Kd.R_elder' (by (with_reducible repeat (first | apply Kd.R_alloc | apply Kd.R_drewN | apply Kd.R_drew)); exact HO133.out) (Kd.R_base ho70) hb); have n2_ := Aside0.mk (Kd.R_elder' (by (with_reducible repeat (first | apply Kd.R_alloc | apply Kd.R_drewN | apply Kd.R_drew)); exact HO138.out) (Kd.R_base ho70) hb); have n3_ := Aside0.mk (Kd.R_elder' (by (with_reducible repeat (first | apply Kd.R_alloc | apply Kd.R_drewN | apply Kd.R_drew)); exact HO143.out) (Kd.R_base ho70) hb); have n4_ := Aside0.mk (Kd.R_elder' (by (with_reducible repeat (first | apply Kd.R_alloc | apply Kd.R_drewN | apply Kd.R_drew)); exact HO148.out) (Kd.R_base ho70) hb); have n5_ := Aside0.mk (Kd.R_elder' (by (with_reducible repeat (first | apply Kd.R_alloc | apply Kd.R_drewN | apply Kd.R_drew)); exact HO153.out) (Kd.R_base ho70) hb); have n6_ := Aside0.mk (Kd.R_elder' (by (with_reducible repeat (first | apply Kd.R_alloc | apply Kd.R_drewN | apply Kd.R_drew)); exact HO156.out) (Kd.R_base ho70) hb); have n7_ := Aside0.mk (Kd.R_elder' (by (with_reducible repeat (first | apply Kd.R_alloc | apply Kd.R_drewN | apply Kd.R_drew)); exact HO161.out) (Kd.R_base ho70) hb); have n8_ := Aside0.mk (Kd.R_elder' (by (with_reducible repeat (first | apply Kd.R_alloc | apply Kd.R_drewN | apply Kd.R_drew)); exact HO164.out) (Kd.R_base ho70) hb); have n9_ := Aside0.mk (Kd.R_elder' (by (with_reducible repeat (first | apply Kd.R_alloc | apply Kd.R_drewN | apply Kd.R_drew)); exact HO169.out) (Kd.R_base ho70) hb); have n10_ := Aside0.mk (Kd.R_elder' (by (with_reducible repeat (first | apply Kd.R_alloc | apply Kd.R_drewN | apply Kd.R_drew)); exact HO172.out) (Kd.R_base ho70) hb); have n11_ := Aside0.mk (Kd.R_elder' (by (with_reducible repeat (first | apply Kd.R_alloc | apply Kd.R_drewN | apply Kd.R_drew)); exact HO177.out) (Kd.R_base ho70) hb); have n12_ := Aside0.mk (Kd.R_elder' (by (with_reducible repeat (first | apply Kd.R_alloc | apply Kd.R_drewN | apply Kd.R_drew)); exact HO181.out) (Kd.R_base ho70) hb); have n13_ := Aside0.mk (Kd.R_lower (Kd.R_new' (Kd.R_new' (Kd.R_new' (Kd.R_new' (Kd.R_new' (Kd.R_new' (Kd.R_new' (Kd.R_new' (Kd.R_new' (Kd.R_new' (Kd.R_new' (Kd.R_new' (Kd.R_new' ho70 (Kd.R_lt (by (with_reducible repeat (first | apply Kd.R_alloc | apply Kd.R_drewN | apply Kd.R_drew)); exact HO126.out))) (Kd.R_lt (by (with_reducible repeat (first | apply Kd.R_alloc | apply Kd.R_drewN | apply Kd.R_drew)); exact HO133.out))) (Kd.R_lt (by (with_reducible repeat (first | apply Kd.R_alloc | apply Kd.R_drewN | apply Kd.R_drew)); exact HO138.out))) (Kd.R_lt (by (with_reducible repeat (first | apply Kd.R_alloc | apply Kd.R_drewN | apply Kd.R_drew)); exact HO143.out))) (Kd.R_lt (by (with_reducible repeat (first | apply Kd.R_alloc | apply Kd.R_drewN | apply Kd.R_drew)); exact HO148.out))) (Kd.R_lt (by (with_reducible repeat (first | apply Kd.R_alloc | apply Kd.R_drewN | apply Kd.R_drew)); exact HO153.out))) (Kd.R_lt (by (with_reducible repeat (first | apply Kd.R_alloc | apply Kd.R_drewN | apply Kd.R_drew)); exact HO156.out))) (Kd.R_lt (by (with_reducible repeat (first | apply Kd.R_alloc | apply Kd.R_drewN | apply Kd.R_drew)); exact HO161.out))) (Kd.R_lt (by (with_reducible repeat (first | apply Kd.R_alloc | apply Kd.R_drewN | apply Kd.R_drew)); exact HO164.out))) (Kd.R_lt (by (with_reducible repeat (first | apply Kd.R_alloc | apply Kd.R_drewN | apply Kd.R_drew)); exact HO169.out))) (Kd.R_lt (by (with_reducible repeat (first | apply Kd.R_alloc | apply Kd.R_drewN | apply Kd.R_drew)); exact HO172.out))) (Kd.R_lt (by (with_reducible repeat (first | apply Kd.R_alloc | apply Kd.R_drewN | apply Kd.R_drew)); exact HO177.out))) (Kd.R_lt (by (with_reducible repeat (first | apply Kd.R_alloc | apply Kd.R_drewN | apply Kd.R_drew)); exact HO181.out))) (below_size (by repeat (first | (with_reducible first | exact HB.out | apply below_alloc | apply pw_below_drewN | apply below_drew1) | exact HB.out)))); have n14_ := Aside0.mk (below_step (by repeat (first | (with_reducible first | exact HB.out | apply below_alloc | apply pw_below_drewN | apply below_drew1) | exact HB.out)) hb); clear HO126; clear HO133; clear HO138; clear HO143; clear HO148; clear HO153; clear HO156; clear HO161; clear HO164; clear HO169; clear HO172; clear HO177; clear HO181; clear HB; have HO126 := n0_; have HO133 := n1_; have HO138 := n2_; have HO143 := n3_; have HO148 := n4_; have HO153 := n5_; have HO156 := n6_; have HO161 := n7_; have HO164 := n8_; have HO169 := n9_; have HO172 := n10_; have HO177 := n11_; have HO181 := n12_; have HO186 := n13_; have HB := n14_; clear n0_ n1_ n2_ n3_ n4_ n5_ n6_ n7_ n8_ n9_ n10_ n11_ n12_ n13_ n14_; clear hb ho70; obtain ⟨Ao71, co71, eo71⟩ := Kd.R_slice HO186.out; subst eo71) | ((with_reducible refine gate_callee (f := 13) rfl ?_); refine goesL_ (some 83) rfl rfl Try.func13 (by kernel_rfl) rfl #[.slice Ao71 y184.length co71, .int .i64 0] rfl (by (try simp only [List.map_toArray, List.map_cons, List.map_nil]); first | done | rfl | (simp only [List.length_drop, List.length_take]; rfl)) ?_; (with_reducible refine (shape_Index.calls k _ _ y184 0 t187 t188 _ ?side1 ?side2 A13.out).mono ?_); (case side1 => repeat (first | exact (Kd.R_reads' HO186.out).2.2 | (with_reducible refine Kd.C_alloc ?_ _) | (with_reducible refine Kd.C_drewN ?_ _) | (with_reducible refine Kd.C_drew ?_))); (case side2 => exact (Kd.R_reads' HO186.out).2.1); rintro e w72 ⟨v189, rfl, ho0, hb⟩; refine ⟨_, rfl, ?_⟩; have n0_ := Aside0.mk (Kd.R_elder' (by (with_reducible repeat (first | apply Kd.R_alloc | apply Kd.R_drewN | apply Kd.R_drew)); exact HO126.out) (Kd.R_base ho0) hb); have n1_ := Aside0.mk (Kd.R_elder' (by (with_reducible repeat (first | apply Kd.R_alloc | apply Kd.R_drewN | apply Kd.R_drew)); exact HO133.out) (Kd.R_base ho0) hb); have n2_ := Aside0.mk (Kd.R_elder' (by (with_reducible repeat (first | apply Kd.R_alloc | apply Kd.R_drewN | apply Kd.R_drew)); exact HO138.out) (Kd.R_base ho0) hb); have n3_ := Aside0.mk (Kd.R_elder' (by (with_reducible repeat (first | apply Kd.R_alloc | apply Kd.R_drewN | apply Kd.R_drew)); exact HO143.out) (Kd.R_base ho0) hb); have n4_ := Aside0.mk (Kd.R_elder' (by (with_reducible repeat (first | apply Kd.R_alloc | apply Kd.R_drewN | apply Kd.R_drew)); exact HO148.out) (Kd.R_base ho0) hb); have n5_ := Aside0.mk (Kd.R_elder' (by (with_reducible repeat (first | apply Kd.R_alloc | apply Kd.R_drewN | apply Kd.R_drew)); exact HO153.out) (Kd.R_base ho0) hb); have n6_ := Aside0.mk (Kd.R_elder' (by (with_reducible repeat (first | apply Kd.R_alloc | apply Kd.R_drewN | apply Kd.R_drew)); exact HO156.out) (Kd.R_base ho0) hb); have n7_ := Aside0.mk (Kd.R_elder' (by (with_reducible repeat (first | apply Kd.R_alloc | apply Kd.R_drewN | apply Kd.R_drew)); exact HO161.out) (Kd.R_base ho0) hb); have n8_ := Aside0.mk (Kd.R_elder' (by (with_reducible repeat (first | apply Kd.R_alloc | apply Kd.R_drewN | apply Kd.R_drew)); exact HO164.out) (Kd.R_base ho0) hb); have n9_ := Aside0.mk (Kd.R_elder' (by (with_reducible repeat (first | apply Kd.R_alloc | apply Kd.R_drewN | apply Kd.R_drew)); exact HO169.out) (Kd.R_base ho0) hb); have n10_ := Aside0.mk (Kd.R_elder' (by (with_reducible repeat (first | apply Kd.R_alloc | apply Kd.R_drewN | apply Kd.R_drew)); exact HO172.out) (Kd.R_base ho0) hb); have n11_ := Aside0.mk (Kd.R_elder' (by (with_reducible repeat (first | apply Kd.R_alloc | apply Kd.R_drewN | apply Kd.R_drew)); exact HO177.out) (Kd.R_base ho0) hb); have n12_ := Aside0.mk (Kd.R_elder' (by (with_reducible repeat (first | apply Kd.R_alloc | apply Kd.R_drewN | apply Kd.R_drew)); exact HO181.out) (Kd.R_base ho0) hb); have n13_ := Aside0.mk (Kd.R_elder' (by (with_reducible repeat (first | apply Kd.R_alloc | apply Kd.R_drewN | apply Kd.R_drew)); exact HO186.out) (Kd.R_base ho0) hb); have n14_ := Aside0.mk (Kd.R_lower (Kd.R_new' (Kd.R_new' (Kd.R_new' (Kd.R_new' (Kd.R_new' (Kd.R_new' (Kd.R_new' (Kd.R_new' (Kd.R_new' (Kd.R_new' (Kd.R_new' (Kd.R_new' (Kd.R_new' (Kd.R_new' ho0 (Kd.R_lt (by (with_reducible repeat (first | apply Kd.R_alloc | apply Kd.R_drewN | apply Kd.R_drew)); exact HO126.out))) (Kd.R_lt (by (with_reducible repeat (first | apply Kd.R_alloc | apply Kd.R_drewN | apply Kd.R_drew)); exact HO133.out))) (Kd.R_lt (by (with_reducible repeat (first | apply Kd.R_alloc | apply Kd.R_drewN | apply Kd.R_drew)); exact HO138.out))) (Kd.R_lt (by (with_reducible repeat (first | apply Kd.R_alloc | apply Kd.R_drewN | apply Kd.R_drew)); exact HO143.out))) (Kd.R_lt (by (with_reducible repeat (first | apply Kd.R_alloc | apply Kd.R_drewN | apply Kd.R_drew)); exact HO148.out))) (Kd.R_lt (by (with_reducible repeat (first | apply Kd.R_alloc | apply Kd.R_drewN | apply Kd.R_drew)); exact HO153.out))) (Kd.R_lt (by (with_reducible repeat (first | apply Kd.R_alloc | apply Kd.R_drewN | apply Kd.R_drew)); exact HO156.out))) (Kd.R_lt (by (with_reducible repeat (first | apply Kd.R_alloc | apply Kd.R_drewN | apply Kd.R_drew)); exact HO161.out))) (Kd.R_lt (by (with_reducible repeat (first | apply Kd.R_alloc | apply Kd.R_drewN | apply Kd.R_drew)); exact HO164.out))) (Kd.R_lt (by (with_reducible repeat (first | apply Kd.R_alloc | apply Kd.R_drewN | apply Kd.R_drew)); exact HO169.out))) (Kd.R_lt (by (with_reducible repeat (first | apply Kd.R_alloc | apply Kd.R_drewN | apply Kd.R_drew)); exact HO172.out))) (Kd.R_lt (by (with_reducible repeat (first | apply Kd.R_alloc | apply Kd.R_drewN | apply Kd.R_drew)); exact HO177.out))) (Kd.R_lt (by (with_reducible repeat (first | apply Kd.R_alloc | apply Kd.R_drewN | apply Kd.R_drew)); exact HO181.out))) (Kd.R_lt (by (with_reducible repeat (first | apply Kd.R_alloc | apply Kd.R_drewN | apply Kd.R_drew)); exact HO186.out))) (below_size (by repeat (first | (with_reducible first | exact HB.out | apply below_alloc | apply pw_below_drewN | apply below_drew1) | exact HB.out)))); have n15_ := Aside0.mk (below_step (by repeat (first | (with_reducible first | exact HB.out | apply below_alloc | apply pw_below_drewN | apply below_drew1) | exact HB.out)) hb); clear HO126; clear HO133; clear HO138; clear HO143; clear HO148; clear HO153; clear HO156; clear HO161; clear HO164; clear HO169; clear HO172; clear HO177; clear HO181; clear HO186; clear HB; have HO126 := n0_; have HO133 := n1_; have HO138 := n2_; have HO143 := n3_; have HO148 := n4_; have HO153 := n5_; have HO156 := n6_; have HO161 := n7_; have HO164 := n8_; have HO169 := n9_; have HO172 := n10_; have HO177 := n11_; have HO181 := n12_; have HO186 := n13_; have HO190 := n14_; have HB := n15_; clear n0_ n1_ n2_ n3_ n4_ n5_ n6_ n7_ n8_ n9_ n10_ n11_ n12_ n13_ n14_ n15_; (try clear hb); (try clear hb2); (try clear hk); (try clear hi); (try clear ho0)) | ((with_reducible refine gate_dst (N := 134) rfl ?_); (try (refine gate_guard (by rfl) ?_; dsimp only)); refine Kd.R_lit (Kd.int .i64) _ 3 ?hg (N := 134) ?hd (xs := ([1, 2] : List Int)) (inner := [.int .i64 1, .int .i64 2]) (ok := fun _ => True) (okp := fun _ => True) ?hr ?hp (fun _ hk => hk) trivial (Below.refl _ _) (Nat.le_refl _) (by simp) ?_; (case hd => rfl); (case hg => rfl); (case hr => first | (go_simp; done) | (go_simp; rfl)); (case hp => exact (Reps.one (show Kd.M (Kd.int .i64) _ _ _ 1 [.int .i64 1] from rfl) (Reps.one (show Kd.M (Kd.int .i64) _ _ _ 2 [.int .i64 2] from rfl) (Reps.none _ _)))); intro v192 w73 ho74 hb hg_ hnew_; clear hg_ hnew_; (first | rw [← Ny191.out] at ho74 | (simp only [Int.reduceToNat] at ho74; rw [← Ny191.out] at ho74)); have n0_ := Aside0.mk (Kd.R_elder' (by (with_reducible repeat (first | apply Kd.R_alloc | apply Kd.R_drewN | apply Kd.R_drew)); exact HO126.out) (Kd.R_base ho74) hb); have n1_ := Aside0.mk (Kd.R_elder' (by (with_reducible repeat (first | apply Kd.R_alloc | apply Kd.R_drewN | apply Kd.R_drew)); exact HO133.out) (Kd.R_base ho74) hb); have n2_ := Aside0.mk (Kd.R_elder' (by (with_reducible repeat (first | apply Kd.R_alloc | apply Kd.R_drewN | apply Kd.R_drew)); exact HO138.out) (Kd.R_base ho74) hb); have n3_ := Aside0.mk (Kd.R_elder' (by (with_reducible repeat (first | apply Kd.R_alloc | apply Kd.R_drewN | apply Kd.R_drew)); exact HO143.out) (Kd.R_base ho74) hb); have n4_ := Aside0.mk (Kd.R_elder' (by (with_reducible repeat (first | apply Kd.R_alloc | apply Kd.R_drewN | apply Kd.R_drew)); exact HO148.out) (Kd.R_base ho74) hb); have n5_ := Aside0.mk (Kd.R_elder' (by (with_reducible repeat (first | apply Kd.R_alloc | apply Kd.R_drewN | apply Kd.R_drew)); exact HO153.out) (Kd.R_base ho74) hb); have n6_ := Aside0.mk (Kd.R_elder' (by (with_reducible repeat (first | apply Kd.R_alloc | apply Kd.R_drewN | apply Kd.R_drew)); exact HO156.out) (Kd.R_base ho74) hb); have n7_ := Aside0.mk (Kd.R_elder' (by (with_reducible repeat (first | apply Kd.R_alloc | apply Kd.R_drewN | apply Kd.R_drew)); exact HO161.out) (Kd.R_base ho74) hb); have n8_ := Aside0.mk (Kd.R_elder' (by (with_reducible repeat (first | apply Kd.R_alloc | apply Kd.R_drewN | apply Kd.R_drew)); exact HO164.out) (Kd.R_base ho74) hb); have n9_ := Aside0.mk (Kd.R_elder' (by (with_reducible repeat (first | apply Kd.R_alloc | apply Kd.R_drewN | apply Kd.R_drew)); exact HO169.out) (Kd.R_base ho74) hb); have n10_ := Aside0.mk (Kd.R_elder' (by (with_reducible repeat (first | apply Kd.R_alloc | apply Kd.R_drewN | apply Kd.R_drew)); exact HO172.out) (Kd.R_base ho74) hb); have n11_ := Aside0.mk (Kd.R_elder' (by (with_reducible repeat (first | apply Kd.R_alloc | apply Kd.R_drewN | apply Kd.R_drew)); exact HO177.out) (Kd.R_base ho74) hb); have n12_ := Aside0.mk (Kd.R_elder' (by (with_reducible repeat (first | apply Kd.R_alloc | apply Kd.R_drewN | apply Kd.R_drew)); exact HO181.out) (Kd.R_base ho74) hb); have n13_ := Aside0.mk (Kd.R_elder' (by (with_reducible repeat (first | apply Kd.R_alloc | apply Kd.R_drewN | apply Kd.R_drew)); exact HO186.out) (Kd.R_base ho74) hb); have n14_ := Aside0.mk (Kd.R_elder' (by (with_reducible repeat (first | apply Kd.R_alloc | apply Kd.R_drewN | apply Kd.R_drew)); exact HO190.out) (Kd.R_base ho74) hb); have n15_ := Aside0.mk (Kd.R_lower (Kd.R_new' (Kd.R_new' (Kd.R_new' (Kd.R_new' (Kd.R_new' (Kd.R_new' (Kd.R_new' (Kd.R_new' (Kd.R_new' (Kd.R_new' (Kd.R_new' (Kd.R_new' (Kd.R_new' (Kd.R_new' (Kd.R_new' ho74 (Kd.R_lt (by (with_reducible repeat (first | apply Kd.R_alloc | apply Kd.R_drewN | apply Kd.R_drew)); exact HO126.out))) (Kd.R_lt (by (with_reducible repeat (first | apply Kd.R_alloc | apply Kd.R_drewN | apply Kd.R_drew)); exact HO133.out))) (Kd.R_lt (by (with_reducible repeat (first | apply Kd.R_alloc | apply Kd.R_drewN | apply Kd.R_drew)); exact HO138.out))) (Kd.R_lt (by (with_reducible repeat (first | apply Kd.R_alloc | apply Kd.R_drewN | apply Kd.R_drew)); exact HO143.out))) (Kd.R_lt (by (with_reducible repeat (first | apply Kd.R_alloc | apply Kd.R_drewN | apply Kd.R_drew)); exact HO148.out))) (Kd.R_lt (by (with_reducible repeat (first | apply Kd.R_alloc | apply Kd.R_drewN | apply Kd.R_drew)); exact HO153.out))) (Kd.R_lt (by (with_reducible repeat (first | apply Kd.R_alloc | apply Kd.R_drewN | apply Kd.R_drew)); exact HO156.out))) (Kd.R_lt (by (with_reducible repeat (first | apply Kd.R_alloc | apply Kd.R_drewN | apply Kd.R_drew)); exact HO161.out))) (Kd.R_lt (by (with_reducible repeat (first | apply Kd.R_alloc | apply Kd.R_drewN | apply Kd.R_drew)); exact HO164.out))) (Kd.R_lt (by (with_reducible repeat (first | apply Kd.R_alloc | apply Kd.R_drewN | apply Kd.R_drew)); exact HO169.out))) (Kd.R_lt (by (with_reducible repeat (first | apply Kd.R_alloc | apply Kd.R_drewN | apply Kd.R_drew)); exact HO172.out))) (Kd.R_lt (by (with_reducible repeat (first | apply Kd.R_alloc | apply Kd.R_drewN | apply Kd.R_drew)); exact HO177.out))) (Kd.R_lt (by (with_reducible repeat (first | apply Kd.R_alloc | apply Kd.R_drewN | apply Kd.R_drew)); exact HO181.out))) (Kd.R_lt (by (with_reducible repeat (first | apply Kd.R_alloc | apply Kd.R_drewN | apply Kd.R_drew)); exact HO186.out))) (Kd.R_lt (by (with_reducible repeat (first | apply Kd.R_alloc | apply Kd.R_drewN | apply Kd.R_drew)); exact HO190.out))) (below_size (by repeat (first | (with_reducible first | exact HB.out | apply below_alloc | apply pw_below_drewN | apply below_drew1) | exact HB.out)))); have n16_ := Aside0.mk (below_step (by repeat (first | (with_reducible first | exact HB.out | apply below_alloc | apply pw_below_drewN | apply below_drew1) | exact HB.out)) hb); clear HO126; clear HO133; clear HO138; clear HO143; clear HO148; clear HO153; clear HO156; clear HO161; clear HO164; clear HO169; clear HO172; clear HO177; clear HO181; clear HO186; clear HO190; clear HB; have HO126 := n0_; have HO133 := n1_; have HO138 := n2_; have HO143 := n3_; have HO148 := n4_; have HO153 := n5_; have HO156 := n6_; have HO161 := n7_; have HO164 := n8_; have HO169 := n9_; have HO172 := n10_; have HO177 := n11_; have HO181 := n12_; have HO186 := n13_; have HO190 := n14_; have HO193 := n15_; have HB := n16_; clear n0_ n1_ n2_ n3_ n4_ n5_ n6_ n7_ n8_ n9_ n10_ n11_ n12_ n13_ n14_ n15_ n16_; clear hb ho74; obtain ⟨Ao75, co75, eo75⟩ := Kd.R_slice HO181.out; subst eo75; obtain ⟨Ao76, co76, eo76⟩ := Kd.R_slice HO193.out; subst eo76) | (go_at_call 15; (with_reducible refine (deckleref01_Same.calls k _ _ t178 _ _ y191 true _ ?side1 ?side2 ?side3 ?side4 A27.out).mono ?_); (case side1 => repeat (first | exact (Kd.R_reads' HO181.out).2.2 | (with_reducible refine Kd.C_alloc ?_ _) | (with_reducible refine Kd.C_drewN ?_ _) | (with_reducible refine Kd.C_drew ?_))); (case side2 => exact (Kd.R_reads' HO181.out).2.1); (case side3 => repeat (first | exact (Kd.R_reads' HO193.out).2.2 | (with_reducible refine Kd.C_alloc ?_ _) | (with_reducible refine Kd.C_drewN ?_ _) | (with_reducible refine Kd.C_drew ?_))); (case side4 => exact (Kd.R_reads' HO193.out).2.1); rintro e w' ⟨rfl, ⟨nd, rfl⟩⟩))
                                      go_ret
                                      exact ⟨by first | rfl | (simp [errW_none, errW_some] <;> rfl) | (simp [*, errW_none, errW_some] <;> rfl), by repeat (first | (with_reducible first | exact HB.out | apply below_alloc | apply pw_below_drewN | apply below_drew1) | exact HB.out)⟩
                                    · replace c31 := Bool.eq_false_iff.mpr c31
                                      subst c31
                                      have H1 : (none) = some r := by rw [if_neg (show ¬ (false = true) by decide)] at H; exact H
                                      clear H
                                      have H := H1
                                      clear H1
                                      exact absurd H (by simp)
                                  · rw [if_neg c30] at H
                                    exact absurd H (by simp)
                                · replace c29 := Bool.eq_false_iff.mpr c29
                                  subst c29
                                  have H1 : (none) = some r := by rw [if_neg (show ¬ (false = true) by decide)] at H; exact H
                                  clear H
                                  have H := H1
                                  clear H1
                                  exact absurd H (by simp)
                              · replace c28 := Bool.eq_false_iff.mpr c28
                                subst c28
                                have H1 : (none) = some r := by rw [if_neg (show ¬ (false = true) by decide)] at H; exact H
                                clear H
                                have H := H1
                                clear H1
                                exact absurd H (by simp)
                        · replace c24 := Bool.eq_false_iff.mpr c24
                          subst c24
                          have H1 : (none) = some r := by rw [if_neg (show ¬ (false = true) by decide)] at H; exact H
                          clear H
                          have H := H1
                          clear H1
                          exact absurd H (by simp)
                      · rw [if_neg c23] at H
                        exact absurd H (by simp)
              · replace c19 := Bool.eq_false_iff.mpr c19
                subst c19
                have H1 : (none) = some r := by rw [if_neg (show ¬ (false = true) by decide)] at H; exact H
                clear H
                have H := H1
                clear H1
                exact absurd H (by simp)
            · rw [if_neg c18] at H
              exact absurd H (by simp)
          · replace c17 := Bool.eq_false_iff.mpr c17
            subst c17
            have H1 : (none) = some r := by rw [if_neg (show ¬ (false = true) by decide)] at H; exact H
            clear H
            have H := H1
            clear H1
            exact absurd H (by simp)
        · rw [if_neg c16] at H
          exact absurd H (by simp)
      · replace c15 := Bool.eq_false_iff.mpr c15
        subst c15
        have H1 : (none) = some r := by rw [if_neg (show ¬ (false = true) by decide)] at H; exact H
        clear H
        have H := H1
        clear H1
        exact absurd H (by simp)
    · rw [if_neg c14] at H
      exact absurd H (by simp)
  · rw [if_neg c6] at H
    exact absurd H (by simp)

end Go.Proofs.Ytngpdacbmkfbcaa.HShapeTells
