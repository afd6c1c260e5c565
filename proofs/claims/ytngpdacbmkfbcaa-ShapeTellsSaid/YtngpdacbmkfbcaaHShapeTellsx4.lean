-- Written by the session's program hy.py.
import Derived.Test.YtngpdacbmkfbcaaHShapeTellsx0
import Derived.Test.YtngpdacbmkfbcaaHShapeTellsx1
import Derived.Test.YtngpdacbmkfbcaaHShapeTellsx2
import Derived.Test.YtngpdacbmkfbcaaHShapeTellsx3
namespace Go.Proofs.Ytngpdacbmkfbcaa.HShapeTells
open Go.RowKit Go.Proofs.YtngpdacbmkfbcaaW.PrintWords Go.Proofs.YtngpdacbmkfbcaaW.PrintLast Go.Proofs.YtngpdacbmkfbcaaW.PrintMore
attribute [local go_sem] max2_int min2_int max_two min_two max_three min_three max_four min_four   -- for this text's walks alone
set_option linter.unusedVariables false
set_option linter.unusedSimpArgs false

/-! ### deckleref09_Index: function 14 -/
mutual
def deckleref09_Index.j0 : Nat → List Int → Int → Bool → Option (List Int × Bool)
  | 0, _, _, _ => none
  | k + 1, x0, x1, x25 => if x25 = true then (some (([] : List Int), false)) else (if 0 ≤ (x0.length : Int) then (if ((x0.length : Int) : Int).toNat ≤ 35184372088832 then (deckleref09_Index.l0 k x0 x1 (List.replicate ((x0.length : Int) : Int).toNat 0) (wrap64 ((x0.length : Int) - 1))) else (none)) else (none))
def deckleref09_Index.l0 : Nat → List Int → Int → List Int → Int → Option (List Int × Bool)
  | 0, _, _, _, _ => none
  | k + 1, x0, x1, x8, x9 => if x9 ≥ 0 then (if 0 ≤ x9 then (if x9 < (x0.length : Int) then (if (rd x0 x9) = 0 then (none) else (if x9 < (x8.length : Int) then (deckleref09_Index.l0 k x0 (wrap64 (Int.tdiv x1 (rd x0 x9))) (x8.set (x9 : Int).toNat (Int.tmod x1 (rd x0 x9))) (wrap64 (x9 - 1))) else (none))) else (none)) else (none)) else (some (x8, true))
end
def deckleref09_Index.f (k : Nat) (l0 : List Int) (a1 : Int) : Option (List Int × Bool) := (deckleref09_Count.f k l0).bind fun bt206 => (if bt206.2 = true then (if a1 < 0 then (deckleref09_Index.j0 k l0 a1 true) else (deckleref09_Index.j0 k l0 a1 (decide (a1 ≥ bt206.1)))) else (deckleref09_Index.j0 k l0 a1 true))
theorem deckleref09_Index.mono_l : ∀ k, (∀ y0 y1 y2, LeO (deckleref09_Index.j0 k y0 y1 y2) (deckleref09_Index.j0 (k + 1) y0 y1 y2)) ∧ (∀ y0 y1 y2 y3, LeO (deckleref09_Index.l0 k y0 y1 y2 y3) (deckleref09_Index.l0 (k + 1) y0 y1 y2 y3))
  | 0 => ⟨fun _ _ _ r h => by simp [deckleref09_Index.j0] at h, fun _ _ _ _ r h => by simp [deckleref09_Index.l0] at h⟩
  | k + 1 => by
    obtain ⟨ih0, ih1⟩ := deckleref09_Index.mono_l k
    refine ⟨?_, ?_⟩
    · intro y0 y1 y2
      unfold deckleref09_Index.j0
      repeat' first
      | (with_reducible exact ih0 _ _ _)
      | (with_reducible exact ih1 _ _ _ _)
      | (with_reducible exact deckleref09_Count.mono _ _)
      | (with_reducible exact LeO.refl _)
      | (with_reducible exact LeO.none _)
      | (with_reducible refine LeO.ite ?_ ?_)
      | (with_reducible refine LeO.bind ?_ (fun _ => ?_))
      | exact ih0 _ _ _
      | exact ih1 _ _ _ _
      | exact deckleref09_Count.mono _ _
      | exact LeO.none _
      | refine LeO.ite ?_ ?_
      | refine LeO.bind ?_ (fun _ => ?_)
    · intro y0 y1 y2 y3
      unfold deckleref09_Index.l0
      repeat' first
      | (with_reducible exact ih0 _ _ _)
      | (with_reducible exact ih1 _ _ _ _)
      | (with_reducible exact deckleref09_Count.mono _ _)
      | (with_reducible exact LeO.refl _)
      | (with_reducible exact LeO.none _)
      | (with_reducible refine LeO.ite ?_ ?_)
      | (with_reducible refine LeO.bind ?_ (fun _ => ?_))
      | exact ih0 _ _ _
      | exact ih1 _ _ _ _
      | exact deckleref09_Count.mono _ _
      | exact LeO.none _
      | refine LeO.ite ?_ ?_
      | refine LeO.bind ?_ (fun _ => ?_)
theorem deckleref09_Index.mono : ∀ a0 a1 k, LeO (deckleref09_Index.f k a0 a1) (deckleref09_Index.f (k + 1) a0 a1) := by
  intro a0 a1 k
  obtain ⟨ih0, ih1⟩ := deckleref09_Index.mono_l k
  unfold deckleref09_Index.f
  repeat' first
      | (with_reducible exact ih0 _ _ _)
      | (with_reducible exact ih1 _ _ _ _)
      | (with_reducible exact deckleref09_Count.mono _ _)
      | (with_reducible exact LeO.refl _)
      | (with_reducible exact LeO.none _)
      | (with_reducible refine LeO.ite ?_ ?_)
      | (with_reducible refine LeO.bind ?_ (fun _ => ?_))
      | exact ih0 _ _ _
      | exact ih1 _ _ _ _
      | exact deckleref09_Count.mono _ _
      | exact LeO.none _
      | refine LeO.ite ?_ ?_
      | refine LeO.bind ?_ (fun _ => ?_)
set_option maxHeartbeats 8000000 in
set_option maxRecDepth 100000 in
theorem deckleref09_Index.calls (k : Nat) (A0 : Option Addr) (c0 : Nat) (l0 : List Int) (a1 : Int) (r1 : List Int) (r2 : Bool) (w : World) (hr0 : Kd.C (Kd.int .i64) w A0 l0.length l0) (hc0 : l0.length ≤ c0) (h : deckleref09_Index.f k l0 a1 = some (r1, r2)) :
    Calls Try.prog 14 #[.slice A0 l0.length c0, .int .i64 a1] w fun e w' => ∃ v0_ : Value, e = .returned (.tuple #[v0_, .bool r2]) ∧ Kd.R (Kd.int .i64) 3 w' w.heap.size (fun _ => True) v0_ r1 ∧ Below w.heap.size w w' := by
  have HR0 := Aside0.mk hr0
  have HC0 := Aside0.mk hc0
  clear hr0 hc0
  have HB := Aside0.mk (Below.refl w.heap.size w)
  have H : ((deckleref09_Count.f k l0).bind fun bt206 => (if bt206.2 = true then (if a1 < 0 then (deckleref09_Index.j0 k l0 a1 true) else (deckleref09_Index.j0 k l0 a1 (decide (a1 ≥ bt206.1)))) else (deckleref09_Index.j0 k l0 a1 true))) = some (r1, r2) := h
  clear h
  replace H := Option.bind_eq_some_iff.mp H
  obtain ⟨⟨t206, t207⟩, A30, H⟩ := H
  replace H : (if t207 = true then (if a1 < 0 then (deckleref09_Index.j0 k l0 a1 true) else (deckleref09_Index.j0 k l0 a1 (decide (a1 ≥ t206)))) else (deckleref09_Index.j0 k l0 a1 true)) = some (r1, r2) := H
  have A3 := Aside0.mk A30
  clear A30
  have HC4 := Aside0.mk H
  clear H
  go_enter Try.func14, Try.ntmps14
  go_upto_region 2 with (first | ((with_reducible refine gate_callee (f := 10) rfl ?_); refine goesL_ (some 12) rfl rfl Try.func10 (by kernel_rfl) rfl #[.slice A0 l0.length c0] rfl (by (try simp only [List.map_toArray, List.map_cons, List.map_nil]); first | done | rfl | (simp only [List.length_drop, List.length_take]; rfl)) ?_; (with_reducible refine (deckleref09_Count.calls k _ _ l0 t206 t207 _ ?side1 ?side2 A3.out).mono ?_); (case side1 => repeat (first | exact HR0.out | (with_reducible refine Kd.C_alloc ?_ _) | (with_reducible refine Kd.C_drewN ?_ _) | (with_reducible refine Kd.C_drew ?_))); (case side2 => exact HC0.out); rintro e w' ⟨rfl, ⟨nd, rfl⟩⟩; refine ⟨_, rfl, ?_⟩))
  (try simp only [Act.put, List.setIfInBounds_toArray, List.set_cons_zero, List.set_cons_succ])
  go_cut [25] (fun v25 wc => ∃ (kq : Nat) (x25_3 : Bool), v25 = .bool x25_3 ∧ Aside0 (deckleref09_Index.j0 kq l0 a1 x25_3 = some (r1, r2)) ∧ Aside0 (kq ≤ k) ∧ Aside0 (Below w.heap.size w wc))
  case first =>
    have H := HC4.out
    clear HC4
    by_cases c5 : t207 = true
    · subst c5
      have H1 : (if a1 < 0 then (deckleref09_Index.j0 k l0 a1 true) else (deckleref09_Index.j0 k l0 a1 (decide (a1 ≥ t206)))) = some (r1, r2) := by rw [if_pos rfl] at H; exact H
      clear H
      have H := H1
      clear H1
      by_cases c6 : a1 < 0
      · rw [if_pos c6] at H
        have c6b0 : decide (a1 < 0) = true := decide_eq_true c6
        clear c6
        (first | rw [c6b0] | (simp only [i64_w, i32_w]; rw [c6b0]) | skip)
        have H' := Aside0.mk H
        clear H
        go_wp2
        go_meet
        case rel => exact ⟨_, (true), (by first | rfl | (simp; done) | (simp [*]; done)), H', ⟨by first | omega | exact Nat.le_refl _⟩, ⟨by repeat (first | (with_reducible first | exact HB.out | apply below_alloc | apply pw_below_drewN | apply below_drew1) | exact HB.out)⟩⟩
      · rw [if_neg c6] at H
        have c6b0 : decide (a1 < 0) = false := decide_eq_false c6
        clear c6
        (first | rw [c6b0] | (simp only [i64_w, i32_w]; rw [c6b0]) | skip)
        have H' := Aside0.mk H
        clear H
        go_wp2
        go_meet
        case rel => exact ⟨_, (decide (a1 ≥ t206)), (by first | rfl | (simp; done) | (simp [*]; done)), H', ⟨by first | omega | exact Nat.le_refl _⟩, ⟨by repeat (first | (with_reducible first | exact HB.out | apply below_alloc | apply pw_below_drewN | apply below_drew1) | exact HB.out)⟩⟩
    · replace c5 := Bool.eq_false_iff.mpr c5
      subst c5
      have H1 : (deckleref09_Index.j0 k l0 a1 true) = some (r1, r2) := by rw [if_neg (show ¬ (false = true) by decide)] at H; exact H
      clear H
      have H := H1
      clear H1
      have H' := Aside0.mk H
      clear H
      go_wp2
      go_meet
      case rel => exact ⟨_, (true), (by first | rfl | (simp; done) | (simp [*]; done)), H', ⟨by first | omega | exact Nat.le_refl _⟩, ⟨by repeat (first | (with_reducible first | exact HB.out | apply below_alloc | apply pw_below_drewN | apply below_drew1) | exact HB.out)⟩⟩
  case rest =>
    clear HC4
    try clear c1
    try clear p2
    try clear c5
    try clear c6
    try clear c6b0
    obtain ⟨kq, x25_3, rfl, HA, HJ3, HB⟩ := hcut
    cases kq with
    | zero => exact absurd HA.out (by simp [deckleref09_Index.j0])
    | succ kj3 =>
      have H := HA.out
      clear HA
      simp only [deckleref09_Index.j0] at H
      by_cases c7 : x25_3 = true
      · subst c7
        have H1 : (some (([] : List Int), false)) = some (r1, r2) := by rw [if_pos rfl] at H; exact H
        clear H
        have H := H1
        clear H1
        simp only [Option.some.injEq, Prod.mk.injEq] at H
        obtain ⟨rfl, rfl⟩ := H
        go_wp2
        go_ret2
        exact ⟨_, by first | rfl | (simp [errW_none, errW_some] <;> rfl) | (simp [*, errW_none, errW_some] <;> rfl), by first | exact Kd.R_nil _ _ _ _ _ | exact Kd.N_nil _ _ _ _ _ | exact Kd.V_nil _ _ _ _ _ | exact Kd.Q_nil _ _ _ _ _ | exact Kd.S_nil _ _ _ _ _, by repeat (first | (with_reducible first | exact HB.out | apply below_alloc | apply pw_below_drewN | apply below_drew1) | exact HB.out)⟩
      · replace c7 := Bool.eq_false_iff.mpr c7
        subst c7
        have H1 : (if 0 ≤ (l0.length : Int) then (if ((l0.length : Int) : Int).toNat ≤ 35184372088832 then (deckleref09_Index.l0 kj3 l0 a1 (List.replicate ((l0.length : Int) : Int).toNat 0) (wrap64 ((l0.length : Int) - 1))) else (none)) else (none)) = some (r1, r2) := by rw [if_neg (show ¬ (false = true) by decide)] at H; exact H
        clear H
        have H := H1
        clear H1
        by_cases c8 : 0 ≤ (l0.length : Int)
        · rw [if_pos c8] at H
          have c8b0 := eq_true c8
          have c8b1 : decide (0 ≤ (l0.length : Int)) = true := decide_eq_true c8
          clear c8
          by_cases c9 : ((l0.length : Int) : Int).toNat ≤ 35184372088832
          · rw [if_pos c9] at H
            have c9b0 := eq_true c9
            have c9b1 : decide (((l0.length : Int) : Int).toNat ≤ 35184372088832) = true := decide_eq_true c9
            clear c9
            obtain ⟨y208, hy208⟩ : ∃ y_ : List Int, y_ = (List.replicate ((l0.length : Int) : Int).toNat 0) := ⟨_, rfl⟩
            replace H : (deckleref09_Index.l0 kj3 l0 a1 y208 (wrap64 ((l0.length : Int) - 1))) = some (r1, r2) := by first | (rw [hy208]; with_reducible exact H) | (have H2_ := (Option.bind_some _ _).symm.trans H; rw [hy208]; with_reducible exact H2_) | (have H2_ := (Option.bind_some _ _).symm.trans H; with_reducible exact H2_) | with_reducible exact H | (rw [hy208]; exact H) | exact H
            have Ny208 := Aside0.mk hy208
            clear hy208
            have H' := Aside0.mk H
            clear H
            go_wp2_with (first | ((with_reducible refine gate_dst (N := 28) rfl ?_); refine Kd.R_make (Kd.int .i64) _ 3 rfl (N := 28) rfl 22 _ _ rfl (l0.length : Int) rfl rfl Try.underlying22 (.int .i64 0) 8 info3 rfl (by decide) (by omega) 0 (ok := fun _ => True) (okp := fun _ => True) rfl (fun _ hk => hk) trivial (of_decide_eq_true (by first | (with_reducible assumption) | assumption)) (Nat.le_trans (Nat.mul_le_mul_right _ (of_decide_eq_true (by first | (with_reducible assumption) | assumption) : (l0.length : Int).toNat ≤ 35184372088832)) (by omega)) (Below.refl _ _) (Nat.le_refl _) ?_; intro v209 w10 ho11 hb hg_ hnew_; clear hg_ hnew_; (first | rw [← Ny208.out] at ho11 | (simp only [Int.reduceToNat] at ho11; rw [← Ny208.out] at ho11)); have n0_ := Aside0.mk (Kd.R_lower ho11 (below_size (by repeat (first | (with_reducible first | exact HB.out | apply below_alloc | apply pw_below_drewN | apply below_drew1) | exact HB.out)))); have n1_ := Aside0.mk (below_step (by repeat (first | (with_reducible first | exact HB.out | apply below_alloc | apply pw_below_drewN | apply below_drew1) | exact HB.out)) hb); clear HB; have HO210 := n0_; have HB := n1_; clear n0_ n1_; clear hb ho11))
            go_loopg [1, 9] kj3 (fun kq v1 v9 w' => ∃ (x1_2 : Int) (x8_2 : List Int) (x9_2 : Int), v1 = .int .i64 x1_2 ∧ v9 = .int .i64 x9_2 ∧ Aside0 (deckleref09_Index.l0 kq l0 x1_2 x8_2 x9_2 = some (r1, r2)) ∧ Aside0 (kq ≤ kj3) ∧ Aside0 (Kd.R (Kd.int .i64) 3 w' w.heap.size (fun _ => True) v209 x8_2) ∧ Aside0 (Below w.heap.size w w'))
            case atStart => exact ⟨(a1), (y208), (wrap64 ((l0.length : Int) - 1)), (by first | rfl | (simp; done) | (simp [*]; done)), (by first | rfl | (simp; done) | (simp [*]; done)), H', ⟨Nat.le_refl _⟩, ⟨by (with_reducible repeat (first | apply Kd.R_alloc | apply Kd.R_drewN | apply Kd.R_drew)); exact HO210.out⟩, ⟨by repeat (first | (with_reducible first | exact HB.out | apply below_alloc | apply pw_below_drewN | apply below_drew1) | exact HB.out)⟩⟩
            case round =>
              clear H'
              try clear c1
              try clear p2
              try clear c5
              try clear c6
              try clear c6b0
              try clear p6
              try clear c7
              try clear c8
              try clear c8b0
              try clear c8b1
              try clear c9
              try clear c9b0
              try clear c9b1
              try clear c10
              try clear p2
              obtain ⟨x1_2, x8_2, x9_2, rfl, rfl, HA, HK2, HO_8, HB⟩ := hrel
              cases gk with
              | zero => exact absurd HA.out (by simp [deckleref09_Index.l0])
              | succ k2 =>
                have H := HA.out
                clear HA
                simp only [deckleref09_Index.l0] at H
                by_cases c12 : x9_2 ≥ 0
                · rw [if_pos c12] at H
                  have c12b0 : decide (0 ≤ x9_2) = true := decide_eq_true c12
                  clear c12
                  by_cases c13 : 0 ≤ x9_2
                  · rw [if_pos c13] at H
                    have c13b0 : decide (0 ≤ x9_2) = true := decide_eq_true c13
                    clear c13
                    by_cases c14 : x9_2 < (l0.length : Int)
                    · rw [if_pos c14] at H
                      have c14b0 : decide (x9_2 < (l0.length : Int)) = true := decide_eq_true c14
                      clear c14
                      by_cases c15 : (rd l0 x9_2) = 0
                      · rw [if_pos c15] at H
                        exact absurd H (by simp)
                      · rw [if_neg c15] at H
                        have c15b0 : ((rd l0 x9_2) == 0) = false := beq_eq_false_iff_ne.mpr c15
                        have c15b1 : ((rd l0 x9_2) != 0) = true := bne_iff_ne.mpr c15
                        by_cases c16 : x9_2 < (x8_2.length : Int)
                        · rw [if_pos c16] at H
                          have c16b0 : decide (x9_2 < (x8_2.length : Int)) = true := decide_eq_true c16
                          clear c16
                          obtain ⟨y212, hy212⟩ : ∃ y_ : List Int, y_ = (x8_2.set (x9_2 : Int).toNat (Int.tmod x1_2 (rd l0 x9_2))) := ⟨_, rfl⟩
                          replace H : (deckleref09_Index.l0 k2 l0 (wrap64 (Int.tdiv x1_2 (rd l0 x9_2))) y212 (wrap64 (x9_2 - 1))) = some (r1, r2) := by first | (rw [hy212]; with_reducible exact H) | (have H2_ := (Option.bind_some _ _).symm.trans H; rw [hy212]; with_reducible exact H2_) | (have H2_ := (Option.bind_some _ _).symm.trans H; with_reducible exact H2_) | with_reducible exact H | (rw [hy212]; exact H) | exact H
                          have Ny212 := Aside0.mk hy212
                          clear hy212
                          have H' := Aside0.mk H
                          clear H
                          have p211 : 0 ≤ (x9_2 : Int) := of_decide_eq_true (by first | (with_reducible assumption) | assumption)
                          have q211 : x9_2 < (l0.length : Int) := of_decide_eq_true (by first | (with_reducible assumption) | assumption)
                          obtain ⟨ad211, e211, hx211_0⟩ := Kd.at_int HR0.out x9_2 p211 q211
                          cases e211
                          replace hx211_0 := (HB.out.cell (World.block_lt_of_cell? w _ hx211_0)).trans hx211_0
                          replace p211 := eq_true p211
                          replace q211 := eq_true q211
                          have p17 : 0 ≤ (x9_2 : Int) := of_decide_eq_true (by first | (with_reducible assumption) | assumption)
                          have q17 : (x9_2 : Int) < ((x8_2.length : Int) : Int) := of_decide_eq_true (by first | (with_reducible assumption) | assumption)
                          obtain ⟨go17, co17, eo17, gb17, gl17, cl17, HG17⟩ := Kd.R_form HO_8.out (by omega)
                          (first | cases eo17 | (injection eo17 with ea_ en_ ec_; (first | subst ea_ | (injection ea_ with ea_; subst ea_)); subst ec_; clear en_))
                          have GB17 := Aside0.mk gb17
                          have GG17 := Aside0.mk HG17
                          clear gb17 gl17 HG17
                          obtain ⟨hx17_0, hf17_0⟩ := Kd.R_celln 0 HO_8.out (x9_2 : Int) p17 q17
                          replace p17 := eq_true p17
                          replace q17 := eq_true q17
                          have HP18 := Kd.R_putg HO_8.out (x9_2 : Int) (Int.tmod x1_2 (rd l0 x9_2))
                          go_wp2_with (first | ((with_reducible refine gate_store (t := 3) (p := 44) rfl ?_); refine store_event (t := 3) (p := 44) (v := ?vo_w19) (w1 := (wr.setCell ⟨go17, (x9_2 : Int).toNat, none⟩ (.int .i64 (Int.tmod x1_2 (rd l0 x9_2))))) ?hg ?ho ?hn ?hr ?_; (case ho => rfl); (case hg => rfl); (case hn => rfl); (case hr => first | (go_simp; done) | (go_simp; rfl)); intro w19 hw; have hg : wr.grownBy w19 (some go17) := (by rw [hw]; exact HP18.2); have hp_ : Kd.R (Kd.int .i64) 3 w19 w.heap.size (fun _ => True) (.slice (some ⟨go17, 0, none⟩) x8_2.length co17) y212 := (by rw [hw, Ny212.out]; exact HP18.1); clear HP18; have n0_ := Aside0.mk (hp_); have n1_ := Aside0.mk ((by rw [hw]; exact below_set (HB.out) GB17.out : Below w.heap.size w w19)); clear HO_8; clear HB; have HO_8 := n0_; have HB := n1_; clear n0_ n1_; clear hg hw hp_; have p213 : 0 ≤ (x9_2 : Int) := of_decide_eq_true (by first | (with_reducible assumption) | assumption); have q213 : x9_2 < (l0.length : Int) := of_decide_eq_true (by first | (with_reducible assumption) | assumption); obtain ⟨ad213, e213, hx213_0⟩ := Kd.at_int HR0.out x9_2 p213 q213; obtain rfl : ad211 = ad213 := (by injection e213); replace hx213_0 := (HB.out.cell (World.block_lt_of_cell? w _ hx213_0)).trans hx213_0; replace p213 := eq_true p213; replace q213 := eq_true q213))
                          go_roundg k2
                          case measure => have := HJ3.out; have := HK2.out; omega
                          case rel => exact ⟨(wrap64 (Int.tdiv x1_2 (rd l0 x9_2))), (y212), (wrap64 (x9_2 - 1)), (by first | rfl | (simp; done) | (simp [*]; done)), (by first | rfl | (simp; done) | (simp [*]; done)), H', ⟨by have := HJ3.out; have := HK2.out; omega⟩, ⟨by (with_reducible repeat (first | apply Kd.R_alloc | apply Kd.R_drewN | apply Kd.R_drew)); exact HO_8.out⟩, ⟨by repeat (first | (with_reducible first | exact HB.out | apply below_alloc | apply pw_below_drewN | apply below_drew1) | exact HB.out)⟩⟩
                        · rw [if_neg c16] at H
                          exact absurd H (by simp)
                    · rw [if_neg c14] at H
                      exact absurd H (by simp)
                  · rw [if_neg c13] at H
                    exact absurd H (by simp)
                · rw [if_neg c12] at H
                  have c12b0 : decide (0 ≤ x9_2) = false := decide_eq_false c12
                  clear c12
                  simp only [Option.some.injEq, Prod.mk.injEq] at H
                  obtain ⟨rfl, rfl⟩ := H
                  go_wp2
                  go_ret2
                  exact ⟨_, by first | rfl | (simp [errW_none, errW_some] <;> rfl) | (simp [*, errW_none, errW_some] <;> rfl), by (with_reducible repeat (first | apply Kd.R_alloc | apply Kd.R_drewN | apply Kd.R_drew)); exact HO_8.out, by repeat (first | (with_reducible first | exact HB.out | apply below_alloc | apply pw_below_drewN | apply below_drew1) | exact HB.out)⟩
          · rw [if_neg c9] at H
            exact absurd H (by simp)
        · rw [if_neg c8] at H
          exact absurd H (by simp)

/-! ### decklelaw09_ShapeTells: function 3 -/
def decklelaw09_ShapeTells.j0 : Nat → List Int → List Int → Int → Bool → Bool → Option (Bool)
  | 0, _, _, _, _, _ => none
  | k + 1, x0, x1, x2, x7, x28 => if x28 = true then (some x7) else ((shape_Count.f k x0).bind fun bt215 => ((deckleref09_Count.f k x0).bind fun bt217 => ((shape_Place.f k x0 x1).bind fun bt219 => ((deckleref09_Place.f k x0 x1).bind fun bt221 => ((shape_Index.f k x0 x2).bind fun bt223 => ((deckleref09_Index.f k x0 x2).bind fun bt227 => (if x7 = true then (if bt215.1 = bt217.1 then (if (bt215.2 == bt217.2) = true then (if bt219.1 = bt221.1 then (if (bt219.2 == bt221.2) = true then ((deckleref01_Same.f k bt223.1 bt227.1).bind fun t231 => (if t231 = true then (some (bt223.2 == bt227.2)) else (none))) else (none)) else (none)) else (none)) else (none)) else (none))))))))
def decklelaw09_ShapeTells.f (k : Nat) (l0 : List Int) (l1 : List Int) (a2 : Int) : Option (Bool) := (decklelaw09_small.f k).bind fun t214 => (if (l0.length : Int) > 50 then (decklelaw09_ShapeTells.j0 k l0 l1 a2 t214 true) else (decklelaw09_ShapeTells.j0 k l0 l1 a2 t214 (decide ((l1.length : Int) > 50))))
theorem decklelaw09_ShapeTells.mono_l : ∀ k, (∀ y0 y1 y2 y3 y4, LeO (decklelaw09_ShapeTells.j0 k y0 y1 y2 y3 y4) (decklelaw09_ShapeTells.j0 (k + 1) y0 y1 y2 y3 y4))
  | 0 => fun _ _ _ _ _ r h => by simp [decklelaw09_ShapeTells.j0] at h
  | k + 1 => by
    have ih0 := decklelaw09_ShapeTells.mono_l k
    · intro y0 y1 y2 y3 y4
      unfold decklelaw09_ShapeTells.j0
      repeat' first
      | (with_reducible exact ih0 _ _ _ _ _)
      | (with_reducible exact decklelaw09_small.mono _)
      | (with_reducible exact deckleref01_Same.mono _ _ _)
      | (with_reducible exact deckleref09_Count.mono _ _)
      | (with_reducible exact deckleref09_Index.mono _ _ _)
      | (with_reducible exact deckleref09_Place.mono _ _ _)
      | (with_reducible exact shape_Count.mono _ _)
      | (with_reducible exact shape_Index.mono _ _ _)
      | (with_reducible exact shape_Place.mono _ _ _)
      | (with_reducible exact LeO.refl _)
      | (with_reducible exact LeO.none _)
      | (with_reducible refine LeO.ite ?_ ?_)
      | (with_reducible refine LeO.bind ?_ (fun _ => ?_))
      | exact ih0 _ _ _ _ _
      | exact decklelaw09_small.mono _
      | exact deckleref01_Same.mono _ _ _
      | exact deckleref09_Count.mono _ _
      | exact deckleref09_Index.mono _ _ _
      | exact deckleref09_Place.mono _ _ _
      | exact shape_Count.mono _ _
      | exact shape_Index.mono _ _ _
      | exact shape_Place.mono _ _ _
      | exact LeO.none _
      | refine LeO.ite ?_ ?_
      | refine LeO.bind ?_ (fun _ => ?_)
theorem decklelaw09_ShapeTells.mono : ∀ a0 a1 a2 k, LeO (decklelaw09_ShapeTells.f k a0 a1 a2) (decklelaw09_ShapeTells.f (k + 1) a0 a1 a2) := by
  intro a0 a1 a2 k
  have ih0 := decklelaw09_ShapeTells.mono_l k
  unfold decklelaw09_ShapeTells.f
  repeat' first
      | (with_reducible exact ih0 _ _ _ _ _)
      | (with_reducible exact decklelaw09_small.mono _)
      | (with_reducible exact deckleref01_Same.mono _ _ _)
      | (with_reducible exact deckleref09_Count.mono _ _)
      | (with_reducible exact deckleref09_Index.mono _ _ _)
      | (with_reducible exact deckleref09_Place.mono _ _ _)
      | (with_reducible exact shape_Count.mono _ _)
      | (with_reducible exact shape_Index.mono _ _ _)
      | (with_reducible exact shape_Place.mono _ _ _)
      | (with_reducible exact LeO.refl _)
      | (with_reducible exact LeO.none _)
      | (with_reducible refine LeO.ite ?_ ?_)
      | (with_reducible refine LeO.bind ?_ (fun _ => ?_))
      | exact ih0 _ _ _ _ _
      | exact decklelaw09_small.mono _
      | exact deckleref01_Same.mono _ _ _
      | exact deckleref09_Count.mono _ _
      | exact deckleref09_Index.mono _ _ _
      | exact deckleref09_Place.mono _ _ _
      | exact shape_Count.mono _ _
      | exact shape_Index.mono _ _ _
      | exact shape_Place.mono _ _ _
      | exact LeO.none _
      | refine LeO.ite ?_ ?_
      | refine LeO.bind ?_ (fun _ => ?_)
set_option maxHeartbeats 8000000 in
set_option maxRecDepth 100000 in
theorem decklelaw09_ShapeTells.calls (k : Nat) (A0 : Option Addr) (c0 : Nat) (l0 : List Int) (A1 : Option Addr) (c1 : Nat) (l1 : List Int) (a2 : Int) (r : Bool) (w : World) (hr0 : Kd.C (Kd.int .i64) w A0 l0.length l0) (hc0 : l0.length ≤ c0) (hr1 : Kd.C (Kd.int .i64) w A1 l1.length l1) (hc1 : l1.length ≤ c1) (h : decklelaw09_ShapeTells.f k l0 l1 a2 = some r) :
    Calls Try.prog 3 #[.slice A0 l0.length c0, .slice A1 l1.length c1, .int .i64 a2] w fun e w' => e = .returned (.bool r) ∧ Below w.heap.size w w' := by
  have HR0 := Aside0.mk hr0
  have HC0 := Aside0.mk hc0
  clear hr0 hc0
  have HR1 := Aside0.mk hr1
  have HC1 := Aside0.mk hc1
  clear hr1 hc1
  have HB := Aside0.mk (Below.refl w.heap.size w)
  have H : ((decklelaw09_small.f k).bind fun t214 => (if (l0.length : Int) > 50 then (decklelaw09_ShapeTells.j0 k l0 l1 a2 t214 true) else (decklelaw09_ShapeTells.j0 k l0 l1 a2 t214 (decide ((l1.length : Int) > 50))))) = some r := h
  clear h
  replace H := Option.bind_eq_some_iff.mp H
  obtain ⟨t214, A40, H⟩ := H
  replace H : (if (l0.length : Int) > 50 then (decklelaw09_ShapeTells.j0 k l0 l1 a2 t214 true) else (decklelaw09_ShapeTells.j0 k l0 l1 a2 t214 (decide ((l1.length : Int) > 50)))) = some r := H
  have A4 := Aside0.mk A40
  clear A40
  have HC5 := Aside0.mk H
  clear H
  go_enter Try.func3, Try.ntmps3
  go_upto_region 2 with (first | ((with_reducible refine gate_callee (f := 8) rfl ?_); refine goesL_ (some 20) rfl rfl Try.func8 (by kernel_rfl) rfl #[] rfl (by (try simp only [List.map_toArray, List.map_cons, List.map_nil]); first | done | rfl | (simp only [List.length_drop, List.length_take]; rfl)) ?_; (with_reducible refine (decklelaw09_small.calls k  t214 _ A4.out).mono ?_); rintro e w6 ⟨rfl, hb⟩; refine ⟨_, rfl, ?_⟩; have n0_ := Aside0.mk (below_step (by repeat (first | (with_reducible first | exact HB.out | apply below_alloc | apply pw_below_drewN | apply below_drew1) | exact HB.out)) hb); clear HB; have HB := n0_; clear n0_; (try clear hb); (try clear hb2); (try clear hk); (try clear hi)))
  (try simp only [Act.put, List.setIfInBounds_toArray, List.set_cons_zero, List.set_cons_succ])
  go_cut [28] (fun v28 wc => ∃ (kq : Nat) (x28_4 : Bool), v28 = .bool x28_4 ∧ Aside0 (decklelaw09_ShapeTells.j0 kq l0 l1 a2 t214 x28_4 = some r) ∧ Aside0 (kq ≤ k) ∧ Aside0 (Below w.heap.size w wc))
  case first =>
    have H := HC5.out
    clear HC5
    by_cases c7 : (l0.length : Int) > 50
    · rw [if_pos c7] at H
      have c7b0 : decide (50 < (l0.length : Int)) = true := decide_eq_true c7
      have c7b1 : decide (50 < l0.length) = true := decide_eq_true (by omega)
      clear c7
      (first | rw [c7b0] | (simp only [i64_w, i32_w]; rw [c7b0]) | skip)
      have H' := Aside0.mk H
      clear H
      go_wp2
      go_meet
      case rel => exact ⟨_, (true), (by first | rfl | (simp; done) | (simp [*]; done)), H', ⟨by first | omega | exact Nat.le_refl _⟩, ⟨by repeat (first | (with_reducible first | exact HB.out | apply below_alloc | apply pw_below_drewN | apply below_drew1) | exact HB.out)⟩⟩
    · rw [if_neg c7] at H
      have c7b0 : decide (50 < (l0.length : Int)) = false := decide_eq_false c7
      have c7b1 : decide (50 < l0.length) = false := decide_eq_false (by omega)
      clear c7
      (first | rw [c7b0] | (simp only [i64_w, i32_w]; rw [c7b0]) | skip)
      have H' := Aside0.mk H
      clear H
      go_wp2
      go_meet
      case rel => exact ⟨_, (decide ((l1.length : Int) > 50)), (by first | rfl | (simp; done) | (simp [*]; done)), H', ⟨by first | omega | exact Nat.le_refl _⟩, ⟨by repeat (first | (with_reducible first | exact HB.out | apply below_alloc | apply pw_below_drewN | apply below_drew1) | exact HB.out)⟩⟩
  case rest =>
    clear HC5
    try clear c1
    try clear p2
    try clear c3
    try clear c7
    try clear c7b0
    try clear c7b1
    obtain ⟨kq, x28_4, rfl, HA, HJ4, HB⟩ := hcut
    cases kq with
    | zero => exact absurd HA.out (by simp [decklelaw09_ShapeTells.j0])
    | succ kj4 =>
      have H := HA.out
      clear HA
      simp only [decklelaw09_ShapeTells.j0] at H
      by_cases c8 : x28_4 = true
      · subst c8
        have H1 : (some t214) = some r := by rw [if_pos rfl] at H; exact H
        clear H
        have H := H1
        clear H1
        obtain rfl := Option.some.inj H
        go_wp2
        go_ret
        exact ⟨by first | rfl | (simp [errW_none, errW_some] <;> rfl) | (simp [*, errW_none, errW_some] <;> rfl), by repeat (first | (with_reducible first | exact HB.out | apply below_alloc | apply pw_below_drewN | apply below_drew1) | exact HB.out)⟩
      · replace c8 := Bool.eq_false_iff.mpr c8
        subst c8
        have H1 : ((shape_Count.f kj4 l0).bind fun bt215 => ((deckleref09_Count.f kj4 l0).bind fun bt217 => ((shape_Place.f kj4 l0 l1).bind fun bt219 => ((deckleref09_Place.f kj4 l0 l1).bind fun bt221 => ((shape_Index.f kj4 l0 a2).bind fun bt223 => ((deckleref09_Index.f kj4 l0 a2).bind fun bt227 => (if t214 = true then (if bt215.1 = bt217.1 then (if (bt215.2 == bt217.2) = true then (if bt219.1 = bt221.1 then (if (bt219.2 == bt221.2) = true then ((deckleref01_Same.f kj4 bt223.1 bt227.1).bind fun t231 => (if t231 = true then (some (bt223.2 == bt227.2)) else (none))) else (none)) else (none)) else (none)) else (none)) else (none)))))))) = some r := by rw [if_neg (show ¬ (false = true) by decide)] at H; exact H
        clear H
        have H := H1
        clear H1
        replace H := Option.bind_eq_some_iff.mp H
        obtain ⟨⟨t215, t216⟩, A90, H⟩ := H
        replace H : ((deckleref09_Count.f kj4 l0).bind fun bt217 => ((shape_Place.f kj4 l0 l1).bind fun bt219 => ((deckleref09_Place.f kj4 l0 l1).bind fun bt221 => ((shape_Index.f kj4 l0 a2).bind fun bt223 => ((deckleref09_Index.f kj4 l0 a2).bind fun bt227 => (if t214 = true then (if t215 = bt217.1 then (if (t216 == bt217.2) = true then (if bt219.1 = bt221.1 then (if (bt219.2 == bt221.2) = true then ((deckleref01_Same.f kj4 bt223.1 bt227.1).bind fun t231 => (if t231 = true then (some (bt223.2 == bt227.2)) else (none))) else (none)) else (none)) else (none)) else (none)) else (none))))))) = some r := H
        have A9 := Aside0.mk A90
        clear A90
        replace H := Option.bind_eq_some_iff.mp H
        obtain ⟨⟨t217, t218⟩, A100, H⟩ := H
        replace H : ((shape_Place.f kj4 l0 l1).bind fun bt219 => ((deckleref09_Place.f kj4 l0 l1).bind fun bt221 => ((shape_Index.f kj4 l0 a2).bind fun bt223 => ((deckleref09_Index.f kj4 l0 a2).bind fun bt227 => (if t214 = true then (if t215 = t217 then (if (t216 == t218) = true then (if bt219.1 = bt221.1 then (if (bt219.2 == bt221.2) = true then ((deckleref01_Same.f kj4 bt223.1 bt227.1).bind fun t231 => (if t231 = true then (some (bt223.2 == bt227.2)) else (none))) else (none)) else (none)) else (none)) else (none)) else (none)))))) = some r := H
        have A10 := Aside0.mk A100
        clear A100
        replace H := Option.bind_eq_some_iff.mp H
        obtain ⟨⟨t219, t220⟩, A110, H⟩ := H
        replace H : ((deckleref09_Place.f kj4 l0 l1).bind fun bt221 => ((shape_Index.f kj4 l0 a2).bind fun bt223 => ((deckleref09_Index.f kj4 l0 a2).bind fun bt227 => (if t214 = true then (if t215 = t217 then (if (t216 == t218) = true then (if t219 = bt221.1 then (if (t220 == bt221.2) = true then ((deckleref01_Same.f kj4 bt223.1 bt227.1).bind fun t231 => (if t231 = true then (some (bt223.2 == bt227.2)) else (none))) else (none)) else (none)) else (none)) else (none)) else (none))))) = some r := H
        have A11 := Aside0.mk A110
        clear A110
        replace H := Option.bind_eq_some_iff.mp H
        obtain ⟨⟨t221, t222⟩, A120, H⟩ := H
        replace H : ((shape_Index.f kj4 l0 a2).bind fun bt223 => ((deckleref09_Index.f kj4 l0 a2).bind fun bt227 => (if t214 = true then (if t215 = t217 then (if (t216 == t218) = true then (if t219 = t221 then (if (t220 == t222) = true then ((deckleref01_Same.f kj4 bt223.1 bt227.1).bind fun t231 => (if t231 = true then (some (bt223.2 == bt227.2)) else (none))) else (none)) else (none)) else (none)) else (none)) else (none)))) = some r := H
        have A12 := Aside0.mk A120
        clear A120
        replace H := Option.bind_eq_some_iff.mp H
        obtain ⟨⟨t223, t224⟩, A130, H⟩ := H
        replace H : ((deckleref09_Index.f kj4 l0 a2).bind fun bt227 => (if t214 = true then (if t215 = t217 then (if (t216 == t218) = true then (if t219 = t221 then (if (t220 == t222) = true then ((deckleref01_Same.f kj4 t223 bt227.1).bind fun t231 => (if t231 = true then (some (t224 == bt227.2)) else (none))) else (none)) else (none)) else (none)) else (none)) else (none))) = some r := H
        have A13 := Aside0.mk A130
        clear A130
        replace H := Option.bind_eq_some_iff.mp H
        obtain ⟨⟨t227, t228⟩, A140, H⟩ := H
        replace H : (if t214 = true then (if t215 = t217 then (if (t216 == t218) = true then (if t219 = t221 then (if (t220 == t222) = true then ((deckleref01_Same.f kj4 t223 t227).bind fun t231 => (if t231 = true then (some (t224 == t228)) else (none))) else (none)) else (none)) else (none)) else (none)) else (none)) = some r := H
        have A14 := Aside0.mk A140
        clear A140
        by_cases c15 : t214 = true
        · subst c15
          have H1 : (if t215 = t217 then (if (t216 == t218) = true then (if t219 = t221 then (if (t220 == t222) = true then ((deckleref01_Same.f kj4 t223 t227).bind fun t231 => (if t231 = true then (some (t224 == t228)) else (none))) else (none)) else (none)) else (none)) else (none)) = some r := by rw [if_pos rfl] at H; exact H
          clear H
          have H := H1
          clear H1
          by_cases c16 : t215 = t217
          · rw [if_pos c16] at H
            have c16b0 : (t215 == t217) = true := beq_iff_eq.mpr c16
            have c16b1 : (t215 != t217) = false := bne_eq_false_iff_eq.mpr c16
            clear c16
            by_cases c17 : (t216 == t218) = true
            · rw [if_pos c17] at H
              have c17b0 : (t216 == t218) = true := c17
              (try (have c17b1 : decide (t216 = t218) = true := by simpa using c17))
              (try (have c17b2 : (t216 == t218) = true := by simpa using c17))
              clear c17
              by_cases c18 : t219 = t221
              · rw [if_pos c18] at H
                have c18b0 : (t219 == t221) = true := beq_iff_eq.mpr c18
                have c18b1 : (t219 != t221) = false := bne_eq_false_iff_eq.mpr c18
                clear c18
                by_cases c19 : (t220 == t222) = true
                · rw [if_pos c19] at H
                  have c19b0 : (t220 == t222) = true := c19
                  (try (have c19b1 : decide (t220 = t222) = true := by simpa using c19))
                  (try (have c19b2 : (t220 == t222) = true := by simpa using c19))
                  clear c19
                  replace H := Option.bind_eq_some_iff.mp H
                  obtain ⟨t231, A200, H⟩ := H
                  replace H : (if t231 = true then (some (t224 == t228)) else (none)) = some r := H
                  have A20 := Aside0.mk A200
                  clear A200
                  by_cases c21 : t231 = true
                  · subst c21
                    have H1 : (some (t224 == t228)) = some r := by rw [if_pos rfl] at H; exact H
                    clear H
                    have H := H1
                    clear H1
                    obtain rfl := Option.some.inj H
                    go_wp2_with (first | ((with_reducible refine gate_callee (f := 9) rfl ?_); refine goesL_ (some 32) rfl rfl Try.func9 (by kernel_rfl) rfl #[.slice A0 l0.length c0] rfl (by (try simp only [List.map_toArray, List.map_cons, List.map_nil]); first | done | rfl | (simp only [List.length_drop, List.length_take]; rfl)) ?_; (with_reducible refine (shape_Count.calls kj4 _ _ l0 t215 t216 _ ?side1 ?side2 A9.out).mono ?_); (case side1 => repeat (first | exact (Kd.C_below HR0.out HB.out) | (with_reducible refine Kd.C_alloc ?_ _) | (with_reducible refine Kd.C_drewN ?_ _) | (with_reducible refine Kd.C_drew ?_))); (case side2 => exact HC0.out); rintro e w' ⟨rfl, ⟨nd, rfl⟩⟩; refine ⟨_, rfl, ?_⟩) | ((with_reducible refine gate_callee (f := 10) rfl ?_); refine goesL_ (some 37) rfl rfl Try.func10 (by kernel_rfl) rfl #[.slice A0 l0.length c0] rfl (by (try simp only [List.map_toArray, List.map_cons, List.map_nil]); first | done | rfl | (simp only [List.length_drop, List.length_take]; rfl)) ?_; (with_reducible refine (deckleref09_Count.calls kj4 _ _ l0 t217 t218 _ ?side1 ?side2 A10.out).mono ?_); (case side1 => repeat (first | exact (Kd.C_below HR0.out (by repeat (first | (with_reducible first | exact HB.out | apply below_alloc | apply pw_below_drewN | apply below_drew1) | exact HB.out))) | (with_reducible refine Kd.C_alloc ?_ _) | (with_reducible refine Kd.C_drewN ?_ _) | (with_reducible refine Kd.C_drew ?_))); (case side2 => exact HC0.out); rintro e w' ⟨rfl, ⟨nd, rfl⟩⟩; refine ⟨_, rfl, ?_⟩) | ((with_reducible refine gate_callee (f := 11) rfl ?_); refine goesL_ (some 43) rfl rfl Try.func11 (by kernel_rfl) rfl #[.slice A0 l0.length c0, .slice A1 l1.length c1] rfl (by (try simp only [List.map_toArray, List.map_cons, List.map_nil]); first | done | rfl | (simp only [List.length_drop, List.length_take]; rfl)) ?_; (with_reducible refine (shape_Place.calls kj4 _ _ l0 _ _ l1 t219 t220 _ ?side1 ?side2 ?side3 ?side4 A11.out).mono ?_); (case side1 => repeat (first | exact (Kd.C_below HR0.out (by repeat (first | (with_reducible first | exact HB.out | apply below_alloc | apply pw_below_drewN | apply below_drew1) | exact HB.out))) | (with_reducible refine Kd.C_alloc ?_ _) | (with_reducible refine Kd.C_drewN ?_ _) | (with_reducible refine Kd.C_drew ?_))); (case side2 => exact HC0.out); (case side3 => repeat (first | exact (Kd.C_below HR1.out (by repeat (first | (with_reducible first | exact HB.out | apply below_alloc | apply pw_below_drewN | apply below_drew1) | exact HB.out))) | (with_reducible refine Kd.C_alloc ?_ _) | (with_reducible refine Kd.C_drewN ?_ _) | (with_reducible refine Kd.C_drew ?_))); (case side4 => exact HC1.out); rintro e w' ⟨rfl, ⟨nd, rfl⟩⟩; refine ⟨_, rfl, ?_⟩) | ((with_reducible refine gate_callee (f := 12) rfl ?_); refine goesL_ (some 49) rfl rfl Try.func12 (by kernel_rfl) rfl #[.slice A0 l0.length c0, .slice A1 l1.length c1] rfl (by (try simp only [List.map_toArray, List.map_cons, List.map_nil]); first | done | rfl | (simp only [List.length_drop, List.length_take]; rfl)) ?_; (with_reducible refine (deckleref09_Place.calls kj4 _ _ l0 _ _ l1 t221 t222 _ ?side1 ?side2 ?side3 ?side4 A12.out).mono ?_); (case side1 => repeat (first | exact (Kd.C_below HR0.out (by repeat (first | (with_reducible first | exact HB.out | apply below_alloc | apply pw_below_drewN | apply below_drew1) | exact HB.out))) | (with_reducible refine Kd.C_alloc ?_ _) | (with_reducible refine Kd.C_drewN ?_ _) | (with_reducible refine Kd.C_drew ?_))); (case side2 => exact HC0.out); (case side3 => repeat (first | exact (Kd.C_below HR1.out (by repeat (first | (with_reducible first | exact HB.out | apply below_alloc | apply pw_below_drewN | apply below_drew1) | exact HB.out))) | (with_reducible refine Kd.C_alloc ?_ _) | (with_reducible refine Kd.C_drewN ?_ _) | (with_reducible refine Kd.C_drew ?_))); (case side4 => exact HC1.out); rintro e w' ⟨rfl, ⟨nd, rfl⟩⟩; refine ⟨_, rfl, ?_⟩) | ((with_reducible refine gate_callee (f := 13) rfl ?_); refine goesL_ (some 55) rfl rfl Try.func13 (by kernel_rfl) rfl #[.slice A0 l0.length c0, .int .i64 a2] rfl (by (try simp only [List.map_toArray, List.map_cons, List.map_nil]); first | done | rfl | (simp only [List.length_drop, List.length_take]; rfl)) ?_; (with_reducible refine (shape_Index.calls kj4 _ _ l0 a2 t223 t224 _ ?side1 ?side2 A13.out).mono ?_); (case side1 => repeat (first | exact (Kd.C_below HR0.out (by repeat (first | (with_reducible first | exact HB.out | apply below_alloc | apply pw_below_drewN | apply below_drew1) | exact HB.out))) | (with_reducible refine Kd.C_alloc ?_ _) | (with_reducible refine Kd.C_drewN ?_ _) | (with_reducible refine Kd.C_drew ?_))); (case side2 => exact HC0.out); rintro e w22 ⟨v225, rfl, ho0, hb⟩; refine ⟨_, rfl, ?_⟩; have n0_ := Aside0.mk (Kd.R_lower ho0 (below_size (by repeat (first | (with_reducible first | exact HB.out | apply below_alloc | apply pw_below_drewN | apply below_drew1) | exact HB.out)))); have n1_ := Aside0.mk (below_step (by repeat (first | (with_reducible first | exact HB.out | apply below_alloc | apply pw_below_drewN | apply below_drew1) | exact HB.out)) hb); clear HB; have HO226 := n0_; have HB := n1_; clear n0_ n1_; (try clear hb); (try clear hb2); (try clear hk); (try clear hi); (try clear ho0)) | ((with_reducible refine gate_callee (f := 14) rfl ?_); refine goesL_ (some 61) rfl rfl Try.func14 (by kernel_rfl) rfl #[.slice A0 l0.length c0, .int .i64 a2] rfl (by (try simp only [List.map_toArray, List.map_cons, List.map_nil]); first | done | rfl | (simp only [List.length_drop, List.length_take]; rfl)) ?_; (with_reducible refine (deckleref09_Index.calls kj4 _ _ l0 a2 t227 t228 _ ?side1 ?side2 A14.out).mono ?_); (case side1 => repeat (first | exact (Kd.C_below HR0.out HB.out) | (with_reducible refine Kd.C_alloc ?_ _) | (with_reducible refine Kd.C_drewN ?_ _) | (with_reducible refine Kd.C_drew ?_))); (case side2 => exact HC0.out); rintro e w23 ⟨v229, rfl, ho0, hb⟩; refine ⟨_, rfl, ?_⟩; have n0_ := Aside0.mk (Kd.R_elder' (by (with_reducible repeat (first | apply Kd.R_alloc | apply Kd.R_drewN | apply Kd.R_drew)); exact HO226.out) (Kd.R_base ho0) hb); have n1_ := Aside0.mk (Kd.R_lower (Kd.R_new' ho0 (Kd.R_lt (by (with_reducible repeat (first | apply Kd.R_alloc | apply Kd.R_drewN | apply Kd.R_drew)); exact HO226.out))) (below_size (by repeat (first | (with_reducible first | exact HB.out | apply below_alloc | apply pw_below_drewN | apply below_drew1) | exact HB.out)))); have n2_ := Aside0.mk (below_step (by repeat (first | (with_reducible first | exact HB.out | apply below_alloc | apply pw_below_drewN | apply below_drew1) | exact HB.out)) hb); clear HO226; clear HB; have HO226 := n0_; have HO230 := n1_; have HB := n2_; clear n0_ n1_ n2_; (try clear hb); (try clear hb2); (try clear hk); (try clear hi); (try clear ho0); obtain ⟨Ao24, co24, eo24⟩ := Kd.R_slice HO226.out; subst eo24; obtain ⟨Ao25, co25, eo25⟩ := Kd.R_slice HO230.out; subst eo25) | (go_at_call 15; (with_reducible refine (deckleref01_Same.calls kj4 _ _ t223 _ _ t227 true _ ?side1 ?side2 ?side3 ?side4 A20.out).mono ?_); (case side1 => repeat (first | exact (Kd.R_reads' HO226.out).2.2 | (with_reducible refine Kd.C_alloc ?_ _) | (with_reducible refine Kd.C_drewN ?_ _) | (with_reducible refine Kd.C_drew ?_))); (case side2 => exact (Kd.R_reads' HO226.out).2.1); (case side3 => repeat (first | exact (Kd.R_reads' HO230.out).2.2 | (with_reducible refine Kd.C_alloc ?_ _) | (with_reducible refine Kd.C_drewN ?_ _) | (with_reducible refine Kd.C_drew ?_))); (case side4 => exact (Kd.R_reads' HO230.out).2.1); rintro e w' ⟨rfl, ⟨nd, rfl⟩⟩))
                    go_ret
                    exact ⟨by first | rfl | (simp [errW_none, errW_some] <;> rfl) | (simp [*, errW_none, errW_some] <;> rfl), by repeat (first | (with_reducible first | exact HB.out | apply below_alloc | apply pw_below_drewN | apply below_drew1) | exact HB.out)⟩
                  · replace c21 := Bool.eq_false_iff.mpr c21
                    subst c21
                    have H1 : (none) = some r := by rw [if_neg (show ¬ (false = true) by decide)] at H; exact H
                    clear H
                    have H := H1
                    clear H1
                    exact absurd H (by simp)
                · rw [if_neg c19] at H
                  exact absurd H (by simp)
              · rw [if_neg c18] at H
                exact absurd H (by simp)
            · rw [if_neg c17] at H
              exact absurd H (by simp)
          · rw [if_neg c16] at H
            exact absurd H (by simp)
        · replace c15 := Bool.eq_false_iff.mpr c15
          subst c15
          have H1 : (none) = some r := by rw [if_neg (show ¬ (false = true) by decide)] at H; exact H
          clear H
          have H := H1
          clear H1
          exact absurd H (by simp)

/-- THE ONE PURE STATEMENT of decklelaw09_ShapeTells: yours. -/
def decklelaw09_ShapeTells.Pure : Prop := ∀ (l0 : List Int) (l1 : List Int) (a2 : Int), l0.length ≤ maxLen → l0.length * 8 ≤ 140737488351232 → (∀ x ∈ l0, (Lit.int .i64 x).wf = true) → l1.length ≤ maxLen → l1.length * 8 ≤ 140737488351232 → (∀ x ∈ l1, (Lit.int .i64 x).wf = true) → (Lit.int .i64 a2).wf = true → ∃ k, decklelaw09_ShapeTells.f k l0 l1 a2 = some true
theorem decklelaw09_ShapeTells.walk (P : decklelaw09_ShapeTells.Pure) (a0 : Option Addr) (len0 cap0 : Nat) (z0 : List Int) (a1 : Option Addr) (len1 cap1 : Nat) (z1 : List Int) (a2 : Int) (w : World) (w0 : (a0 = none ∧ len0 = 0 ∧ cap0 = 0 ∧ z0 = []) ∨ ∃ x, a0 = some x ∧ len0 ≤ cap0 ∧ cap0 ≤ maxLen ∧ z0.length = cap0 ∧ (∀ i, i < z0.length → w.cell? (x.add i) = some (.int .i64 (z0.getD i 0))) ∧ ∀ n ∈ z0, (Lit.int .i64 n).wf = true) (y0 : len0 * 8 ≤ 140737488351232) (w1 : (a1 = none ∧ len1 = 0 ∧ cap1 = 0 ∧ z1 = []) ∨ ∃ x, a1 = some x ∧ len1 ≤ cap1 ∧ cap1 ≤ maxLen ∧ z1.length = cap1 ∧ (∀ i, i < z1.length → w.cell? (x.add i) = some (.int .i64 (z1.getD i 0))) ∧ ∀ n ∈ z1, (Lit.int .i64 n).wf = true) (y1 : len1 * 8 ≤ 140737488351232) (w2 : (Lit.int .i64 a2).wf = true) :
    Calls Try.prog 3 #[.slice a0 len0 cap0, .slice a1 len1 cap1, .int .i64 a2] w fun e w' => e = .returned (.bool true) ∧ Below w.heap.size w w' := by
  obtain ⟨l0, rfl, hr0, hm0, hw0, hc0⟩ := ReadsInt.ofRowC w0
  obtain ⟨l1, rfl, hr1, hm1, hw1, hc1⟩ := ReadsInt.ofRowC w1
  obtain ⟨k, h⟩ := P l0 l1 a2 hm0 y0 hw0 hm1 y1 hw1 w2
  refine (decklelaw09_ShapeTells.calls k _ _ l0 _ _ l1 a2 true w (Kd.C_of_reads (d := (0 : Int)) (h1 := fun _ => rfl) hr0) hc0 (Kd.C_of_reads (d := (0 : Int)) (h1 := fun _ => rfl) hr1) hc1 h).mono ?_
  rintro e w' ⟨rfl, hd⟩
  exact ⟨rfl, hd⟩

end Go.Proofs.Ytngpdacbmkfbcaa.HShapeTells
