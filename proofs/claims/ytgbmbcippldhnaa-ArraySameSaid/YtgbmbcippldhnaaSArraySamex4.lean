/- What the Go functions of this claim answer, told as functions of numbers and lists, and that other memory stays as it was: words and walks, shortened by a program. -/
import Derived.Test.YtgbmbcippldhnaaSArraySamex0
import Derived.Test.YtgbmbcippldhnaaSArraySamex1
import Derived.Test.YtgbmbcippldhnaaSArraySamex2
import Derived.Test.YtgbmbcippldhnaaSArraySamex3
namespace Go.Proofs.Ytgbmbcippldhnaa.HArraySame
open Go.RowKit Go.Proofs.YtgbmbcippldhnaaW.PrintWords Go.Proofs.YtgbmbcippldhnaaW.PrintLast Go.Proofs.YtgbmbcippldhnaaW.PrintMore
attribute [local go_sem] max2_int min2_int max_two min_two max_three min_three max_four min_four
set_option linter.unusedVariables false
set_option linter.unusedSimpArgs false
attribute [local go_sem high] eqA41
def decimal_Right.f (k : Nat) (a0_0 : Int) (a0_1 : Int) : Option (Bool) := (decimal_Norm.f k a0_0 a0_1).bind fun bt135 => (if bt135.2.2 = true then (some (bt135.1 == a0_0 && (bt135.2.1 == a0_1))) else (some false))
theorem decimal_Right.mono : ∀ a0 a1 k, LeO (decimal_Right.f k a0 a1) (decimal_Right.f (k + 1) a0 a1) := by
  intro a0 a1 k
  unfold decimal_Right.f
  repeat' first
      | (with_reducible exact decimal_Norm.mono _ _ _)
      | (with_reducible exact LeO.refl _)
      | (with_reducible exact LeO.none _)
      | (with_reducible refine LeO.ite ?_ ?_)
      | (with_reducible refine LeO.bind ?_ (fun _ => ?_))
      | exact decimal_Norm.mono _ _ _
      | exact LeO.none _
      | refine LeO.ite ?_ ?_
      | refine LeO.bind ?_ (fun _ => ?_)
set_option maxHeartbeats 8000000 in
set_option maxRecDepth 100000 in
theorem decimal_Right.calls (k : Nat) (a0_0 : Int) (a0_1 : Int) (r : Bool) (w : World) (h : decimal_Right.f k a0_0 a0_1 = some r) :
    Calls Try.prog 56 #[.agg #[.int .i64 a0_0, .int .i64 a0_1]] w fun e w' => e = .returned (.bool r) ∧ Below w.heap.size w w' := by
  have hu41 := Try.underlying41
  have HB := Aside0.mk (Below.refl w.heap.size w)
  have H : ((decimal_Norm.f k a0_0 a0_1).bind fun bt135 => (if bt135.2.2 = true then (some (bt135.1 == a0_0 && (bt135.2.1 == a0_1))) else (some false))) = some r := h
  clear h
  replace H := Option.bind_eq_some_iff.mp H
  obtain ⟨⟨t135, t136, t137⟩, A20, H⟩ := H
  replace H : (if t137 = true then (some (t135 == a0_0 && (t136 == a0_1))) else (some false)) = some r := H
  have A2 := Aside0.mk A20
  clear A20
  by_cases c3 : t137 = true
  · subst c3
    have H1 : (some (t135 == a0_0 && (t136 == a0_1))) = some r := J14
    clear H
    have H := H1
    clear H1
    obtain rfl := Option.some.inj H
    go_enter Try.func56, Try.ntmps56
    go_wp2_with (first | ((with_reducible refine gate_dst (N := 1) rfl ?_); refine box_event ?hg (N := 1) ?hd (cs := #[.int .i64 a0_0, .int .i64 a0_1]) (t := 41) ?hr ?_; (case hd => rfl); (case hg => rfl); (case hr => first | (go_simp; done) | (go_simp; rfl)); intro gb134 hg w4 hbox hb; have n0_ := Aside0.mk (below_step J0 hb); have n1_ := Aside0.mk (hbox); have n2_ := Aside0.mk ((J18 : w.heap.size ≤ gb134)); have n3_ := Aside0.mk ((J18 : w.heap.size ≤ gb134)); clear HB; have HB := n0_; have BK134 := n1_; have GW134 := n2_; have GE134 := n3_; clear n0_ n1_ n2_ n3_; clear hb hbox hg; have hcz5_0 : w4.cell? ⟨gb134, 0, none⟩ = some (.int .i64 a0_0) := (blk_cell BK134.out 0).trans rfl; have hcz5_1 : w4.cell? ⟨gb134, 1, none⟩ = some (.int .i64 a0_1) := (blk_cell BK134.out 1).trans rfl; have hfz5_0 := blk_frozen BK134.out 0; have hfz5_1 := blk_frozen BK134.out 1) | ((with_reducible refine gate_callee (f := 59) rfl ?_); refine goesL_ (some 7) rfl rfl Try.func59 J8 rfl #[.agg #[.int .i64 a0_0, .int .i64 a0_1]] rfl J1 ?_; (with_reducible refine (decimal_Norm.calls k a0_0 a0_1 t135 t136 true _ A2.out).mono ?_); rintro e w6 ⟨rfl, hb⟩; refine ⟨_, rfl, ?_⟩; have n0_ := Aside0.mk (blk_below (g := gb134) (o := .cells #[.int .i64 a0_0, .int .i64 a0_1] 41 (0, 0)) (zk BK134.out) hb); have n1_ := Aside0.mk (below_step (zs1 GE134.out) hb); clear BK134; clear HB; have BK134 := n0_; have HB := n1_; clear n0_ n1_; (try clear hb); (try clear hb2); (try clear hk); (try clear hi)) | ((with_reducible refine gate_dst (N := 3) rfl ?_); refine box_event ?hg (N := 3) ?hd (cs := #[.int .i64 0, .int .i64 0]) (t := 41) ?hr ?_; (case hd => rfl); (case hg => rfl); (case hr => first | (go_simp; done) | (go_simp; rfl)); intro gb138 hg w7 hbox hb; have n0_ := Aside0.mk (blk_below (g := gb134) (o := .cells #[.int .i64 a0_0, .int .i64 a0_1] 41 (0, 0)) (zk BK134.out) hb); have n1_ := Aside0.mk (below_step (zs1 GE134.out) hb); have n2_ := Aside0.mk (hbox); have n3_ := Aside0.mk ((J63 : w.heap.size ≤ gb138)); have n4_ := Aside0.mk ((J63 : w.heap.size ≤ gb138)); have n5_ := Aside0.mk ((J67 : gb134 ≠ gb138)); have n6_ := Aside0.mk ((J68 : gb138 ≠ gb134)); clear BK134; clear HB; have BK134 := n0_; have HB := n1_; have BK138 := n2_; have GW138 := n3_; have GE138 := n4_; have NB134_138 := n5_; have NB138_134 := n6_; clear n0_ n1_ n2_ n3_ n4_ n5_ n6_; clear hb hbox hg; have hnb8 := NB138_134.out; have hnc8 := NB134_138.out; have hcz9_0 : w7.cell? ⟨gb138, 0, none⟩ = some (.int .i64 0) := (blk_cell BK138.out 0).trans rfl; have hcz9_1 : w7.cell? ⟨gb138, 1, none⟩ = some (.int .i64 0) := (blk_cell BK138.out 1).trans rfl; have hfz9_0 := blk_frozen BK138.out 0; have hfz9_1 := blk_frozen BK138.out 1; have hcz10_0 : w7.cell? ⟨gb134, 0, none⟩ = some (.int .i64 a0_0) := (blk_cell BK134.out 0).trans rfl; have hcz10_1 : w7.cell? ⟨gb134, 1, none⟩ = some (.int .i64 a0_1) := (blk_cell BK134.out 1).trans rfl; have hfz10_0 := blk_frozen BK134.out 0; have hfz10_1 := blk_frozen BK134.out 1))
    go_ret
    exact ⟨J4, J48⟩
  replace c3 := Bool.eq_false_iff.mpr c3
  subst c3
  have H1 : (some false) = some r := J7
  clear H
  have H := H1
  clear H1
  obtain rfl := Option.some.inj H
  go_enter Try.func56, Try.ntmps56
  go_wp2_with (first | ((with_reducible refine gate_dst (N := 1) rfl ?_); refine box_event ?hg (N := 1) ?hd (cs := #[.int .i64 a0_0, .int .i64 a0_1]) (t := 41) ?hr ?_; (case hd => rfl); (case hg => rfl); (case hr => first | (go_simp; done) | (go_simp; rfl)); intro gb134 hg w11 hbox hb; have n0_ := Aside0.mk (below_step J0 hb); have n1_ := Aside0.mk (hbox); have n2_ := Aside0.mk ((J18 : w.heap.size ≤ gb134)); have n3_ := Aside0.mk ((J18 : w.heap.size ≤ gb134)); clear HB; have HB := n0_; have BK134 := n1_; have GW134 := n2_; have GE134 := n3_; clear n0_ n1_ n2_ n3_; clear hb hbox hg; have hcz12_0 : w11.cell? ⟨gb134, 0, none⟩ = some (.int .i64 a0_0) := (blk_cell BK134.out 0).trans rfl; have hcz12_1 : w11.cell? ⟨gb134, 1, none⟩ = some (.int .i64 a0_1) := (blk_cell BK134.out 1).trans rfl; have hfz12_0 := blk_frozen BK134.out 0; have hfz12_1 := blk_frozen BK134.out 1) | ((with_reducible refine gate_callee (f := 59) rfl ?_); refine goesL_ (some 7) rfl rfl Try.func59 J8 rfl #[.agg #[.int .i64 a0_0, .int .i64 a0_1]] rfl J1 ?_; (with_reducible refine (decimal_Norm.calls k a0_0 a0_1 t135 t136 false _ A2.out).mono ?_); rintro e w13 ⟨rfl, hb⟩; refine ⟨_, rfl, ?_⟩; have n0_ := Aside0.mk (blk_below (g := gb134) (o := .cells #[.int .i64 a0_0, .int .i64 a0_1] 41 (0, 0)) (zk BK134.out) hb); have n1_ := Aside0.mk (below_step (zs1 GE134.out) hb); clear BK134; clear HB; have BK134 := n0_; have HB := n1_; clear n0_ n1_; (try clear hb); (try clear hb2); (try clear hk); (try clear hi)) | ((with_reducible refine gate_dst (N := 3) rfl ?_); refine box_event ?hg (N := 3) ?hd (cs := #[.int .i64 0, .int .i64 0]) (t := 41) ?hr ?_; (case hd => rfl); (case hg => rfl); (case hr => first | (go_simp; done) | (go_simp; rfl)); intro gb138 hg w14 hbox hb; have n0_ := Aside0.mk (blk_below (g := gb134) (o := .cells #[.int .i64 a0_0, .int .i64 a0_1] 41 (0, 0)) (zk BK134.out) hb); have n1_ := Aside0.mk (below_step (zs1 GE134.out) hb); have n2_ := Aside0.mk (hbox); have n3_ := Aside0.mk ((J63 : w.heap.size ≤ gb138)); have n4_ := Aside0.mk ((J63 : w.heap.size ≤ gb138)); have n5_ := Aside0.mk ((J67 : gb134 ≠ gb138)); have n6_ := Aside0.mk ((J68 : gb138 ≠ gb134)); clear BK134; clear HB; have BK134 := n0_; have HB := n1_; have BK138 := n2_; have GW138 := n3_; have GE138 := n4_; have NB134_138 := n5_; have NB138_134 := n6_; clear n0_ n1_ n2_ n3_ n4_ n5_ n6_; clear hb hbox hg; have hnb15 := NB138_134.out; have hnc15 := NB134_138.out; have hcz16_0 : w14.cell? ⟨gb138, 0, none⟩ = some (.int .i64 0) := (blk_cell BK138.out 0).trans rfl; have hcz16_1 : w14.cell? ⟨gb138, 1, none⟩ = some (.int .i64 0) := (blk_cell BK138.out 1).trans rfl; have hfz16_0 := blk_frozen BK138.out 0; have hfz16_1 := blk_frozen BK138.out 1))
  go_ret
  exact ⟨J4, J48⟩
def api_Dec_55.l0 : Nat → List (S41) → Int → Int → Option (Bool)
  | 0, _, _, _ => none
  | k + 1, x7, x8, x9 => if x9 < x8 then (if 0 ≤ x9 then (if x9 < (x7.length : Int) then ((decimal_Right.f k ((rd_T41 x7 x9).f0) ((rd_T41 x7 x9).f1)).bind fun t141 => (if t141 = true then (api_Dec_55.l0 k x7 x8 (wrap64 (x9 + 1))) else (some true))) else (none)) else (none)) else (some false)
def api_Dec_55.f (k : Nat) (l0 : List (S41)) : Option (Bool) := api_Dec_55.l0 k l0 (l0.length : Int) 0
theorem api_Dec_55.mono_l : ∀ k, (∀ y0 y1 y2, LeO (api_Dec_55.l0 k y0 y1 y2) (api_Dec_55.l0 (k + 1) y0 y1 y2))
  | 0 => fun _ _ _ r h => by simp [api_Dec_55.l0] at h
  | k + 1 => by
    have ih0 := api_Dec_55.mono_l k
    · intro y0 y1 y2
      unfold api_Dec_55.l0
      repeat' first
      | (with_reducible exact ih0 _ _ _)
      | (with_reducible exact decimal_Right.mono _ _ _)
      | (with_reducible exact LeO.refl _)
      | (with_reducible exact LeO.none _)
      | (with_reducible refine LeO.ite ?_ ?_)
      | (with_reducible refine LeO.bind ?_ (fun _ => ?_))
      | exact ih0 _ _ _
      | exact decimal_Right.mono _ _ _
      | exact LeO.none _
      | refine LeO.ite ?_ ?_
      | refine LeO.bind ?_ (fun _ => ?_)
theorem api_Dec_55.mono : ∀ a0 k, LeO (api_Dec_55.f k a0) (api_Dec_55.f (k + 1) a0) := by
  intro a0 k
  have ih0 := api_Dec_55.mono_l k
  unfold api_Dec_55.f
  repeat' first
      | (with_reducible exact ih0 _ _ _)
      | (with_reducible exact decimal_Right.mono _ _ _)
      | (with_reducible exact LeO.refl _)
      | (with_reducible exact LeO.none _)
      | (with_reducible refine LeO.ite ?_ ?_)
      | (with_reducible refine LeO.bind ?_ (fun _ => ?_))
      | exact ih0 _ _ _
      | exact decimal_Right.mono _ _ _
      | exact LeO.none _
      | refine LeO.ite ?_ ?_
      | refine LeO.bind ?_ (fun _ => ?_)
set_option maxHeartbeats 8000000 in
set_option maxRecDepth 100000 in
theorem api_Dec_55.calls (k : Nat) (A0 : Option Addr) (c0 : Nat) (l0 : List (S41)) (r : Bool) (w : World) (hr0 : Kd.C k41 w A0 l0.length l0) (hc0 : l0.length ≤ c0) (h : api_Dec_55.f k l0 = some r) :
    Calls Try.prog 55 #[.slice A0 l0.length c0, .func (.func 56) #[] #[]] w fun e w' => e = .returned (.bool r) ∧ Below w.heap.size w w' := by
  have hu41 := Try.underlying41
  have HR0 := Aside0.mk hr0
  have HC0 := Aside0.mk hc0
  clear hr0 hc0
  have HB := Aside0.mk (Below.refl w.heap.size w)
  have H : (api_Dec_55.l0 k l0 (l0.length : Int) 0) = some r := h
  clear h
  have H' := Aside0.mk H
  clear H
  go_enter Try.func55, Try.ntmps55
  go_wp2
  go_loopg [9] k (fun kq v9 w' => ∃ (x9_1 : Int), v9 = .int .i64 x9_1 ∧ Aside0 (api_Dec_55.l0 kq l0 (l0.length : Int) x9_1 = some r) ∧ Aside0 (kq ≤ k) ∧ Aside0 (Below w.heap.size w w'))
  case atStart => exact ⟨(0), J5, H', ⟨Nat.le_refl _⟩, ⟨J0⟩⟩
  case round =>
    clear H'
    obtain ⟨x9_1, rfl, HA, HK1, HB⟩ := hrel
    cases gk with
    | zero => exact absurd HA.out (by simp [api_Dec_55.l0])
    | succ k1 =>
      have H := HA.out
      clear HA
      simp only [api_Dec_55.l0] at H
      by_cases c2 : x9_1 < (l0.length : Int)
      rotate_left
      · rw [if_neg c2] at H
        have c2b0 := decide_eq_false c2
        clear c2
        obtain rfl := Option.some.inj H
        go_wp2
        go_ret
        exact ⟨J4, J0⟩
      rw [if_pos c2] at H
      have c2b0 := decide_eq_true c2
      clear c2
      by_cases c3 : 0 ≤ x9_1
      rotate_left
      · rw [if_neg c3] at H
        exact absurd H J21
      rw [if_pos c3] at H
      have c3b0 := decide_eq_true c3
      clear c3
      by_cases c4 : x9_1 < (l0.length : Int)
      rotate_left
      · rw [if_neg c4] at H
        exact absurd H J21
      rw [if_pos c4] at H
      have c4b0 := decide_eq_true c4
      clear c4
      replace H := Option.bind_eq_some_iff.mp H
      obtain ⟨t141, A50, H⟩ := H
      have A5 := Aside0.mk A50
      clear A50
      by_cases c6 : t141 = true
      rotate_left
      · replace c6 := Bool.eq_false_iff.mpr c6
        subst c6
        have H1 : (some true) = some r := J7
        clear H
        have H := H1
        clear H1
        obtain rfl := Option.some.inj H
        have p139 : 0 ≤ (x9_1 : Int) := of_decide_eq_true J2
        have q139 : x9_1 < (l0.length : Int) := of_decide_eq_true J2
        obtain ⟨ad139, e139, hx139_0, hx139_1⟩ := at_T41 HR0.out x9_1 p139 q139
        cases e139
        replace hx139_0 := (HB.out.cell (World.block_lt_of_cell? w _ hx139_0)).trans hx139_0
        replace hx139_1 := (HB.out.cell (World.block_lt_of_cell? w _ hx139_1)).trans hx139_1
        replace p139 := eq_true p139
        replace q139 := eq_true q139
        go_wp2_with (first | ((with_reducible refine gate_dst (N := 6) rfl ?_); refine box_event ?hg (N := 6) ?hd (cs := #[.int .i64 0, .int .i64 0]) (t := 41) ?hr ?_; (case hd => rfl); (case hg => rfl); (case hr => first | (go_simp; done) | (go_simp; rfl)); intro gb140 hg w10 hbox hb; have n0_ := Aside0.mk (below_step J0 hb); have n1_ := Aside0.mk (hbox); have n2_ := Aside0.mk ((J18 : w.heap.size ≤ gb140)); have n3_ := Aside0.mk ((J18 : w.heap.size ≤ gb140)); clear HB; have HB := n0_; have BK140 := n1_; have GW140 := n2_; have GE140 := n3_; clear n0_ n1_ n2_ n3_; clear hb hbox hg; have hcz11_0 : w10.cell? ⟨gb140, 0, none⟩ = some (.int .i64 0) := (blk_cell BK140.out 0).trans rfl; have hcz11_1 : w10.cell? ⟨gb140, 1, none⟩ = some (.int .i64 0) := (blk_cell BK140.out 1).trans rfl; have hfz11_0 := blk_frozen BK140.out 0; have hfz11_1 := blk_frozen BK140.out 1) | ((with_reducible refine gate_dst (N := 15) rfl ?_); refine goesLv_ (some 15) rfl rfl Try.func56 J8 rfl #[.agg #[.int .i64 ((rd_T41 l0 x9_1).f0), .int .i64 ((rd_T41 l0 x9_1).f1)]] (.tmp 13) rfl rfl J1 ?_; (with_reducible refine (decimal_Right.calls k1 ((rd_T41 l0 x9_1).f0) ((rd_T41 l0 x9_1).f1) false _ A5.out).mono ?_); rintro e w12 ⟨rfl, hb⟩; refine ⟨_, rfl, ?_⟩; have n0_ := Aside0.mk (blk_below (g := gb140) (o := .cells #[.int .i64 ((rd_T41 l0 x9_1).f0), .int .i64 ((rd_T41 l0 x9_1).f1)] 41 (0, 0)) J29 hb); have n1_ := Aside0.mk (below_step (zs1 GE140.out) hb); clear BK140; clear HB; have BK140 := n0_; have HB := n1_; clear n0_ n1_; (try clear hb); (try clear hb2); (try clear hk); (try clear hi)))
        go_ret
        exact ⟨J4, J51⟩
      subst c6
      have H1 : (api_Dec_55.l0 k1 l0 (l0.length : Int) (wrap64 (x9_1 + 1))) = some r := J14
      clear H
      have H := H1
      clear H1
      have H' := Aside0.mk H
      clear H
      have p139 : 0 ≤ (x9_1 : Int) := of_decide_eq_true J2
      have q139 : x9_1 < (l0.length : Int) := of_decide_eq_true J2
      obtain ⟨ad139, e139, hx139_0, hx139_1⟩ := at_T41 HR0.out x9_1 p139 q139
      cases e139
      replace hx139_0 := (HB.out.cell (World.block_lt_of_cell? w _ hx139_0)).trans hx139_0
      replace hx139_1 := (HB.out.cell (World.block_lt_of_cell? w _ hx139_1)).trans hx139_1
      replace p139 := eq_true p139
      replace q139 := eq_true q139
      go_wp2_with (first | ((with_reducible refine gate_dst (N := 6) rfl ?_); refine box_event ?hg (N := 6) ?hd (cs := #[.int .i64 0, .int .i64 0]) (t := 41) ?hr ?_; (case hd => rfl); (case hg => rfl); (case hr => first | (go_simp; done) | (go_simp; rfl)); intro gb140 hg w7 hbox hb; have n0_ := Aside0.mk (below_step J0 hb); have n1_ := Aside0.mk (hbox); have n2_ := Aside0.mk ((J18 : w.heap.size ≤ gb140)); have n3_ := Aside0.mk ((J18 : w.heap.size ≤ gb140)); clear HB; have HB := n0_; have BK140 := n1_; have GW140 := n2_; have GE140 := n3_; clear n0_ n1_ n2_ n3_; clear hb hbox hg; have hcz8_0 : w7.cell? ⟨gb140, 0, none⟩ = some (.int .i64 0) := (blk_cell BK140.out 0).trans rfl; have hcz8_1 : w7.cell? ⟨gb140, 1, none⟩ = some (.int .i64 0) := (blk_cell BK140.out 1).trans rfl; have hfz8_0 := blk_frozen BK140.out 0; have hfz8_1 := blk_frozen BK140.out 1) | ((with_reducible refine gate_dst (N := 15) rfl ?_); refine goesLv_ (some 15) rfl rfl Try.func56 J8 rfl #[.agg #[.int .i64 ((rd_T41 l0 x9_1).f0), .int .i64 ((rd_T41 l0 x9_1).f1)]] (.tmp 13) rfl rfl J1 ?_; (with_reducible refine (decimal_Right.calls k1 ((rd_T41 l0 x9_1).f0) ((rd_T41 l0 x9_1).f1) true _ A5.out).mono ?_); rintro e w9 ⟨rfl, hb⟩; refine ⟨_, rfl, ?_⟩; have n0_ := Aside0.mk (blk_below (g := gb140) (o := .cells #[.int .i64 ((rd_T41 l0 x9_1).f0), .int .i64 ((rd_T41 l0 x9_1).f1)] 41 (0, 0)) J29 hb); have n1_ := Aside0.mk (below_step (zs1 GE140.out) hb); clear BK140; clear HB; have BK140 := n0_; have HB := n1_; clear n0_ n1_; (try clear hb); (try clear hb2); (try clear hk); (try clear hi)))
      go_roundg k1
      case measure => have := HK1.out; omega
      case rel => exact ⟨(wrap64 (x9_1 + 1)), J5, H', ⟨J41⟩, ⟨J51⟩⟩
mutual
def array_items.j1 : Nat → Int → Int → Int → Int → Int → List Int → List Int → List (S41) → Option (Int)
  | 0, _, _, _, _, _, _, _, _ => none
  | k + 1, x3, x5, x6, x17, x143000, x143001, x143002, x143003 => if (x143002.length : Int) = x5 then (if (x143003.length : Int) = x6 then ((array_wrongs_int.f k x143002 x17).bind fun t145 => (if t145 = true then (some (-1)) else ((api_Dec_55.f k x143003).bind fun t146 => (if t146 = true then (some (-1)) else (some x3))))) else (some (-1))) else (some (-1))
def array_items.j0 : Nat → Int → Int → Int → Int → Bool → Int → List Int → List Int → List (S41) → Option (Int)
  | 0, _, _, _, _, _, _, _, _, _ => none
  | k + 1, x3, x5, x6, x17, x18, x143000, x143001, x143002, x143003 => if x18 = true then (array_items.j1 k x3 x3 x6 x17 x143000 x143001 x143002 x143003) else (if x17 = 4 then (array_items.j1 k x3 x5 x3 x17 x143000 x143001 x143002 x143003) else (if x17 = 5 then (array_items.j1 k x3 x5 x6 x17 x143000 x143001 x143002 x143003) else (some (-1))))
end
def array_items.f (k : Nat) (a0_0 : Int) (l0_1 : List Int) (l0_2 : List Int) (l0_3 : List (S41)) : Option (Int) := (shape_Count.f k l0_1).bind fun bt143 => (if bt143.2 = true then (if a0_0 = 1 then (array_items.j0 k bt143.1 0 0 a0_0 (a0_0 == 1) a0_0 l0_1 l0_2 l0_3) else (if a0_0 = 2 then (array_items.j0 k bt143.1 0 0 a0_0 (a0_0 == 2) a0_0 l0_1 l0_2 l0_3) else (array_items.j0 k bt143.1 0 0 a0_0 (a0_0 == 3) a0_0 l0_1 l0_2 l0_3))) else (some (-1)))
theorem array_items.mono_l : ∀ k, (∀ y0 y1 y2 y3 y4 y5 y6 y7, LeO (array_items.j1 k y0 y1 y2 y3 y4 y5 y6 y7) (array_items.j1 (k + 1) y0 y1 y2 y3 y4 y5 y6 y7)) ∧ (∀ y0 y1 y2 y3 y4 y5 y6 y7 y8, LeO (array_items.j0 k y0 y1 y2 y3 y4 y5 y6 y7 y8) (array_items.j0 (k + 1) y0 y1 y2 y3 y4 y5 y6 y7 y8))
  | 0 => ⟨fun _ _ _ _ _ _ _ _ r h => by simp [array_items.j1] at h, fun _ _ _ _ _ _ _ _ _ r h => by simp [array_items.j0] at h⟩
  | k + 1 => by
    obtain ⟨ih0, ih1⟩ := array_items.mono_l k
    refine ⟨?_, ?_⟩
    · intro y0 y1 y2 y3 y4 y5 y6 y7
      unfold array_items.j1
      repeat' first
      | (with_reducible exact ih0 _ _ _ _ _ _ _ _)
      | (with_reducible exact ih1 _ _ _ _ _ _ _ _ _)
      | (with_reducible exact api_Dec_55.mono _ _)
      | (with_reducible exact array_wrongs_int.mono _ _ _)
      | (with_reducible exact shape_Count.mono _ _)
      | (with_reducible exact LeO.refl _)
      | (with_reducible exact LeO.none _)
      | (with_reducible refine LeO.ite ?_ ?_)
      | (with_reducible refine LeO.bind ?_ (fun _ => ?_))
      | exact ih0 _ _ _ _ _ _ _ _
      | exact ih1 _ _ _ _ _ _ _ _ _
      | exact api_Dec_55.mono _ _
      | exact array_wrongs_int.mono _ _ _
      | exact shape_Count.mono _ _
      | exact LeO.none _
      | refine LeO.ite ?_ ?_
      | refine LeO.bind ?_ (fun _ => ?_)
    · intro y0 y1 y2 y3 y4 y5 y6 y7 y8
      unfold array_items.j0
      repeat' first
      | (with_reducible exact ih0 _ _ _ _ _ _ _ _)
      | (with_reducible exact ih1 _ _ _ _ _ _ _ _ _)
      | (with_reducible exact api_Dec_55.mono _ _)
      | (with_reducible exact array_wrongs_int.mono _ _ _)
      | (with_reducible exact shape_Count.mono _ _)
      | (with_reducible exact LeO.refl _)
      | (with_reducible exact LeO.none _)
      | (with_reducible refine LeO.ite ?_ ?_)
      | (with_reducible refine LeO.bind ?_ (fun _ => ?_))
      | exact ih0 _ _ _ _ _ _ _ _
      | exact ih1 _ _ _ _ _ _ _ _ _
      | exact api_Dec_55.mono _ _
      | exact array_wrongs_int.mono _ _ _
      | exact shape_Count.mono _ _
      | exact LeO.none _
      | refine LeO.ite ?_ ?_
      | refine LeO.bind ?_ (fun _ => ?_)
theorem array_items.mono : ∀ a0 a1 a2 a3 k, LeO (array_items.f k a0 a1 a2 a3) (array_items.f (k + 1) a0 a1 a2 a3) := by
  intro a0 a1 a2 a3 k
  obtain ⟨ih0, ih1⟩ := array_items.mono_l k
  unfold array_items.f
  repeat' first
      | (with_reducible exact ih0 _ _ _ _ _ _ _ _)
      | (with_reducible exact ih1 _ _ _ _ _ _ _ _ _)
      | (with_reducible exact api_Dec_55.mono _ _)
      | (with_reducible exact array_wrongs_int.mono _ _ _)
      | (with_reducible exact shape_Count.mono _ _)
      | (with_reducible exact LeO.refl _)
      | (with_reducible exact LeO.none _)
      | (with_reducible refine LeO.ite ?_ ?_)
      | (with_reducible refine LeO.bind ?_ (fun _ => ?_))
      | exact ih0 _ _ _ _ _ _ _ _
      | exact ih1 _ _ _ _ _ _ _ _ _
      | exact api_Dec_55.mono _ _
      | exact array_wrongs_int.mono _ _ _
      | exact shape_Count.mono _ _
      | exact LeO.none _
      | refine LeO.ite ?_ ?_
      | refine LeO.bind ?_ (fun _ => ?_)
set_option maxHeartbeats 8000000 in
set_option maxRecDepth 100000 in
theorem array_items.calls (k : Nat) (a0_0 : Int) (A0_1 : Option Addr) (c0_1 : Nat) (l0_1 : List Int) (A0_2 : Option Addr) (c0_2 : Nat) (l0_2 : List Int) (A0_3 : Option Addr) (c0_3 : Nat) (l0_3 : List (S41)) (r : Int) (w : World) (hr0_1 : Kd.C (Kd.int .i64) w A0_1 l0_1.length l0_1) (hc0_1 : l0_1.length ≤ c0_1) (hr0_2 : Kd.C (Kd.int .i64) w A0_2 l0_2.length l0_2) (hc0_2 : l0_2.length ≤ c0_2) (hr0_3 : Kd.C k41 w A0_3 l0_3.length l0_3) (hc0_3 : l0_3.length ≤ c0_3) (h : array_items.f k a0_0 l0_1 l0_2 l0_3 = some r) :
    Calls Try.prog 46 #[.agg #[.int .i64 a0_0, .slice A0_1 l0_1.length c0_1, .slice A0_2 l0_2.length c0_2, .slice A0_3 l0_3.length c0_3]] w fun e w' => e = .returned (.int .i64 r) ∧ Below w.heap.size w w' := by
  have hmf : ∀ (fn : Fn) (first cap : Array Value) (w : World), (Instr.makeFunc fn first cap).run Try.prog w = .ok (.func fn first cap) w := fun _ _ _ _ => rfl
  have hu32 := Try.underlying32
  have HR0_1 := Aside0.mk hr0_1
  have HC0_1 := Aside0.mk hc0_1
  clear hr0_1 hc0_1
  have HR0_2 := Aside0.mk hr0_2
  have HC0_2 := Aside0.mk hc0_2
  clear hr0_2 hc0_2
  have HR0_3 := Aside0.mk hr0_3
  have HC0_3 := Aside0.mk hc0_3
  clear hr0_3 hc0_3
  have HB := Aside0.mk (Below.refl w.heap.size w)
  have H : ((shape_Count.f k l0_1).bind fun bt143 => (if bt143.2 = true then (if a0_0 = 1 then (array_items.j0 k bt143.1 0 0 a0_0 (a0_0 == 1) a0_0 l0_1 l0_2 l0_3) else (if a0_0 = 2 then (array_items.j0 k bt143.1 0 0 a0_0 (a0_0 == 2) a0_0 l0_1 l0_2 l0_3) else (array_items.j0 k bt143.1 0 0 a0_0 (a0_0 == 3) a0_0 l0_1 l0_2 l0_3))) else (some (-1)))) = some r := h
  clear h
  replace H := Option.bind_eq_some_iff.mp H
  obtain ⟨⟨t143, t144⟩, A20, H⟩ := H
  replace H : (if t144 = true then (if a0_0 = 1 then (array_items.j0 k t143 0 0 a0_0 (a0_0 == 1) a0_0 l0_1 l0_2 l0_3) else (if a0_0 = 2 then (array_items.j0 k t143 0 0 a0_0 (a0_0 == 2) a0_0 l0_1 l0_2 l0_3) else (array_items.j0 k t143 0 0 a0_0 (a0_0 == 3) a0_0 l0_1 l0_2 l0_3))) else (some (-1))) = some r := H
  have A2 := Aside0.mk A20
  clear A20
  by_cases c3 : t144 = true
  rotate_left
  · replace c3 := Bool.eq_false_iff.mpr c3
    subst c3
    have H1 : (some (-1)) = some r := J7
    clear H
    have H := H1
    clear H1
    obtain rfl := Option.some.inj H
    go_enter Try.func46, Try.ntmps46
    go_wp2_with (first | ((with_reducible refine gate_dst (N := 1) rfl ?_); (try (refine gate_guard J38 ?_; dsimp only)); refine box_event ?hg (N := 1) ?hd (cs := #[.int .i64 a0_0, .slice A0_1 l0_1.length c0_1, .slice A0_2 l0_2.length c0_2, .slice A0_3 l0_3.length c0_3]) (t := 32) ?hr ?_; (case hd => rfl); (case hg => rfl); (case hr => first | (go_simp; done) | (go_simp; rfl)); intro gb142 hg w26 hbox hb; have n0_ := Aside0.mk (below_step J0 hb); have n1_ := Aside0.mk (hbox); have n2_ := Aside0.mk ((J18 : w.heap.size ≤ gb142)); have n3_ := Aside0.mk ((J18 : w.heap.size ≤ gb142)); clear HB; have HB := n0_; have BK142 := n1_; have GW142 := n2_; have GE142 := n3_; clear n0_ n1_ n2_ n3_; clear hb hbox hg; have hcz27_0 : w26.cell? ⟨gb142, 0, none⟩ = some (.int .i64 a0_0) := (blk_cell BK142.out 0).trans rfl; have hcz27_1 : w26.cell? ⟨gb142, 1, none⟩ = some (.slice A0_1 l0_1.length c0_1) := (blk_cell BK142.out 1).trans rfl; have hcz27_2 : w26.cell? ⟨gb142, 2, none⟩ = some (.slice A0_2 l0_2.length c0_2) := (blk_cell BK142.out 2).trans rfl; have hcz27_3 : w26.cell? ⟨gb142, 3, none⟩ = some (.slice A0_3 l0_3.length c0_3) := (blk_cell BK142.out 3).trans rfl; have hfz27_0 := blk_frozen BK142.out 0; have hfz27_1 := blk_frozen BK142.out 1; have hfz27_2 := blk_frozen BK142.out 2; have hfz27_3 := blk_frozen BK142.out 3) | ((with_reducible refine gate_callee (f := 25) rfl ?_); refine goesL_ (some 11) rfl rfl Try.func25 J8 rfl #[.slice A0_1 l0_1.length c0_1] rfl J1 ?_; (with_reducible refine (shape_Count.calls k _ _ l0_1 t143 false _ ?side1 ?side2 A2.out).mono ?_); (case side1 => repeat (first | exact (Kd.C_below HR0_1.out HB.out) | (with_reducible refine Kd.C_alloc ?_ _) | (with_reducible refine Kd.C_drewN ?_ _) | (with_reducible refine Kd.C_drew ?_))); (case side2 => exact HC0_1.out); rintro e w' ⟨rfl, ⟨nd, rfl⟩⟩; refine ⟨_, rfl, ?_⟩))
    go_ret
    exact ⟨J4, J11⟩
  subst c3
  have H1 : (if a0_0 = 1 then (array_items.j0 k t143 0 0 a0_0 (a0_0 == 1) a0_0 l0_1 l0_2 l0_3) else (if a0_0 = 2 then (array_items.j0 k t143 0 0 a0_0 (a0_0 == 2) a0_0 l0_1 l0_2 l0_3) else (array_items.j0 k t143 0 0 a0_0 (a0_0 == 3) a0_0 l0_1 l0_2 l0_3))) = some r := J14
  clear H
  have H := H1
  clear H1
  have HC4 := Aside0.mk H
  clear H
  go_enter Try.func46, Try.ntmps46
  go_upto_block 0 with (first | ((with_reducible refine gate_dst (N := 1) rfl ?_); (try (refine gate_guard J38 ?_; dsimp only)); refine box_event ?hg (N := 1) ?hd (cs := #[.int .i64 a0_0, .slice A0_1 l0_1.length c0_1, .slice A0_2 l0_2.length c0_2, .slice A0_3 l0_3.length c0_3]) (t := 32) ?hr ?_; (case hd => rfl); (case hg => rfl); (case hr => first | (go_simp; done) | (go_simp; rfl)); intro gb142 hg w5 hbox hb; have n0_ := Aside0.mk (below_step J0 hb); have n1_ := Aside0.mk (hbox); have n2_ := Aside0.mk ((J18 : w.heap.size ≤ gb142)); have n3_ := Aside0.mk ((J18 : w.heap.size ≤ gb142)); clear HB; have HB := n0_; have BK142 := n1_; have GW142 := n2_; have GE142 := n3_; clear n0_ n1_ n2_ n3_; clear hb hbox hg; have hcz6_0 : w5.cell? ⟨gb142, 0, none⟩ = some (.int .i64 a0_0) := (blk_cell BK142.out 0).trans rfl; have hcz6_1 : w5.cell? ⟨gb142, 1, none⟩ = some (.slice A0_1 l0_1.length c0_1) := (blk_cell BK142.out 1).trans rfl; have hcz6_2 : w5.cell? ⟨gb142, 2, none⟩ = some (.slice A0_2 l0_2.length c0_2) := (blk_cell BK142.out 2).trans rfl; have hcz6_3 : w5.cell? ⟨gb142, 3, none⟩ = some (.slice A0_3 l0_3.length c0_3) := (blk_cell BK142.out 3).trans rfl; have hfz6_0 := blk_frozen BK142.out 0; have hfz6_1 := blk_frozen BK142.out 1; have hfz6_2 := blk_frozen BK142.out 2; have hfz6_3 := blk_frozen BK142.out 3) | ((with_reducible refine gate_callee (f := 25) rfl ?_); refine goesL_ (some 11) rfl rfl Try.func25 J8 rfl #[.slice A0_1 l0_1.length c0_1] rfl J1 ?_; (with_reducible refine (shape_Count.calls k _ _ l0_1 t143 true _ ?side1 ?side2 A2.out).mono ?_); (case side1 => repeat (first | exact (Kd.C_below HR0_1.out HB.out) | (with_reducible refine Kd.C_alloc ?_ _) | (with_reducible refine Kd.C_drewN ?_ _) | (with_reducible refine Kd.C_drew ?_))); (case side2 => exact HC0_1.out); rintro e w' ⟨rfl, ⟨nd, rfl⟩⟩; refine ⟨_, rfl, ?_⟩))
  (try simp only [Act.put, List.setIfInBounds_toArray, List.set_cons_zero, List.set_cons_succ])
  go_cut [5, 6] (fun v5 v6 wc => ∃ (kq : Nat) (x5_3 : Int) (x6_3 : Int), v5 = .int .i64 x5_3 ∧ v6 = .int .i64 x6_3 ∧ Aside0 (array_items.j1 kq t143 x5_3 x6_3 a0_0 a0_0 l0_1 l0_2 l0_3 = some r) ∧ Aside0 (kq ≤ k) ∧ Aside0 (wc.heap[gb142]? = some (.cells #[.int .i64 a0_0, (.slice A0_1 l0_1.length c0_1), (.slice A0_2 l0_2.length c0_2), (.slice A0_3 l0_3.length c0_3)] 32 (0, 0))) ∧ Aside0 (Below w.heap.size w wc))
  case first =>
    have H := HC4.out
    clear HC4
    have HC7 := Aside0.mk H
    clear H
    go_upto_if 18 with (fail)
    go_cut [18] (fun v18 wc => ∃ (kq : Nat) (x18_6 : Bool), v18 = .bool x18_6 ∧ Aside0 (array_items.j0 kq t143 0 0 a0_0 x18_6 a0_0 l0_1 l0_2 l0_3 = some r) ∧ Aside0 (kq ≤ k) ∧ Aside0 (wc.heap[gb142]? = some (.cells #[.int .i64 a0_0, (.slice A0_1 l0_1.length c0_1), (.slice A0_2 l0_2.length c0_2), (.slice A0_3 l0_3.length c0_3)] 32 (0, 0))) ∧ Aside0 (Below w.heap.size w wc))
    case first =>
      have H := HC7.out
      clear HC7
      by_cases c8 : a0_0 = 1
      · rw [if_pos c8] at H
        have c8b0 : (a0_0 == 1) = true := beq_iff_eq.mpr c8
        have c8b1 : (a0_0 != 1) = false := bne_eq_false_iff_eq.mpr c8
        clear c8
        (first | rw [c8b0] | (simp only [i64_w, i32_w]; rw [c8b0]) | skip)
        have H' := Aside0.mk H
        clear H
        go_wp2
        go_meet
        case rel => exact ⟨_, ((a0_0 == 1)), J5, H', ⟨J23⟩, ⟨J27⟩, ⟨J11⟩⟩
      rw [if_neg c8] at H
      have c8b0 : (a0_0 == 1) = false := beq_eq_false_iff_ne.mpr c8
      have c8b1 : (a0_0 != 1) = true := bne_iff_ne.mpr c8
      (first | rw [c8b0] | (simp only [i64_w, i32_w]; rw [c8b0]) | skip)
      by_cases c9 : a0_0 = 2
      rotate_left
      · rw [if_neg c9] at H
        have c9b0 : (a0_0 == 2) = false := beq_eq_false_iff_ne.mpr c9
        have c9b1 : (a0_0 != 2) = true := bne_iff_ne.mpr c9
        have H' := Aside0.mk H
        clear H
        go_wp2
        go_meet
        case rel => exact ⟨_, ((a0_0 == 3)), J5, H', ⟨J23⟩, ⟨J27⟩, ⟨J11⟩⟩
      rw [if_pos c9] at H
      have c9b0 : (a0_0 == 2) = true := beq_iff_eq.mpr c9
      have c9b1 : (a0_0 != 2) = false := bne_eq_false_iff_eq.mpr c9
      clear c9
      have H' := Aside0.mk H
      clear H
      go_wp2
      go_meet
      case rel => exact ⟨_, ((a0_0 == 2)), J5, H', ⟨J23⟩, ⟨J27⟩, ⟨J11⟩⟩
    case rest =>
      clear HC7
      try clear c2
      try clear p2
      try clear c3
      try clear c4
      try clear c8
      try clear c8b0
      try clear c8b1
      try clear c9
      try clear c9b0
      try clear c9b1
      try clear hcz6_0
      try clear hcz6_1
      try clear hcz6_2
      try clear hcz6_3
      try clear hfz6_0
      try clear hfz6_1
      try clear hfz6_2
      try clear hfz6_3
      obtain ⟨kq, x18_6, rfl, HA, HJ6, BK142, HB⟩ := hcut
      cases kq with
      | zero => exact absurd HA.out (by simp [array_items.j0])
      | succ kj6 =>
        have H := HA.out
        clear HA
        simp only [array_items.j0] at H
        by_cases c10 : x18_6 = true
        · subst c10
          have H1 : (array_items.j1 kj6 t143 t143 0 a0_0 a0_0 l0_1 l0_2 l0_3) = some r := J14
          clear H
          have H := H1
          clear H1
          have H' := Aside0.mk H
          clear H
          go_wp2
          go_meet
          case rel => exact ⟨_, (t143), (0), J5, J5, H', ⟨J37⟩, ⟨J27⟩, ⟨J11⟩⟩
        replace c10 := Bool.eq_false_iff.mpr c10
        subst c10
        have H1 : (if a0_0 = 4 then (array_items.j1 kj6 t143 0 t143 a0_0 a0_0 l0_1 l0_2 l0_3) else (if a0_0 = 5 then (array_items.j1 kj6 t143 0 0 a0_0 a0_0 l0_1 l0_2 l0_3) else (some (-1)))) = some r := J7
        clear H
        have H := H1
        clear H1
        by_cases c11 : a0_0 = 4
        · rw [if_pos c11] at H
          have c11b0 : (a0_0 == 4) = true := beq_iff_eq.mpr c11
          have c11b1 : (a0_0 != 4) = false := bne_eq_false_iff_eq.mpr c11
          clear c11
          have H' := Aside0.mk H
          clear H
          go_wp2
          go_meet
          case rel => exact ⟨_, (0), (t143), J5, J5, H', ⟨J37⟩, ⟨J27⟩, ⟨J11⟩⟩
        rw [if_neg c11] at H
        have c11b0 : (a0_0 == 4) = false := beq_eq_false_iff_ne.mpr c11
        have c11b1 : (a0_0 != 4) = true := bne_iff_ne.mpr c11
        by_cases c12 : a0_0 = 5
        rotate_left
        · rw [if_neg c12] at H
          have c12b0 : (a0_0 == 5) = false := beq_eq_false_iff_ne.mpr c12
          have c12b1 : (a0_0 != 5) = true := bne_iff_ne.mpr c12
          obtain rfl := Option.some.inj H
          go_wp2
          go_ret
          exact ⟨J4, J11⟩
        rw [if_pos c12] at H
        have c12b0 : (a0_0 == 5) = true := beq_iff_eq.mpr c12
        have c12b1 : (a0_0 != 5) = false := bne_eq_false_iff_eq.mpr c12
        clear c12
        have H' := Aside0.mk H
        clear H
        go_wp2
        go_meet
        case rel => exact ⟨_, (0), (0), J5, J5, H', ⟨J37⟩, ⟨J27⟩, ⟨J11⟩⟩
  case rest =>
    clear HC4
    try clear c1
    try clear c2
    try clear p2
    try clear c3
    try clear c4
    try clear c8
    try clear c8b0
    try clear c8b1
    try clear c9
    try clear c9b0
    try clear c9b1
    try clear c10
    try clear c11
    try clear c11b0
    try clear c11b1
    try clear c12
    try clear c12b0
    try clear c12b1
    try clear hcz6_0
    try clear hcz6_1
    try clear hcz6_2
    try clear hcz6_3
    try clear hfz6_0
    try clear hfz6_1
    try clear hfz6_2
    try clear hfz6_3
    try clear p2
    obtain ⟨kq, x5_3, x6_3, rfl, rfl, HA, HJ3, BK142, HB⟩ := hcut
    cases kq with
    | zero => exact absurd HA.out (by simp [array_items.j1])
    | succ kj3 =>
      have H := HA.out
      clear HA
      simp only [array_items.j1] at H
      by_cases c13 : (l0_2.length : Int) = x5_3
      rotate_left
      · rw [if_neg c13] at H
        have c13b0 : ((l0_2.length : Int) == x5_3) = false := beq_eq_false_iff_ne.mpr c13
        have c13b1 : ((l0_2.length : Int) != x5_3) = true := bne_iff_ne.mpr c13
        obtain rfl := Option.some.inj H
        obtain ⟨hcz25_0, hcz25_1, hcz25_2, hcz25_3, hfz25_0, hfz25_1, hfz25_2, hfz25_3⟩ := cz4 BK142.out
        go_wp2
        go_ret
        exact ⟨J4, J11⟩
      rw [if_pos c13] at H
      have c13b0 : ((l0_2.length : Int) == x5_3) = true := beq_iff_eq.mpr c13
      have c13b1 : ((l0_2.length : Int) != x5_3) = false := bne_eq_false_iff_eq.mpr c13
      clear c13
      by_cases c14 : (l0_3.length : Int) = x6_3
      rotate_left
      · rw [if_neg c14] at H
        have c14b0 : ((l0_3.length : Int) == x6_3) = false := beq_eq_false_iff_ne.mpr c14
        have c14b1 : ((l0_3.length : Int) != x6_3) = true := bne_iff_ne.mpr c14
        obtain rfl := Option.some.inj H
        obtain ⟨hcz24_0, hcz24_1, hcz24_2, hcz24_3, hfz24_0, hfz24_1, hfz24_2, hfz24_3⟩ := cz4 BK142.out
        go_wp2
        go_ret
        exact ⟨J4, J11⟩
      rw [if_pos c14] at H
      have c14b0 : ((l0_3.length : Int) == x6_3) = true := beq_iff_eq.mpr c14
      have c14b1 : ((l0_3.length : Int) != x6_3) = false := bne_eq_false_iff_eq.mpr c14
      clear c14
      replace H := Option.bind_eq_some_iff.mp H
      obtain ⟨t145, A150, H⟩ := H
      have A15 := Aside0.mk A150
      clear A150
      by_cases c16 : t145 = true
      · subst c16
        have H1 : (some (-1)) = some r := J14
        clear H
        have H := H1
        clear H1
        obtain rfl := Option.some.inj H
        obtain ⟨hcz17_0, hcz17_1, hcz17_2, hcz17_3, hfz17_0, hfz17_1, hfz17_2, hfz17_3⟩ := cz4 BK142.out
        go_wp2_with (first | (go_at_call 54; (with_reducible refine (array_wrongs_int.calls kj3 _ _ l0_2 a0_0 gb142 true _ ((blk_cell (zk BK142.out) 0).trans rfl) ?side1 ?side2 A15.out).mono ?_); (case side1 => repeat (first | exact (Kd.C_below HR0_2.out HB.out) | (with_reducible refine Kd.C_alloc ?_ _) | (with_reducible refine Kd.C_drewN ?_ _) | (with_reducible refine Kd.C_drew ?_))); (case side2 => exact HC0_2.out); rintro e w' ⟨rfl, ⟨nd, rfl⟩⟩))
        go_ret
        exact ⟨J4, J11⟩
      replace c16 := Bool.eq_false_iff.mpr c16
      subst c16
      have H1 : ((api_Dec_55.f kj3 l0_3).bind fun t146 => (if t146 = true then (some (-1)) else (some t143))) = some r := J7
      clear H
      have H := H1
      clear H1
      replace H := Option.bind_eq_some_iff.mp H
      obtain ⟨t146, A180, H⟩ := H
      have A18 := Aside0.mk A180
      clear A180
      by_cases c19 : t146 = true
      · subst c19
        have H1 : (some (-1)) = some r := J14
        clear H
        have H := H1
        clear H1
        obtain rfl := Option.some.inj H
        obtain ⟨hcz20_0, hcz20_1, hcz20_2, hcz20_3, hfz20_0, hfz20_1, hfz20_2, hfz20_3⟩ := cz4 BK142.out
        go_wp2_with (first | (go_at_call 54; (with_reducible refine (array_wrongs_int.calls kj3 _ _ l0_2 a0_0 gb142 false _ ((blk_cell (zk BK142.out) 0).trans rfl) ?side1 ?side2 A15.out).mono ?_); (case side1 => repeat (first | exact (Kd.C_below HR0_2.out HB.out) | (with_reducible refine Kd.C_alloc ?_ _) | (with_reducible refine Kd.C_drewN ?_ _) | (with_reducible refine Kd.C_drew ?_))); (case side2 => exact HC0_2.out); rintro e w' ⟨rfl, ⟨nd, rfl⟩⟩) | (go_at_call 55; (with_reducible refine (api_Dec_55.calls kj3 _ _ l0_3 true _ ?side1 ?side2 A18.out).mono ?_); (case side1 => repeat (first | exact (Kd.C_below HR0_3.out (zs1 GE142.out)) | (with_reducible refine Kd.C_alloc ?_ _) | (with_reducible refine Kd.C_drewN ?_ _) | (with_reducible refine Kd.C_drew ?_))); (case side2 => exact HC0_3.out); rintro e w21 ⟨rfl, hb⟩; have n0_ := Aside0.mk (blk_below (g := gb142) (o := .cells #[.int .i64 a0_0, .slice A0_1 l0_1.length c0_1, .slice A0_2 l0_2.length c0_2, .slice A0_3 l0_3.length c0_3] 32 (0, 0)) (zk BK142.out) hb); have n1_ := Aside0.mk (below_step (zs1 GE142.out) hb); clear BK142; clear HB; have BK142 := n0_; have HB := n1_; clear n0_ n1_; (try clear hb); (try clear hb2); (try clear hk); (try clear hi)))
        go_ret
        exact ⟨J4, J11⟩
      replace c19 := Bool.eq_false_iff.mpr c19
      subst c19
      have H1 : (some t143) = some r := J7
      clear H
      have H := H1
      clear H1
      obtain rfl := Option.some.inj H
      obtain ⟨hcz22_0, hcz22_1, hcz22_2, hcz22_3, hfz22_0, hfz22_1, hfz22_2, hfz22_3⟩ := cz4 BK142.out
      go_wp2_with (first | (go_at_call 54; (with_reducible refine (array_wrongs_int.calls kj3 _ _ l0_2 a0_0 gb142 false _ ((blk_cell (zk BK142.out) 0).trans rfl) ?side1 ?side2 A15.out).mono ?_); (case side1 => repeat (first | exact (Kd.C_below HR0_2.out HB.out) | (with_reducible refine Kd.C_alloc ?_ _) | (with_reducible refine Kd.C_drewN ?_ _) | (with_reducible refine Kd.C_drew ?_))); (case side2 => exact HC0_2.out); rintro e w' ⟨rfl, ⟨nd, rfl⟩⟩) | (go_at_call 55; (with_reducible refine (api_Dec_55.calls kj3 _ _ l0_3 false _ ?side1 ?side2 A18.out).mono ?_); (case side1 => repeat (first | exact (Kd.C_below HR0_3.out (zs1 GE142.out)) | (with_reducible refine Kd.C_alloc ?_ _) | (with_reducible refine Kd.C_drewN ?_ _) | (with_reducible refine Kd.C_drew ?_))); (case side2 => exact HC0_3.out); rintro e w23 ⟨rfl, hb⟩; have n0_ := Aside0.mk (blk_below (g := gb142) (o := .cells #[.int .i64 a0_0, .slice A0_1 l0_1.length c0_1, .slice A0_2 l0_2.length c0_2, .slice A0_3 l0_3.length c0_3] 32 (0, 0)) (zk BK142.out) hb); have n1_ := Aside0.mk (below_step (zs1 GE142.out) hb); clear BK142; clear HB; have BK142 := n0_; have HB := n1_; clear n0_ n1_; (try clear hb); (try clear hb2); (try clear hk); (try clear hi)))
      go_ret
      exact ⟨J4, J11⟩
end Go.Proofs.Ytgbmbcippldhnaa.HArraySame
