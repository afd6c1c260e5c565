import Derived.Test.YtgbmbcippldhnaaSArrayTellsx0
import Derived.Test.YtgbmbcippldhnaaSArrayTellsx1
namespace Go.Proofs.Ytgbmbcippldhnaa.HArrayTells
open Go.RowKit Go.Proofs.YtgbmbcippldhnaaW.PrintWords Go.Proofs.YtgbmbcippldhnaaW.PrintLast Go.Proofs.YtgbmbcippldhnaaW.PrintMore
attribute [local go_sem] max2_int min2_int max_two min_two max_three min_three max_four min_four
set_option linter.unusedVariables false
set_option linter.unusedSimpArgs false
attribute [local go_sem high] eqA41
def deckleref06_Norm.l0 : Nat → Int → Int → Option (Int × Int × Bool)
  | 0, _, _ => none
  | k + 1, x360000, x360001 => if (Int.tmod x360000 10) = 0 then (if x360001 ≤ 32767 then (deckleref06_Norm.l0 k (wrap64 (Int.tdiv x360000 10)) (wrap64 (x360001 + 1))) else (if x360001 < (-32768) then (some (0, 0, false)) else (if x360001 > 32767 then (some (0, 0, false)) else (some (x360000, x360001, true))))) else (if x360001 < (-32768) then (some (0, 0, false)) else (if x360001 > 32767 then (some (0, 0, false)) else (some (x360000, x360001, true))))
def deckleref06_Norm.f (k : Nat) (a0_0 : Int) (a0_1 : Int) : Option (Int × Int × Bool) := if a0_0 = 0 then (some (0, 0, true)) else (deckleref06_Norm.l0 k a0_0 a0_1)
set_option maxHeartbeats 8000000 in
set_option maxRecDepth 100000 in
theorem deckleref06_Norm.calls (k : Nat) (a0_0 : Int) (a0_1 : Int) (r1 : Int) (r2 : Int) (r3 : Bool) (w : World) (h : deckleref06_Norm.f k a0_0 a0_1 = some (r1, r2, r3)) :
    Calls Try.prog 57 #[.agg #[.int .i64 a0_0, .int .i64 a0_1]] w fun e w' => e = .returned (.tuple #[.agg #[.int .i64 r1, .int .i64 r2], .bool r3]) ∧ Below w.heap.size w w' := by
  have hu41 := Try.underlying41
  have HB := Aside0.mk (Below.refl w.heap.size w)
  have H : (if a0_0 = 0 then (some (0, 0, true)) else (deckleref06_Norm.l0 k a0_0 a0_1)) = some (r1, r2, r3) := h
  clear h
  by_cases c2 : a0_0 = 0
  · rw [if_pos c2] at H
    have c2b0 : (a0_0 == 0) = true := beq_iff_eq.mpr c2
    have c2b1 : (a0_0 != 0) = false := bne_eq_false_iff_eq.mpr c2
    clear c2
    simp only [Option.some.injEq, Prod.mk.injEq] at H
    obtain ⟨rfl, rfl, rfl⟩ := H
    go_enter Try.func57, Try.ntmps57
    go_wp2_with (first | ((with_reducible refine gate_dst (N := 1) rfl ?_); refine box_event ?hg (N := 1) ?hd (cs := #[.int .i64 a0_0, .int .i64 a0_1]) (t := 41) ?hr ?_; (case hd => rfl); (case hg => rfl); (case hr => first | (go_simp; done) | (go_simp; rfl)); intro gb359 hg w3 hbox hb; have n0_ := Aside0.mk (below_step J0 hb); have n1_ := Aside0.mk (hbox); have n2_ := Aside0.mk ((J18 : w.heap.size ≤ gb359)); have n3_ := Aside0.mk ((J18 : w.heap.size ≤ gb359)); clear HB; have HB := n0_; have BK359 := n1_; have GW359 := n2_; have GE359 := n3_; clear n0_ n1_ n2_ n3_; clear hb hbox hg) | ((with_reducible refine gate_dst (N := 2) rfl ?_); refine box_event ?hg (N := 2) ?hd (cs := #[.int .i64 0, .int .i64 0]) (t := 41) ?hr ?_; (case hd => rfl); (case hg => rfl); (case hr => first | (go_simp; done) | (go_simp; rfl)); intro gb360 hg w4 hbox hb; have n0_ := Aside0.mk (blk_below (g := gb359) (o := .cells #[.int .i64 a0_0, .int .i64 a0_1] 41 (0, 0)) (zk BK359.out) hb); have n1_ := Aside0.mk (below_step (zs1 GE359.out) hb); have n2_ := Aside0.mk (hbox); have n3_ := Aside0.mk ((J82 : w.heap.size ≤ gb360)); have n4_ := Aside0.mk ((J82 : w.heap.size ≤ gb360)); have n5_ := Aside0.mk ((J88 : gb359 ≠ gb360)); have n6_ := Aside0.mk ((J89 : gb360 ≠ gb359)); clear BK359; clear HB; have BK359 := n0_; have HB := n1_; have BK360 := n2_; have GW360 := n3_; have GE360 := n4_; have NB359_360 := n5_; have NB360_359 := n6_; clear n0_ n1_ n2_ n3_ n4_ n5_ n6_; clear hb hbox hg; have hnb5 := NB359_360.out; have hnc5 := NB360_359.out; have hcz6_0 : w4.cell? ⟨gb359, 0, none⟩ = some (.int .i64 a0_0) := (blk_cell BK359.out 0).trans rfl; have hcz6_1 : w4.cell? ⟨gb359, 1, none⟩ = some (.int .i64 a0_1) := (blk_cell BK359.out 1).trans rfl; have hfz6_0 := blk_frozen BK359.out 0; have hfz6_1 := blk_frozen BK359.out 1; have hcz7_0 : w4.cell? ⟨gb360, 0, none⟩ = some (.int .i64 0) := (blk_cell BK360.out 0).trans rfl; have hcz7_1 : w4.cell? ⟨gb360, 1, none⟩ = some (.int .i64 0) := (blk_cell BK360.out 1).trans rfl; have hfz7_0 := blk_frozen BK360.out 0; have hfz7_1 := blk_frozen BK360.out 1))
    refine bodyPost_ret (results_ct rfl _ _ gb360 41 #[.int .i64 0, .int .i64 0] (0, 0) _ rfl J16 Try.underlying41 rfl J8) rfl ?_
    exact ⟨J3, J20⟩
  rw [if_neg c2] at H
  have c2b0 : (a0_0 == 0) = false := beq_eq_false_iff_ne.mpr c2
  have c2b1 : (a0_0 != 0) = true := bne_iff_ne.mpr c2
  have H' := Aside0.mk H
  clear H
  go_enter Try.func57, Try.ntmps57
  go_wp2_with (first | ((with_reducible refine gate_dst (N := 1) rfl ?_); refine box_event ?hg (N := 1) ?hd (cs := #[.int .i64 a0_0, .int .i64 a0_1]) (t := 41) ?hr ?_; (case hd => rfl); (case hg => rfl); (case hr => first | (go_simp; done) | (go_simp; rfl)); intro gb359 hg w8 hbox hb; have n0_ := Aside0.mk (below_step J0 hb); have n1_ := Aside0.mk (hbox); have n2_ := Aside0.mk ((J18 : w.heap.size ≤ gb359)); have n3_ := Aside0.mk ((J18 : w.heap.size ≤ gb359)); clear HB; have HB := n0_; have BK359 := n1_; have GW359 := n2_; have GE359 := n3_; clear n0_ n1_ n2_ n3_; clear hb hbox hg) | ((with_reducible refine gate_dst (N := 2) rfl ?_); refine box_event ?hg (N := 2) ?hd (cs := #[.int .i64 0, .int .i64 0]) (t := 41) ?hr ?_; (case hd => rfl); (case hg => rfl); (case hr => first | (go_simp; done) | (go_simp; rfl)); intro gb360 hg w9 hbox hb; have n0_ := Aside0.mk (blk_below (g := gb359) (o := .cells #[.int .i64 a0_0, .int .i64 a0_1] 41 (0, 0)) (zk BK359.out) hb); have n1_ := Aside0.mk (below_step (zs1 GE359.out) hb); have n2_ := Aside0.mk (hbox); have n3_ := Aside0.mk ((J82 : w.heap.size ≤ gb360)); have n4_ := Aside0.mk ((J82 : w.heap.size ≤ gb360)); have n5_ := Aside0.mk ((J88 : gb359 ≠ gb360)); have n6_ := Aside0.mk ((J89 : gb360 ≠ gb359)); clear BK359; clear HB; have BK359 := n0_; have HB := n1_; have BK360 := n2_; have GW360 := n3_; have GE360 := n4_; have NB359_360 := n5_; have NB360_359 := n6_; clear n0_ n1_ n2_ n3_ n4_ n5_ n6_; clear hb hbox hg; have hnb10 := NB359_360.out; have hnc10 := NB360_359.out; have hcz11_0 : w9.cell? ⟨gb359, 0, none⟩ = some (.int .i64 a0_0) := (blk_cell BK359.out 0).trans rfl; have hcz11_1 : w9.cell? ⟨gb359, 1, none⟩ = some (.int .i64 a0_1) := (blk_cell BK359.out 1).trans rfl; have hfz11_0 := blk_frozen BK359.out 0; have hfz11_1 := blk_frozen BK359.out 1))
  go_loopg [] k (fun kq w' => ∃ (x360000_1 : Int) (x360001_1 : Int), Aside0 (deckleref06_Norm.l0 kq x360000_1 x360001_1 = some (r1, r2, r3)) ∧ Aside0 (kq ≤ k) ∧ Aside0 (w'.heap[gb359]? = some (.cells #[.int .i64 x360000_1, .int .i64 x360001_1] 41 (0, 0))) ∧ Aside0 (w'.heap[gb360]? = some (.cells #[.int .i64 0, .int .i64 0] 41 (0, 0))) ∧ Aside0 (Below w.heap.size w w'))
  case atStart => exact ⟨(a0_0), (a0_1), H', ⟨Nat.le_refl _⟩, ⟨by (with_reducible repeat (first | refine blk_drewN ?_ _ | refine blk_drew ?_ | refine blk_alloc ?_ _)); exact BK359.out⟩, ⟨by (with_reducible repeat (first | refine blk_drewN ?_ _ | refine blk_drew ?_ | refine blk_alloc ?_ _)); exact BK360.out⟩, ⟨J20⟩⟩
  case round =>
    clear H'
    try clear c1
    try clear c2
    try clear c2b0
    try clear c2b1
    try clear p2
    try clear c5
    try clear c10
    try clear hcz11_0
    try clear hcz11_1
    try clear hcz6_0
    try clear hcz6_1
    try clear hcz7_0
    try clear hcz7_1
    try clear hfz11_0
    try clear hfz11_1
    try clear hfz6_0
    try clear hfz6_1
    try clear hfz7_0
    try clear hfz7_1
    obtain ⟨x360000_1, x360001_1, HA, HK1, BK359, BK360, HB⟩ := hrel
    cases gk with
    | zero => exact absurd HA.out (by simp [deckleref06_Norm.l0])
    | succ k1 =>
      have H := HA.out
      clear HA
      simp only [deckleref06_Norm.l0] at H
      by_cases c12 : (Int.tmod x360000_1 10) = 0
      rotate_left
      · rw [if_neg c12] at H
        have c12b0 : ((Int.tmod x360000_1 10) == 0) = false := beq_eq_false_iff_ne.mpr c12
        have c12b1 : ((Int.tmod x360000_1 10) != 0) = true := bne_iff_ne.mpr c12
        by_cases c27 : x360001_1 < (-32768)
        · rw [if_pos c27] at H
          have c27b0 := decide_eq_true c27
          clear c27
          simp only [Option.some.injEq, Prod.mk.injEq] at H
          obtain ⟨rfl, rfl, rfl⟩ := H
          have hnb28 := NB359_360.out
          have hnc28 := NB360_359.out
          obtain ⟨hcz29_0, hcz29_1, hfz29_0, hfz29_1⟩ := cz2 BK359.out
          obtain ⟨hcz30_0, hcz30_1, hfz30_0, hfz30_1⟩ := cz2 BK360.out
          go_wp2
          refine bodyPost_ret (results_ct rfl _ _ gb360 41 #[.int .i64 0, .int .i64 0] (0, 0) _ rfl J16 Try.underlying41 rfl J8) rfl ?_
          exact ⟨J3, J20⟩
        · rw [if_neg c27] at H
          have c27b0 := decide_eq_false c27
          clear c27
          by_cases c31 : x360001_1 > 32767
          · rw [if_pos c31] at H
            have c31b0 := decide_eq_true c31
            clear c31
            simp only [Option.some.injEq, Prod.mk.injEq] at H
            obtain ⟨rfl, rfl, rfl⟩ := H
            have hnb32 := NB359_360.out
            have hnc32 := NB360_359.out
            obtain ⟨hcz33_0, hcz33_1, hfz33_0, hfz33_1⟩ := cz2 BK359.out
            obtain ⟨hcz34_0, hcz34_1, hfz34_0, hfz34_1⟩ := cz2 BK360.out
            go_wp2
            refine bodyPost_ret (results_ct rfl _ _ gb360 41 #[.int .i64 0, .int .i64 0] (0, 0) _ rfl J16 Try.underlying41 rfl J8) rfl ?_
            exact ⟨J3, J20⟩
          · rw [if_neg c31] at H
            have c31b0 := decide_eq_false c31
            clear c31
            simp only [Option.some.injEq, Prod.mk.injEq] at H
            obtain ⟨rfl, rfl, rfl⟩ := H
            have hnb35 := NB359_360.out
            have hnc35 := NB360_359.out
            obtain ⟨hcz36_0, hcz36_1, hfz36_0, hfz36_1⟩ := cz2 BK359.out
            obtain ⟨hcz37_0, hcz37_1, hfz37_0, hfz37_1⟩ := cz2 BK360.out
            go_wp2
            refine bodyPost_ret (results_ct rfl _ _ gb360 41 #[.int .i64 x360000_1, .int .i64 x360001_1] (0, 0) _ rfl J45 Try.underlying41 rfl J8) rfl ?_
            exact ⟨J3, J20⟩
      rw [if_pos c12] at H
      have c12b0 : ((Int.tmod x360000_1 10) == 0) = true := beq_iff_eq.mpr c12
      have c12b1 : ((Int.tmod x360000_1 10) != 0) = false := bne_eq_false_iff_eq.mpr c12
      clear c12
      by_cases c13 : x360001_1 ≤ 32767
      · rw [if_pos c13] at H
        have c13b0 := decide_eq_true c13
        clear c13
        have H' := Aside0.mk H
        clear H
        have hnb14 := NB359_360.out
        have hnc14 := NB360_359.out
        obtain ⟨hcz15_0, hcz15_1, hfz15_0, hfz15_1⟩ := cz2 BK359.out
        go_wp2
        go_roundg k1
        case measure => have := HK1.out; omega
        case rel => exact ⟨(wrap64 (Int.tdiv x360000_1 10)), (wrap64 (x360001_1 + 1)), H', ⟨J51⟩, ⟨by (with_reducible repeat (first | refine blk_drewN ?_ _ | refine blk_drew ?_ | refine blk_alloc ?_ _)); refine blk_put (cs := #[.int .i64 (wrap64 (Int.tdiv x360000_1 10)), .int .i64 x360001_1]) ?_ 1 _ rfl; (with_reducible repeat (first | refine blk_drewN ?_ _ | refine blk_drew ?_ | refine blk_alloc ?_ _)); refine blk_put (cs := #[.int .i64 x360000_1, .int .i64 x360001_1]) ?_ 0 _ rfl; (with_reducible repeat (first | refine blk_drewN ?_ _ | refine blk_drew ?_ | refine blk_alloc ?_ _)); exact BK359.out⟩, ⟨by (with_reducible repeat (first | refine blk_drewN ?_ _ | refine blk_drew ?_ | refine blk_alloc ?_ _)); refine blk_far ?_ NB360_359.out _; (with_reducible repeat (first | refine blk_drewN ?_ _ | refine blk_drew ?_ | refine blk_alloc ?_ _)); refine blk_far ?_ NB360_359.out _; (with_reducible repeat (first | refine blk_drewN ?_ _ | refine blk_drew ?_ | refine blk_alloc ?_ _)); exact BK360.out⟩, ⟨J20⟩⟩
      rw [if_neg c13] at H
      have c13b0 := decide_eq_false c13
      clear c13
      by_cases c16 : x360001_1 < (-32768)
      · rw [if_pos c16] at H
        have c16b0 := decide_eq_true c16
        clear c16
        simp only [Option.some.injEq, Prod.mk.injEq] at H
        obtain ⟨rfl, rfl, rfl⟩ := H
        have hnb17 := NB359_360.out
        have hnc17 := NB360_359.out
        obtain ⟨hcz18_0, hcz18_1, hfz18_0, hfz18_1⟩ := cz2 BK359.out
        obtain ⟨hcz19_0, hcz19_1, hfz19_0, hfz19_1⟩ := cz2 BK360.out
        go_wp2
        refine bodyPost_ret (results_ct rfl _ _ gb360 41 #[.int .i64 0, .int .i64 0] (0, 0) _ rfl J16 Try.underlying41 rfl J8) rfl ?_
        exact ⟨J3, J20⟩
      rw [if_neg c16] at H
      have c16b0 := decide_eq_false c16
      clear c16
      by_cases c20 : x360001_1 > 32767
      rotate_left
      · rw [if_neg c20] at H
        have c20b0 := decide_eq_false c20
        clear c20
        simp only [Option.some.injEq, Prod.mk.injEq] at H
        obtain ⟨rfl, rfl, rfl⟩ := H
        have hnb24 := NB359_360.out
        have hnc24 := NB360_359.out
        obtain ⟨hcz25_0, hcz25_1, hfz25_0, hfz25_1⟩ := cz2 BK359.out
        obtain ⟨hcz26_0, hcz26_1, hfz26_0, hfz26_1⟩ := cz2 BK360.out
        go_wp2
        refine bodyPost_ret (results_ct rfl _ _ gb360 41 #[.int .i64 x360000_1, .int .i64 x360001_1] (0, 0) _ rfl J45 Try.underlying41 rfl J8) rfl ?_
        exact ⟨J3, J20⟩
      rw [if_pos c20] at H
      have c20b0 := decide_eq_true c20
      clear c20
      simp only [Option.some.injEq, Prod.mk.injEq] at H
      obtain ⟨rfl, rfl, rfl⟩ := H
      have hnb21 := NB359_360.out
      have hnc21 := NB360_359.out
      obtain ⟨hcz22_0, hcz22_1, hfz22_0, hfz22_1⟩ := cz2 BK359.out
      obtain ⟨hcz23_0, hcz23_1, hfz23_0, hfz23_1⟩ := cz2 BK360.out
      go_wp2
      refine bodyPost_ret (results_ct rfl _ _ gb360 41 #[.int .i64 0, .int .i64 0] (0, 0) _ rfl J16 Try.underlying41 rfl J8) rfl ?_
      exact ⟨J3, J20⟩
def deckleref06_Right.f (k : Nat) (a0_0 : Int) (a0_1 : Int) : Option (Bool) := (deckleref06_Norm.f k a0_0 a0_1).bind fun bt362 => (if bt362.2.2 = true then (some (bt362.1 == a0_0 && (bt362.2.1 == a0_1))) else (some false))
set_option maxHeartbeats 8000000 in
set_option maxRecDepth 100000 in
theorem deckleref06_Right.calls (k : Nat) (a0_0 : Int) (a0_1 : Int) (r : Bool) (w : World) (h : deckleref06_Right.f k a0_0 a0_1 = some r) :
    Calls Try.prog 51 #[.agg #[.int .i64 a0_0, .int .i64 a0_1]] w fun e w' => e = .returned (.bool r) ∧ Below w.heap.size w w' := by
  have hu41 := Try.underlying41
  have HB := Aside0.mk (Below.refl w.heap.size w)
  have H : ((deckleref06_Norm.f k a0_0 a0_1).bind fun bt362 => (if bt362.2.2 = true then (some (bt362.1 == a0_0 && (bt362.2.1 == a0_1))) else (some false))) = some r := h
  clear h
  replace H := Option.bind_eq_some_iff.mp H
  obtain ⟨⟨t362, t363, t364⟩, A20, H⟩ := H
  replace H : (if t364 = true then (some (t362 == a0_0 && (t363 == a0_1))) else (some false)) = some r := H
  have A2 := Aside0.mk A20
  clear A20
  by_cases c3 : t364 = true
  · subst c3
    have H1 : (some (t362 == a0_0 && (t363 == a0_1))) = some r := J17
    clear H
    have H := H1
    clear H1
    obtain rfl := Option.some.inj H
    go_enter Try.func51, Try.ntmps51
    go_wp2_with (first | ((with_reducible refine gate_dst (N := 1) rfl ?_); refine box_event ?hg (N := 1) ?hd (cs := #[.int .i64 a0_0, .int .i64 a0_1]) (t := 41) ?hr ?_; (case hd => rfl); (case hg => rfl); (case hr => first | (go_simp; done) | (go_simp; rfl)); intro gb361 hg w4 hbox hb; have n0_ := Aside0.mk (below_step J0 hb); have n1_ := Aside0.mk (hbox); have n2_ := Aside0.mk ((J18 : w.heap.size ≤ gb361)); have n3_ := Aside0.mk ((J18 : w.heap.size ≤ gb361)); clear HB; have HB := n0_; have BK361 := n1_; have GW361 := n2_; have GE361 := n3_; clear n0_ n1_ n2_ n3_; clear hb hbox hg; have hcz5_0 : w4.cell? ⟨gb361, 0, none⟩ = some (.int .i64 a0_0) := (blk_cell BK361.out 0).trans rfl; have hcz5_1 : w4.cell? ⟨gb361, 1, none⟩ = some (.int .i64 a0_1) := (blk_cell BK361.out 1).trans rfl; have hfz5_0 := blk_frozen BK361.out 0; have hfz5_1 := blk_frozen BK361.out 1) | ((with_reducible refine gate_callee (f := 57) rfl ?_); refine goesL_ (some 7) rfl rfl Try.func57 J8 rfl #[.agg #[.int .i64 a0_0, .int .i64 a0_1]] rfl J1 ?_; (with_reducible refine (deckleref06_Norm.calls k a0_0 a0_1 t362 t363 true _ A2.out).mono ?_); rintro e w6 ⟨rfl, hb⟩; refine ⟨_, rfl, ?_⟩; have n0_ := Aside0.mk (blk_below (g := gb361) (o := .cells #[.int .i64 a0_0, .int .i64 a0_1] 41 (0, 0)) (zk BK361.out) hb); have n1_ := Aside0.mk (below_step (zs1 GE361.out) hb); clear BK361; clear HB; have BK361 := n0_; have HB := n1_; clear n0_ n1_; (try clear hb); (try clear hb2); (try clear hk); (try clear hi)) | ((with_reducible refine gate_dst (N := 3) rfl ?_); refine box_event ?hg (N := 3) ?hd (cs := #[.int .i64 0, .int .i64 0]) (t := 41) ?hr ?_; (case hd => rfl); (case hg => rfl); (case hr => first | (go_simp; done) | (go_simp; rfl)); intro gb365 hg w7 hbox hb; have n0_ := Aside0.mk (blk_below (g := gb361) (o := .cells #[.int .i64 a0_0, .int .i64 a0_1] 41 (0, 0)) (zk BK361.out) hb); have n1_ := Aside0.mk (below_step (zs1 GE361.out) hb); have n2_ := Aside0.mk (hbox); have n3_ := Aside0.mk ((J83 : w.heap.size ≤ gb365)); have n4_ := Aside0.mk ((J83 : w.heap.size ≤ gb365)); have n5_ := Aside0.mk ((J90 : gb361 ≠ gb365)); have n6_ := Aside0.mk ((J91 : gb365 ≠ gb361)); clear BK361; clear HB; have BK361 := n0_; have HB := n1_; have BK365 := n2_; have GW365 := n3_; have GE365 := n4_; have NB361_365 := n5_; have NB365_361 := n6_; clear n0_ n1_ n2_ n3_ n4_ n5_ n6_; clear hb hbox hg; have hnb8 := NB365_361.out; have hnc8 := NB361_365.out; have hcz9_0 : w7.cell? ⟨gb365, 0, none⟩ = some (.int .i64 0) := (blk_cell BK365.out 0).trans rfl; have hcz9_1 : w7.cell? ⟨gb365, 1, none⟩ = some (.int .i64 0) := (blk_cell BK365.out 1).trans rfl; have hfz9_0 := blk_frozen BK365.out 0; have hfz9_1 := blk_frozen BK365.out 1; have hcz10_0 : w7.cell? ⟨gb361, 0, none⟩ = some (.int .i64 a0_0) := (blk_cell BK361.out 0).trans rfl; have hcz10_1 : w7.cell? ⟨gb361, 1, none⟩ = some (.int .i64 a0_1) := (blk_cell BK361.out 1).trans rfl; have hfz10_0 := blk_frozen BK361.out 0; have hfz10_1 := blk_frozen BK361.out 1))
    go_ret
    exact ⟨J3, J65⟩
  replace c3 := Bool.eq_false_iff.mpr c3
  subst c3
  have H1 : (some false) = some r := J10
  clear H
  have H := H1
  clear H1
  obtain rfl := Option.some.inj H
  go_enter Try.func51, Try.ntmps51
  go_wp2_with (first | ((with_reducible refine gate_dst (N := 1) rfl ?_); refine box_event ?hg (N := 1) ?hd (cs := #[.int .i64 a0_0, .int .i64 a0_1]) (t := 41) ?hr ?_; (case hd => rfl); (case hg => rfl); (case hr => first | (go_simp; done) | (go_simp; rfl)); intro gb361 hg w11 hbox hb; have n0_ := Aside0.mk (below_step J0 hb); have n1_ := Aside0.mk (hbox); have n2_ := Aside0.mk ((J18 : w.heap.size ≤ gb361)); have n3_ := Aside0.mk ((J18 : w.heap.size ≤ gb361)); clear HB; have HB := n0_; have BK361 := n1_; have GW361 := n2_; have GE361 := n3_; clear n0_ n1_ n2_ n3_; clear hb hbox hg; have hcz12_0 : w11.cell? ⟨gb361, 0, none⟩ = some (.int .i64 a0_0) := (blk_cell BK361.out 0).trans rfl; have hcz12_1 : w11.cell? ⟨gb361, 1, none⟩ = some (.int .i64 a0_1) := (blk_cell BK361.out 1).trans rfl; have hfz12_0 := blk_frozen BK361.out 0; have hfz12_1 := blk_frozen BK361.out 1) | ((with_reducible refine gate_callee (f := 57) rfl ?_); refine goesL_ (some 7) rfl rfl Try.func57 J8 rfl #[.agg #[.int .i64 a0_0, .int .i64 a0_1]] rfl J1 ?_; (with_reducible refine (deckleref06_Norm.calls k a0_0 a0_1 t362 t363 false _ A2.out).mono ?_); rintro e w13 ⟨rfl, hb⟩; refine ⟨_, rfl, ?_⟩; have n0_ := Aside0.mk (blk_below (g := gb361) (o := .cells #[.int .i64 a0_0, .int .i64 a0_1] 41 (0, 0)) (zk BK361.out) hb); have n1_ := Aside0.mk (below_step (zs1 GE361.out) hb); clear BK361; clear HB; have BK361 := n0_; have HB := n1_; clear n0_ n1_; (try clear hb); (try clear hb2); (try clear hk); (try clear hi)) | ((with_reducible refine gate_dst (N := 3) rfl ?_); refine box_event ?hg (N := 3) ?hd (cs := #[.int .i64 0, .int .i64 0]) (t := 41) ?hr ?_; (case hd => rfl); (case hg => rfl); (case hr => first | (go_simp; done) | (go_simp; rfl)); intro gb365 hg w14 hbox hb; have n0_ := Aside0.mk (blk_below (g := gb361) (o := .cells #[.int .i64 a0_0, .int .i64 a0_1] 41 (0, 0)) (zk BK361.out) hb); have n1_ := Aside0.mk (below_step (zs1 GE361.out) hb); have n2_ := Aside0.mk (hbox); have n3_ := Aside0.mk ((J83 : w.heap.size ≤ gb365)); have n4_ := Aside0.mk ((J83 : w.heap.size ≤ gb365)); have n5_ := Aside0.mk ((J90 : gb361 ≠ gb365)); have n6_ := Aside0.mk ((J91 : gb365 ≠ gb361)); clear BK361; clear HB; have BK361 := n0_; have HB := n1_; have BK365 := n2_; have GW365 := n3_; have GE365 := n4_; have NB361_365 := n5_; have NB365_361 := n6_; clear n0_ n1_ n2_ n3_ n4_ n5_ n6_; clear hb hbox hg; have hnb15 := NB365_361.out; have hnc15 := NB361_365.out; have hcz16_0 : w14.cell? ⟨gb365, 0, none⟩ = some (.int .i64 0) := (blk_cell BK365.out 0).trans rfl; have hcz16_1 : w14.cell? ⟨gb365, 1, none⟩ = some (.int .i64 0) := (blk_cell BK365.out 1).trans rfl; have hfz16_0 := blk_frozen BK365.out 0; have hfz16_1 := blk_frozen BK365.out 1))
  go_ret
  exact ⟨J3, J65⟩
end Go.Proofs.Ytgbmbcippldhnaa.HArrayTells
