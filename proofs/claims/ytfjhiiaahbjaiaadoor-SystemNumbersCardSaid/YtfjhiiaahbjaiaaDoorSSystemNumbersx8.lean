/- What the Go functions of this claim answer, told as functions of numbers and lists, and that other memory stays as it was: words and walks, shortened by a program. -/
import Derived.Test.YtfjhiiaahbjaiaaDoorSSystemNumbersx0
import Derived.Test.YtfjhiiaahbjaiaaDoorSSystemNumbersx1
namespace Go.Proofs.YtfjhiiaahbjaiaaDoor.HSystemSigns
open Go.RowKit Go.Proofs.YtfjhiiaahbjaiaaDoorW.PrintWords Go.Proofs.YtfjhiiaahbjaiaaDoorW.PrintLast Go.Proofs.YtfjhiiaahbjaiaaDoorW.PrintMore
attribute [local go_sem] max2_int min2_int max_two min_two max_three min_three max_four min_four
set_option linter.unusedVariables false
set_option linter.unusedSimpArgs false
attribute [local go_sem high] eqA40
def decimal_Norm.l0 : Nat → Int → Int → Option (Int × Int × Bool)
  | 0, _, _ => none
  | k + 1, x214000, x214001 => if (Int.tmod x214000 10) = 0 then (if x214001 ≤ 32767 then (decimal_Norm.l0 k (wrap64 (Int.tdiv x214000 10)) (wrap64 (x214001 + 1))) else (if x214001 < (-32768) then (some (0, 0, false)) else (if x214001 > 32767 then (some (0, 0, false)) else (some (x214000, x214001, true))))) else (if x214001 < (-32768) then (some (0, 0, false)) else (if x214001 > 32767 then (some (0, 0, false)) else (some (x214000, x214001, true))))
def decimal_Norm.f (k : Nat) (a0_0 : Int) (a0_1 : Int) : Option (Int × Int × Bool) := if a0_0 = 0 then (some (0, 0, true)) else (decimal_Norm.l0 k a0_0 a0_1)
theorem decimal_Norm.mono_l : ∀ k, (∀ y0 y1, LeO (decimal_Norm.l0 k y0 y1) (decimal_Norm.l0 (k + 1) y0 y1))
  | 0 => fun _ _ r h => by simp [decimal_Norm.l0] at h
  | k + 1 => by
    have ih0 := decimal_Norm.mono_l k
    · intro y0 y1
      unfold decimal_Norm.l0
      exact mz0
theorem decimal_Norm.mono : ∀ a0 a1 k, LeO (decimal_Norm.f k a0 a1) (decimal_Norm.f (k + 1) a0 a1) := by
  intro a0 a1 k
  have ih0 := decimal_Norm.mono_l k
  unfold decimal_Norm.f
  exact mz0
set_option maxHeartbeats 8000000 in
set_option maxRecDepth 100000 in
theorem decimal_Norm.calls (k : Nat) (a0_0 : Int) (a0_1 : Int) (r1 : Int) (r2 : Int) (r3 : Bool) (w : World) (h : decimal_Norm.f k a0_0 a0_1 = some (r1, r2, r3)) :
    Calls Tryd.prog 38 #[.agg #[.int .i64 a0_0, .int .i64 a0_1]] w fun e w' => e = .returned (.tuple #[.agg #[.int .i64 r1, .int .i64 r2], .bool r3]) ∧ Below w.heap.size w w' := by
  have hu40 := Tryd.underlying40
  have HB := zq (Below.refl w.heap.size w)
  have H : (if a0_0 = 0 then (some (0, 0, true)) else (decimal_Norm.l0 k a0_0 a0_1)) = some (r1, r2, r3) := h
  clear h
  by_cases c2 : a0_0 = 0
  · rw [if_pos c2] at H
    have c2b0 : (a0_0 == 0) = true := beq_iff_eq.mpr c2
    have c2b1 : (a0_0 != 0) = false := bne_eq_false_iff_eq.mpr c2
    clear c2
    simp only [Option.some.injEq, Prod.mk.injEq] at H
    obtain ⟨rfl, rfl, rfl⟩ := H
    go_enter Tryd.func38, Tryd.ntmps38
    go_wp2_with (first | ((with_reducible refine gate_dst (N := 1) rfl ?_); refine bxw 1 40 #[.int .i64 a0_0, .int .i64 a0_1] ?_; intro gb213 hg w3 hbox hb; have BK213 := zq (hbox); have GE213 := zq ((J12 : w.heap.size ≤ gb213)); replace HB := zq (below_step J0 hb); clear hb hbox hg) | ((with_reducible refine gate_dst (N := 2) rfl ?_); refine bxw 2 40 #[.int .i64 0, .int .i64 0] ?_; intro gb214 hg w4 hbox hb; have BK214 := zq (hbox); have GE214 := zq ((by rw [hg]; exact (below_size (zs1 GE213.out)) : w.heap.size ≤ gb214)); replace HB := zq (below_step (zs1 GE213.out) hb); have NB213_214 := zq ((J127 : gb213 ≠ gb214)); have NB214_213 := zq ((J128 : gb214 ≠ gb213)); replace BK213 := zq (blk_below (g := gb213) (o := .cells #[.int .i64 a0_0, .int .i64 a0_1] 40 (0, 0)) (zk BK213.out) hb); clear hb hbox hg; have hnb5 := NB213_214.out; have hnc5 := NB214_213.out; obtain ⟨hcz6_0, hcz6_1, hfz6_0, hfz6_1⟩ := cz2 BK213.out; obtain ⟨hcz7_0, hcz7_1, hfz7_0, hfz7_1⟩ := cz2 BK214.out))
    refine bodyPost_ret (results_ct rfl _ _ gb214 40 #[.int .i64 0, .int .i64 0] (0, 0) _ rfl J17 Tryd.underlying40 rfl J8) rfl ?_
    exact ⟨J2, J20⟩
  rw [if_neg c2] at H
  have c2b0 : (a0_0 == 0) = false := beq_eq_false_iff_ne.mpr c2
  have c2b1 : (a0_0 != 0) = true := bne_iff_ne.mpr c2
  have H' := zq H
  clear H
  go_enter Tryd.func38, Tryd.ntmps38
  go_wp2_with (first | ((with_reducible refine gate_dst (N := 1) rfl ?_); refine bxw 1 40 #[.int .i64 a0_0, .int .i64 a0_1] ?_; intro gb213 hg w8 hbox hb; have BK213 := zq (hbox); have GE213 := zq ((J12 : w.heap.size ≤ gb213)); replace HB := zq (below_step J0 hb); clear hb hbox hg) | ((with_reducible refine gate_dst (N := 2) rfl ?_); refine bxw 2 40 #[.int .i64 0, .int .i64 0] ?_; intro gb214 hg w9 hbox hb; have BK214 := zq (hbox); have GE214 := zq ((by rw [hg]; exact (below_size (zs1 GE213.out)) : w.heap.size ≤ gb214)); replace HB := zq (below_step (zs1 GE213.out) hb); have NB213_214 := zq ((J127 : gb213 ≠ gb214)); have NB214_213 := zq ((J128 : gb214 ≠ gb213)); replace BK213 := zq (blk_below (g := gb213) (o := .cells #[.int .i64 a0_0, .int .i64 a0_1] 40 (0, 0)) (zk BK213.out) hb); clear hb hbox hg; have hnb10 := NB213_214.out; have hnc10 := NB214_213.out; obtain ⟨hcz11_0, hcz11_1, hfz11_0, hfz11_1⟩ := cz2 BK213.out))
  go_loopg [] k (fun kq w' => ∃ (x214000_1 : Int) (x214001_1 : Int), Aside0 (decimal_Norm.l0 kq x214000_1 x214001_1 = some (r1, r2, r3)) ∧ Aside0 (kq ≤ k) ∧ Aside0 (w'.heap[gb213]? = some (.cells #[.int .i64 x214000_1, .int .i64 x214001_1] 40 (0, 0))) ∧ Aside0 (w'.heap[gb214]? = some (.cells #[.int .i64 0, .int .i64 0] 40 (0, 0))) ∧ Aside0 (Below w.heap.size w w'))
  case atStart => exact ⟨(a0_0), (a0_1), H', ⟨Nat.le_refl _⟩, ⟨by (with_reducible repeat (first | refine blk_drewN ?_ _ | refine blk_drew ?_ | refine blk_alloc ?_ _)); exact BK213.out⟩, ⟨by (with_reducible repeat (first | refine blk_drewN ?_ _ | refine blk_drew ?_ | refine blk_alloc ?_ _)); exact BK214.out⟩, ⟨J20⟩⟩
  case round =>
    clear H'
    try clear c1
    try clear c2
    try clear c2b0
    try clear c2b1
    try clear p2
    try clear c3
    try clear c5
    try clear c10
    try clear hcz11_0
    try clear hcz11_1
    try clear hcz6_0
    try clear hcz6_1
    try clear hcz7_0
    try clear hcz7_1
    try clear hfz11_0
    try clear hfz11_1
    try clear hfz6_0
    try clear hfz6_1
    try clear hfz7_0
    try clear hfz7_1
    obtain ⟨x214000_1, x214001_1, HA, HK1, BK213, BK214, HB⟩ := hrel
    cases gk with
    | zero => exact absurd HA.out (by simp [decimal_Norm.l0])
    | succ k1 =>
      have H := HA.out
      clear HA
      simp only [decimal_Norm.l0] at H
      by_cases c12 : (Int.tmod x214000_1 10) = 0
      rotate_left
      · rw [if_neg c12] at H
        have c12b0 : ((Int.tmod x214000_1 10) == 0) = false := beq_eq_false_iff_ne.mpr c12
        have c12b1 : ((Int.tmod x214000_1 10) != 0) = true := bne_iff_ne.mpr c12
        by_cases c27 : x214001_1 < (-32768)
        · rw [if_pos c27] at H
          have c27b0 := decide_eq_true c27
          clear c27
          simp only [Option.some.injEq, Prod.mk.injEq] at H
          obtain ⟨rfl, rfl, rfl⟩ := H
          have hnb28 := NB213_214.out
          have hnc28 := NB214_213.out
          obtain ⟨hcz29_0, hcz29_1, hfz29_0, hfz29_1⟩ := cz2 BK213.out
          obtain ⟨hcz30_0, hcz30_1, hfz30_0, hfz30_1⟩ := cz2 BK214.out
          go_wp2
          refine bodyPost_ret (results_ct rfl _ _ gb214 40 #[.int .i64 0, .int .i64 0] (0, 0) _ rfl J17 Tryd.underlying40 rfl J8) rfl ?_
          exact ⟨J2, J20⟩
        · rw [if_neg c27] at H
          have c27b0 := decide_eq_false c27
          clear c27
          by_cases c31 : x214001_1 > 32767
          · rw [if_pos c31] at H
            have c31b0 := decide_eq_true c31
            clear c31
            simp only [Option.some.injEq, Prod.mk.injEq] at H
            obtain ⟨rfl, rfl, rfl⟩ := H
            have hnb32 := NB213_214.out
            have hnc32 := NB214_213.out
            obtain ⟨hcz33_0, hcz33_1, hfz33_0, hfz33_1⟩ := cz2 BK213.out
            obtain ⟨hcz34_0, hcz34_1, hfz34_0, hfz34_1⟩ := cz2 BK214.out
            go_wp2
            refine bodyPost_ret (results_ct rfl _ _ gb214 40 #[.int .i64 0, .int .i64 0] (0, 0) _ rfl J17 Tryd.underlying40 rfl J8) rfl ?_
            exact ⟨J2, J20⟩
          · rw [if_neg c31] at H
            have c31b0 := decide_eq_false c31
            clear c31
            simp only [Option.some.injEq, Prod.mk.injEq] at H
            obtain ⟨rfl, rfl, rfl⟩ := H
            have hnb35 := NB213_214.out
            have hnc35 := NB214_213.out
            obtain ⟨hcz36_0, hcz36_1, hfz36_0, hfz36_1⟩ := cz2 BK213.out
            obtain ⟨hcz37_0, hcz37_1, hfz37_0, hfz37_1⟩ := cz2 BK214.out
            go_wp2
            refine bodyPost_ret (results_ct rfl _ _ gb214 40 #[.int .i64 x214000_1, .int .i64 x214001_1] (0, 0) _ rfl J72 Tryd.underlying40 rfl J8) rfl ?_
            exact ⟨J2, J20⟩
      rw [if_pos c12] at H
      have c12b0 : ((Int.tmod x214000_1 10) == 0) = true := beq_iff_eq.mpr c12
      have c12b1 : ((Int.tmod x214000_1 10) != 0) = false := bne_eq_false_iff_eq.mpr c12
      clear c12
      by_cases c13 : x214001_1 ≤ 32767
      · rw [if_pos c13] at H
        have c13b0 := decide_eq_true c13
        clear c13
        have H' := zq H
        clear H
        have hnb14 := NB213_214.out
        have hnc14 := NB214_213.out
        obtain ⟨hcz15_0, hcz15_1, hfz15_0, hfz15_1⟩ := cz2 BK213.out
        go_wp2
        go_roundg k1
        case measure => have := HK1.out; omega
        case rel => exact ⟨(wrap64 (Int.tdiv x214000_1 10)), (wrap64 (x214001_1 + 1)), H', ⟨J73⟩, ⟨by (with_reducible repeat (first | refine blk_drewN ?_ _ | refine blk_drew ?_ | refine blk_alloc ?_ _)); refine blk_put (cs := #[.int .i64 (wrap64 (Int.tdiv x214000_1 10)), .int .i64 x214001_1]) ?_ 1 _ rfl; (with_reducible repeat (first | refine blk_drewN ?_ _ | refine blk_drew ?_ | refine blk_alloc ?_ _)); refine blk_put (cs := #[.int .i64 x214000_1, .int .i64 x214001_1]) ?_ 0 _ rfl; (with_reducible repeat (first | refine blk_drewN ?_ _ | refine blk_drew ?_ | refine blk_alloc ?_ _)); exact BK213.out⟩, ⟨by (with_reducible repeat (first | refine blk_drewN ?_ _ | refine blk_drew ?_ | refine blk_alloc ?_ _)); refine blk_far ?_ NB214_213.out _; (with_reducible repeat (first | refine blk_drewN ?_ _ | refine blk_drew ?_ | refine blk_alloc ?_ _)); refine blk_far ?_ NB214_213.out _; (with_reducible repeat (first | refine blk_drewN ?_ _ | refine blk_drew ?_ | refine blk_alloc ?_ _)); exact BK214.out⟩, ⟨J20⟩⟩
      rw [if_neg c13] at H
      have c13b0 := decide_eq_false c13
      clear c13
      by_cases c16 : x214001_1 < (-32768)
      · rw [if_pos c16] at H
        have c16b0 := decide_eq_true c16
        clear c16
        simp only [Option.some.injEq, Prod.mk.injEq] at H
        obtain ⟨rfl, rfl, rfl⟩ := H
        have hnb17 := NB213_214.out
        have hnc17 := NB214_213.out
        obtain ⟨hcz18_0, hcz18_1, hfz18_0, hfz18_1⟩ := cz2 BK213.out
        obtain ⟨hcz19_0, hcz19_1, hfz19_0, hfz19_1⟩ := cz2 BK214.out
        go_wp2
        refine bodyPost_ret (results_ct rfl _ _ gb214 40 #[.int .i64 0, .int .i64 0] (0, 0) _ rfl J17 Tryd.underlying40 rfl J8) rfl ?_
        exact ⟨J2, J20⟩
      rw [if_neg c16] at H
      have c16b0 := decide_eq_false c16
      clear c16
      by_cases c20 : x214001_1 > 32767
      rotate_left
      · rw [if_neg c20] at H
        have c20b0 := decide_eq_false c20
        clear c20
        simp only [Option.some.injEq, Prod.mk.injEq] at H
        obtain ⟨rfl, rfl, rfl⟩ := H
        have hnb24 := NB213_214.out
        have hnc24 := NB214_213.out
        obtain ⟨hcz25_0, hcz25_1, hfz25_0, hfz25_1⟩ := cz2 BK213.out
        obtain ⟨hcz26_0, hcz26_1, hfz26_0, hfz26_1⟩ := cz2 BK214.out
        go_wp2
        refine bodyPost_ret (results_ct rfl _ _ gb214 40 #[.int .i64 x214000_1, .int .i64 x214001_1] (0, 0) _ rfl J72 Tryd.underlying40 rfl J8) rfl ?_
        exact ⟨J2, J20⟩
      rw [if_pos c20] at H
      have c20b0 := decide_eq_true c20
      clear c20
      simp only [Option.some.injEq, Prod.mk.injEq] at H
      obtain ⟨rfl, rfl, rfl⟩ := H
      have hnb21 := NB213_214.out
      have hnc21 := NB214_213.out
      obtain ⟨hcz22_0, hcz22_1, hfz22_0, hfz22_1⟩ := cz2 BK213.out
      obtain ⟨hcz23_0, hcz23_1, hfz23_0, hfz23_1⟩ := cz2 BK214.out
      go_wp2
      refine bodyPost_ret (results_ct rfl _ _ gb214 40 #[.int .i64 0, .int .i64 0] (0, 0) _ rfl J17 Tryd.underlying40 rfl J8) rfl ?_
      exact ⟨J2, J20⟩
def decimal_Right.f (k : Nat) (a0_0 : Int) (a0_1 : Int) : Option (Bool) := (decimal_Norm.f k a0_0 a0_1).bind fun bt216 => (if bt216.2.2 = true then (some (bt216.1 == a0_0 && (bt216.2.1 == a0_1))) else (some false))
theorem decimal_Right.mono : ∀ a0 a1 k, LeO (decimal_Right.f k a0 a1) (decimal_Right.f (k + 1) a0 a1) := by
  intro a0 a1 k
  unfold decimal_Right.f
  have im0 := @decimal_Norm.mono
  exact mz3
set_option maxHeartbeats 8000000 in
set_option maxRecDepth 100000 in
theorem decimal_Right.calls (k : Nat) (a0_0 : Int) (a0_1 : Int) (r : Bool) (w : World) (h : decimal_Right.f k a0_0 a0_1 = some r) :
    Calls Tryd.prog 28 #[.agg #[.int .i64 a0_0, .int .i64 a0_1]] w fun e w' => e = .returned (.bool r) ∧ Below w.heap.size w w' := by
  have hu40 := Tryd.underlying40
  have HB := zq (Below.refl w.heap.size w)
  have H : ((decimal_Norm.f k a0_0 a0_1).bind fun bt216 => (if bt216.2.2 = true then (some (bt216.1 == a0_0 && (bt216.2.1 == a0_1))) else (some false))) = some r := h
  clear h
  replace H := Option.bind_eq_some_iff.mp H
  obtain ⟨⟨t216, t217, t218⟩, A20, H⟩ := H
  dsimp only at H
  have A2 := zq A20
  clear A20
  by_cases c3 : t218 = true
  · subst c3
    rw [if_pos rfl] at H
    obtain rfl := Option.some.inj H
    go_enter Tryd.func28, Tryd.ntmps28
    go_wp2_with (first | ((with_reducible refine gate_dst (N := 1) rfl ?_); refine bxw 1 40 #[.int .i64 a0_0, .int .i64 a0_1] ?_; intro gb215 hg w4 hbox hb; have BK215 := zq (hbox); have GE215 := zq ((J12 : w.heap.size ≤ gb215)); replace HB := zq (below_step J0 hb); clear hb hbox hg; obtain ⟨hcz5_0, hcz5_1, hfz5_0, hfz5_1⟩ := cz2 BK215.out) | ((with_reducible refine gate_callee (f := 38) rfl ?_); refine goesL_ (some 7) rfl rfl Tryd.func38 J8 rfl #[.agg #[.int .i64 a0_0, .int .i64 a0_1]] rfl J1 ?_; (with_reducible refine (decimal_Norm.calls k a0_0 a0_1 t216 t217 true _ A2.out).mono ?_); rintro e w6 ⟨rfl, hb⟩; refine ⟨_, rfl, ?_⟩; replace BK215 := zq (blk_below (g := gb215) (o := .cells #[.int .i64 a0_0, .int .i64 a0_1] 40 (0, 0)) (zk BK215.out) hb); replace HB := zq (below_step (zs1 GE215.out) hb); (try clear hb)) | ((with_reducible refine gate_dst (N := 3) rfl ?_); refine bxw 3 40 #[.int .i64 0, .int .i64 0] ?_; intro gb219 hg w7 hbox hb; have BK219 := zq (hbox); have GE219 := zq ((by rw [hg]; exact (below_size (zs1 GE215.out)) : w.heap.size ≤ gb219)); replace HB := zq (below_step (zs1 GE215.out) hb); have NB215_219 := zq ((J129 : gb215 ≠ gb219)); have NB219_215 := zq ((J130 : gb219 ≠ gb215)); replace BK215 := zq (blk_below (g := gb215) (o := .cells #[.int .i64 a0_0, .int .i64 a0_1] 40 (0, 0)) (zk BK215.out) hb); clear hb hbox hg; have hnb8 := NB219_215.out; have hnc8 := NB215_219.out; obtain ⟨hcz9_0, hcz9_1, hfz9_0, hfz9_1⟩ := cz2 BK219.out; obtain ⟨hcz10_0, hcz10_1, hfz10_0, hfz10_1⟩ := cz2 BK215.out))
    go_ret
    exact ⟨J2, J106⟩
  replace c3 := Bool.eq_false_iff.mpr c3
  subst c3
  rw [if_neg (show ¬ (false = true) by decide)] at H
  obtain rfl := Option.some.inj H
  go_enter Tryd.func28, Tryd.ntmps28
  go_wp2_with (first | ((with_reducible refine gate_dst (N := 1) rfl ?_); refine bxw 1 40 #[.int .i64 a0_0, .int .i64 a0_1] ?_; intro gb215 hg w11 hbox hb; have BK215 := zq (hbox); have GE215 := zq ((J12 : w.heap.size ≤ gb215)); replace HB := zq (below_step J0 hb); clear hb hbox hg; obtain ⟨hcz12_0, hcz12_1, hfz12_0, hfz12_1⟩ := cz2 BK215.out) | ((with_reducible refine gate_callee (f := 38) rfl ?_); refine goesL_ (some 7) rfl rfl Tryd.func38 J8 rfl #[.agg #[.int .i64 a0_0, .int .i64 a0_1]] rfl J1 ?_; (with_reducible refine (decimal_Norm.calls k a0_0 a0_1 t216 t217 false _ A2.out).mono ?_); rintro e w13 ⟨rfl, hb⟩; refine ⟨_, rfl, ?_⟩; replace BK215 := zq (blk_below (g := gb215) (o := .cells #[.int .i64 a0_0, .int .i64 a0_1] 40 (0, 0)) (zk BK215.out) hb); replace HB := zq (below_step (zs1 GE215.out) hb); (try clear hb)) | ((with_reducible refine gate_dst (N := 3) rfl ?_); refine bxw 3 40 #[.int .i64 0, .int .i64 0] ?_; intro gb219 hg w14 hbox hb; have BK219 := zq (hbox); have GE219 := zq ((by rw [hg]; exact (below_size (zs1 GE215.out)) : w.heap.size ≤ gb219)); replace HB := zq (below_step (zs1 GE215.out) hb); have NB215_219 := zq ((J129 : gb215 ≠ gb219)); have NB219_215 := zq ((J130 : gb219 ≠ gb215)); clear hb hbox hg; have hnb15 := NB219_215.out; have hnc15 := NB215_219.out; obtain ⟨hcz16_0, hcz16_1, hfz16_0, hfz16_1⟩ := cz2 BK219.out))
  go_ret
  exact ⟨J2, J106⟩
def shape_Count_1.f (a0 : Int) : Option (Bool) := if a0 < 0 then (some true) else (some (decide (a0 > 1048576)))
set_option maxHeartbeats 8000000 in
set_option maxRecDepth 100000 in
theorem shape_Count_1.calls (a0 : Int) (r : Bool) (w : World) (h : shape_Count_1.f a0 = some r) :
    Calls Tryd.prog 64 #[.int .i64 a0] w fun e w' => e = .returned (.bool r) ∧ Drawn0 w w' := by
  have H : (if a0 < 0 then (some true) else (some (decide (a0 > 1048576)))) = some r := h
  clear h
  by_cases c2 : a0 < 0
  rotate_left
  · rw [if_neg c2] at H
    have c2b0 := decide_eq_false c2
    clear c2
    obtain rfl := Option.some.inj H
    go_enter Tryd.func64, Tryd.ntmps64
    go_wp2
    go_ret
    exact ⟨J4, J7⟩
  rw [if_pos c2] at H
  have c2b0 := decide_eq_true c2
  clear c2
  obtain rfl := Option.some.inj H
  go_enter Tryd.func64, Tryd.ntmps64
  go_wp2
  go_ret
  exact ⟨J4, J7⟩
theorem goesLv_ {P : Program} {ops : Array Oper} {Q : Exit → Act → World → Prop} {rest : List Oper} {oi : Oper} {a : Act} {w : World} (N : Option Tmp) (hd : oi.dst = N) (hg : oi.guard = none) {f : FuncId} {fn : Func} {as_ : Array Operand} {ts : Array TypeId} (hf : P.funcs[f]? = some fn) (hname : (fn.name == "runtime.NumGoroutine") = false) (hb : fn.body.isSome = true) (args : Array Value) (x : Operand)
    (hop : oi.op = .call { callee := .value x, args := as_, argTypes := ts }) (hx : a.eval x = .func (.func f) #[] #[]) (hargs : as_.map a.eval = args)
    (h : Calls P f args w fun e w' => ∃ v, e = .returned v ∧ wpList P ops Q rest (a.put N v) w') : wpList P ops Q (oi :: rest) a w := by
  refine wpList_plain hg fun K hK => ?_
  have he := enters_ hf hname hb args w
  have hrun : (execOp a.eval oi).run P w = .ok (.enter f args) w := by
    unfold execOp
    simp [hop, hx, resolve, Deferred.ofValue, invoke, hargs, he]
  unfold Oper.wp
  rw [hrun, Oper.upon_enter]
  refine h.mono fun e w'' hh => ?_
  obtain ⟨v, rfl, hk⟩ := hh
  subst hd
  exact hK _ _ hk
def slices_IndexFunc_int_int.l0 : Nat → List Int → Int → Int → Option (Int)
  | 0, _, _, _ => none
  | k + 1, x0, x7, x8 => if x8 < x7 then (if 0 ≤ x8 then (if x8 < (x0.length : Int) then ((shape_Count_1.f (rd x0 x8)).bind fun t221 => (if t221 = true then (some x8) else (slices_IndexFunc_int_int.l0 k x0 x7 (wrap64 (x8 + 1))))) else (none)) else (none)) else (some (-1))
def slices_IndexFunc_int_int.f (k : Nat) (l0 : List Int) : Option (Int) := slices_IndexFunc_int_int.l0 k l0 (l0.length : Int) 0
theorem slices_IndexFunc_int_int.mono_l : ∀ k, (∀ y0 y1 y2, LeO (slices_IndexFunc_int_int.l0 k y0 y1 y2) (slices_IndexFunc_int_int.l0 (k + 1) y0 y1 y2))
  | 0 => fun _ _ _ r h => by simp [slices_IndexFunc_int_int.l0] at h
  | k + 1 => by
    have ih0 := slices_IndexFunc_int_int.mono_l k
    · intro y0 y1 y2
      unfold slices_IndexFunc_int_int.l0
      exact mz0
theorem slices_IndexFunc_int_int.mono : ∀ a0 k, LeO (slices_IndexFunc_int_int.f k a0) (slices_IndexFunc_int_int.f (k + 1) a0) := by
  intro a0 k
  have ih0 := slices_IndexFunc_int_int.mono_l k
  unfold slices_IndexFunc_int_int.f
  exact mz0
set_option maxHeartbeats 8000000 in
set_option maxRecDepth 100000 in
theorem slices_IndexFunc_int_int.calls (k : Nat) (A0 : Option Addr) (c0 : Nat) (l0 : List Int) (r : Int) (w : World) (hr0 : Kd.C (Kd.int .i64) w A0 l0.length l0) (hc0 : l0.length ≤ c0) (h : slices_IndexFunc_int_int.f k l0 = some r) :
    Calls Tryd.prog 67 #[.slice A0 l0.length c0, .func (.func 64) #[] #[]] w fun e w' => e = .returned (.int .i64 r) ∧ Drawn0 w w' := by
  have HR0 := zq hr0
  have HC0 := zq hc0
  clear hr0 hc0
  have H : (slices_IndexFunc_int_int.l0 k l0 (l0.length : Int) 0) = some r := h
  clear h
  have H' := zq H
  clear H
  go_enter Tryd.func67, Tryd.ntmps67
  go_wp2
  go_loopg [8] k (fun kq v8 w' => ∃ (x8_1 : Int), v8 = .int .i64 x8_1 ∧ Aside0 (slices_IndexFunc_int_int.l0 kq l0 (l0.length : Int) x8_1 = some r) ∧ Aside0 (kq ≤ k) ∧ Drawn0 w w')
  case atStart => exact ⟨(0), J4, H', ⟨Nat.le_refl _⟩, J7⟩
  case round =>
    clear H'
    obtain ⟨x8_1, rfl, HA, HK1, ⟨m1, rfl⟩⟩ := hrel
    cases gk with
    | zero => exact absurd HA.out (by simp [slices_IndexFunc_int_int.l0])
    | succ k1 =>
      have H := HA.out
      clear HA
      simp only [slices_IndexFunc_int_int.l0] at H
      by_cases c2 : x8_1 < (l0.length : Int)
      rotate_left
      · rw [if_neg c2] at H
        have c2b0 := decide_eq_false c2
        clear c2
        obtain rfl := Option.some.inj H
        go_wp2
        go_ret
        exact ⟨J4, J7⟩
      rw [if_pos c2] at H
      have c2b0 := decide_eq_true c2
      clear c2
      by_cases c3 : 0 ≤ x8_1
      rotate_left
      · rw [if_neg c3] at H
        exact absurd H J32
      rw [if_pos c3] at H
      have c3b0 := decide_eq_true c3
      clear c3
      by_cases c4 : x8_1 < (l0.length : Int)
      rotate_left
      · rw [if_neg c4] at H
        exact absurd H J32
      rw [if_pos c4] at H
      have c4b0 := decide_eq_true c4
      clear c4
      replace H := Option.bind_eq_some_iff.mp H
      obtain ⟨t221, A50, H⟩ := H
      have A5 := zq A50
      clear A50
      by_cases c6 : t221 = true
      · subst c6
        rw [if_pos rfl] at H
        obtain rfl := Option.some.inj H
        have p220 : 0 ≤ (x8_1 : Int) := of_decide_eq_true J3
        have q220 : x8_1 < (l0.length : Int) := of_decide_eq_true J3
        obtain ⟨ad220, e220, hx220_0⟩ := Kd.at_int HR0.out x8_1 p220 q220
        cases e220
        replace p220 := eq_true p220
        replace q220 := eq_true q220
        go_wp2_with (first | ((with_reducible refine gate_dst (N := 16) rfl ?_); refine goesLv_ (some 16) rfl rfl Tryd.func64 J8 rfl #[.int .i64 (rd l0 x8_1)] (.tmp 11) rfl rfl J1 ?_; (with_reducible refine (shape_Count_1.calls (rd l0 x8_1) true _ A5.out).mono ?_); rintro e w' ⟨rfl, ⟨nd, rfl⟩⟩; refine ⟨_, rfl, ?_⟩))
        go_ret
        exact ⟨J4, J7⟩
      replace c6 := Bool.eq_false_iff.mpr c6
      subst c6
      rw [if_neg (show ¬ (false = true) by decide)] at H
      have H' := zq H
      clear H
      have p220 : 0 ≤ (x8_1 : Int) := of_decide_eq_true J3
      have q220 : x8_1 < (l0.length : Int) := of_decide_eq_true J3
      obtain ⟨ad220, e220, hx220_0⟩ := Kd.at_int HR0.out x8_1 p220 q220
      cases e220
      replace p220 := eq_true p220
      replace q220 := eq_true q220
      go_wp2_with (first | ((with_reducible refine gate_dst (N := 16) rfl ?_); refine goesLv_ (some 16) rfl rfl Tryd.func64 J8 rfl #[.int .i64 (rd l0 x8_1)] (.tmp 11) rfl rfl J1 ?_; (with_reducible refine (shape_Count_1.calls (rd l0 x8_1) false _ A5.out).mono ?_); rintro e w' ⟨rfl, ⟨nd, rfl⟩⟩; refine ⟨_, rfl, ?_⟩))
      go_roundg k1
      case measure => have := HK1.out; omega
      case rel => exact ⟨(wrap64 (x8_1 + 1)), J4, H', ⟨J73⟩, J7⟩
def slices_ContainsFunc_int_int.f (k : Nat) (l0 : List Int) : Option (Bool) := (slices_IndexFunc_int_int.f k l0).bind fun t222 => (some (decide (t222 ≥ 0)))
theorem slices_ContainsFunc_int_int.mono : ∀ a0 k, LeO (slices_ContainsFunc_int_int.f k a0) (slices_ContainsFunc_int_int.f (k + 1) a0) := by
  intro a0 k
  unfold slices_ContainsFunc_int_int.f
  have im0 := @slices_IndexFunc_int_int.mono
  exact mz3
set_option maxHeartbeats 8000000 in
set_option maxRecDepth 100000 in
theorem slices_ContainsFunc_int_int.calls (k : Nat) (A0 : Option Addr) (c0 : Nat) (l0 : List Int) (r : Bool) (w : World) (hr0 : Kd.C (Kd.int .i64) w A0 l0.length l0) (hc0 : l0.length ≤ c0) (h : slices_ContainsFunc_int_int.f k l0 = some r) :
    Calls Tryd.prog 46 #[.slice A0 l0.length c0, .func (.func 64) #[] #[]] w fun e w' => e = .returned (.bool r) ∧ Drawn0 w w' := by
  have HR0 := zq hr0
  have HC0 := zq hc0
  clear hr0 hc0
  have H : ((slices_IndexFunc_int_int.f k l0).bind fun t222 => (some (decide (t222 ≥ 0)))) = some r := h
  clear h
  replace H := Option.bind_eq_some_iff.mp H
  obtain ⟨t222, A20, H⟩ := H
  have A2 := zq A20
  clear A20
  obtain rfl := Option.some.inj H
  go_enter Tryd.func46, Tryd.ntmps46
  go_wp2_with (first | ((with_reducible refine gate_callee (f := 67) rfl ?_); refine goesL_ (some 7) rfl rfl Tryd.func67 J8 rfl #[.slice A0 l0.length c0, .func (.func 64) #[] #[]] rfl J1 ?_; (with_reducible refine (slices_IndexFunc_int_int.calls k _ _ l0 t222 _ ?side1 ?side2 A2.out).mono ?_); (case side1 => exact zc HR0.out); (case side2 => exact HC0.out); rintro e w' ⟨rfl, ⟨nd, rfl⟩⟩; refine ⟨_, rfl, ?_⟩))
  go_ret
  exact ⟨J4, J7⟩
def slices_Index_int_int.l0 : Nat → List Int → Int → Int → Int → Option (Int)
  | 0, _, _, _, _ => none
  | k + 1, x0, x1, x7, x8 => if x8 < x7 then (if 0 ≤ x8 then (if x8 < (x0.length : Int) then (if x1 = (rd x0 x8) then (some x8) else (slices_Index_int_int.l0 k x0 x1 x7 (wrap64 (x8 + 1)))) else (none)) else (none)) else (some (-1))
def slices_Index_int_int.f (k : Nat) (l0 : List Int) (a1 : Int) : Option (Int) := slices_Index_int_int.l0 k l0 a1 (l0.length : Int) 0
theorem slices_Index_int_int.mono_l : ∀ k, (∀ y0 y1 y2 y3, LeO (slices_Index_int_int.l0 k y0 y1 y2 y3) (slices_Index_int_int.l0 (k + 1) y0 y1 y2 y3))
  | 0 => fun _ _ _ _ r h => by simp [slices_Index_int_int.l0] at h
  | k + 1 => by
    have ih0 := slices_Index_int_int.mono_l k
    · intro y0 y1 y2 y3
      unfold slices_Index_int_int.l0
      exact mz0
theorem slices_Index_int_int.mono : ∀ a0 a1 k, LeO (slices_Index_int_int.f k a0 a1) (slices_Index_int_int.f (k + 1) a0 a1) := by
  intro a0 a1 k
  have ih0 := slices_Index_int_int.mono_l k
  unfold slices_Index_int_int.f
  exact mz0
set_option maxHeartbeats 8000000 in
set_option maxRecDepth 100000 in
theorem slices_Index_int_int.calls (k : Nat) (A0 : Option Addr) (c0 : Nat) (l0 : List Int) (a1 : Int) (r : Int) (w : World) (hr0 : Kd.C (Kd.int .i64) w A0 l0.length l0) (hc0 : l0.length ≤ c0) (h : slices_Index_int_int.f k l0 a1 = some r) :
    Calls Tryd.prog 80 #[.slice A0 l0.length c0, .int .i64 a1] w fun e w' => e = .returned (.int .i64 r) ∧ Drawn0 w w' := by
  have HR0 := zq hr0
  have HC0 := zq hc0
  clear hr0 hc0
  have H : (slices_Index_int_int.l0 k l0 a1 (l0.length : Int) 0) = some r := h
  clear h
  have H' := zq H
  clear H
  go_enter Tryd.func80, Tryd.ntmps80
  go_wp2
  go_loopg [8] k (fun kq v8 w' => ∃ (x8_1 : Int), v8 = .int .i64 x8_1 ∧ Aside0 (slices_Index_int_int.l0 kq l0 a1 (l0.length : Int) x8_1 = some r) ∧ Aside0 (kq ≤ k) ∧ Drawn0 w w')
  case atStart => exact ⟨(0), J4, H', ⟨Nat.le_refl _⟩, J7⟩
  case round =>
    clear H'
    try clear p2
    obtain ⟨x8_1, rfl, HA, HK1, ⟨m1, rfl⟩⟩ := hrel
    cases gk with
    | zero => exact absurd HA.out (by simp [slices_Index_int_int.l0])
    | succ k1 =>
      have H := HA.out
      clear HA
      simp only [slices_Index_int_int.l0] at H
      by_cases c3 : x8_1 < (l0.length : Int)
      rotate_left
      · rw [if_neg c3] at H
        have c3b0 := decide_eq_false c3
        clear c3
        obtain rfl := Option.some.inj H
        go_wp2
        go_ret
        exact ⟨J4, J7⟩
      rw [if_pos c3] at H
      have c3b0 := decide_eq_true c3
      clear c3
      by_cases c4 : 0 ≤ x8_1
      rotate_left
      · rw [if_neg c4] at H
        exact absurd H J32
      rw [if_pos c4] at H
      have c4b0 := decide_eq_true c4
      clear c4
      by_cases c5 : x8_1 < (l0.length : Int)
      rotate_left
      · rw [if_neg c5] at H
        exact absurd H J32
      rw [if_pos c5] at H
      have c5b0 := decide_eq_true c5
      clear c5
      by_cases c6 : a1 = (rd l0 x8_1)
      · rw [if_pos c6] at H
        have c6b0 : (a1 == (rd l0 x8_1)) = true := beq_iff_eq.mpr c6
        have c6b1 : (a1 != (rd l0 x8_1)) = false := bne_eq_false_iff_eq.mpr c6
        clear c6
        obtain rfl := Option.some.inj H
        have p223 : 0 ≤ (x8_1 : Int) := of_decide_eq_true J3
        have q223 : x8_1 < (l0.length : Int) := of_decide_eq_true J3
        obtain ⟨ad223, e223, hx223_0⟩ := Kd.at_int HR0.out x8_1 p223 q223
        cases e223
        replace p223 := eq_true p223
        replace q223 := eq_true q223
        go_wp2
        go_ret
        exact ⟨J4, J7⟩
      rw [if_neg c6] at H
      have c6b0 : (a1 == (rd l0 x8_1)) = false := beq_eq_false_iff_ne.mpr c6
      have c6b1 : (a1 != (rd l0 x8_1)) = true := bne_iff_ne.mpr c6
      have H' := zq H
      clear H
      have p223 : 0 ≤ (x8_1 : Int) := of_decide_eq_true J3
      have q223 : x8_1 < (l0.length : Int) := of_decide_eq_true J3
      obtain ⟨ad223, e223, hx223_0⟩ := Kd.at_int HR0.out x8_1 p223 q223
      cases e223
      replace p223 := eq_true p223
      replace q223 := eq_true q223
      go_wp2
      go_roundg k1
      case measure => have := HK1.out; omega
      case rel => exact ⟨(wrap64 (x8_1 + 1)), J4, H', ⟨J73⟩, J7⟩
def slices_Contains_int_int.f (k : Nat) (l0 : List Int) (a1 : Int) : Option (Bool) := (slices_Index_int_int.f k l0 a1).bind fun t224 => (some (decide (t224 ≥ 0)))
theorem slices_Contains_int_int.mono : ∀ a0 a1 k, LeO (slices_Contains_int_int.f k a0 a1) (slices_Contains_int_int.f (k + 1) a0 a1) := by
  intro a0 a1 k
  unfold slices_Contains_int_int.f
  have im0 := @slices_Index_int_int.mono
  exact mz3
set_option maxHeartbeats 8000000 in
set_option maxRecDepth 100000 in
theorem slices_Contains_int_int.calls (k : Nat) (A0 : Option Addr) (c0 : Nat) (l0 : List Int) (a1 : Int) (r : Bool) (w : World) (hr0 : Kd.C (Kd.int .i64) w A0 l0.length l0) (hc0 : l0.length ≤ c0) (h : slices_Contains_int_int.f k l0 a1 = some r) :
    Calls Tryd.prog 65 #[.slice A0 l0.length c0, .int .i64 a1] w fun e w' => e = .returned (.bool r) ∧ Drawn0 w w' := by
  have HR0 := zq hr0
  have HC0 := zq hc0
  clear hr0 hc0
  have H : ((slices_Index_int_int.f k l0 a1).bind fun t224 => (some (decide (t224 ≥ 0)))) = some r := h
  clear h
  replace H := Option.bind_eq_some_iff.mp H
  obtain ⟨t224, A30, H⟩ := H
  have A3 := zq A30
  clear A30
  obtain rfl := Option.some.inj H
  go_enter Tryd.func65, Tryd.ntmps65
  go_wp2_with (first | ((with_reducible refine gate_callee (f := 80) rfl ?_); refine goesL_ (some 7) rfl rfl Tryd.func80 J8 rfl #[.slice A0 l0.length c0, .int .i64 a1] rfl J1 ?_; (with_reducible refine (slices_Index_int_int.calls k _ _ l0 a1 t224 _ ?side1 ?side2 A3.out).mono ?_); (case side1 => exact zc HR0.out); (case side2 => exact HC0.out); rintro e w' ⟨rfl, ⟨nd, rfl⟩⟩; refine ⟨_, rfl, ?_⟩))
  go_ret
  exact ⟨J4, J7⟩
mutual
def shape_Count.j0 : Nat → List Int → Bool → Option (Int × Bool)
  | 0, _, _ => none
  | k + 1, x0, x8 => if x8 = true then (some (0, false)) else ((slices_Contains_int_int.f k x0 0).bind fun t226 => (if t226 = true then (some (0, true)) else (shape_Count.l0 k 1 x0 (x0.length : Int) 0)))
def shape_Count.l0 : Nat → Int → List Int → Int → Int → Option (Int × Bool)
  | 0, _, _, _, _ => none
  | k + 1, x5, x20, x21, x22 => if x22 < x21 then (if 0 ≤ x22 then (if x22 < (x20.length : Int) then ((shape_Count_1.f (wrap64 (x5 * (rd x20 x22)))).bind fun t228 => (if t228 = true then (some (0, false)) else (shape_Count.l0 k (wrap64 (x5 * (rd x20 x22))) x20 x21 (wrap64 (x22 + 1))))) else (none)) else (none)) else (some (x5, true))
end
def shape_Count.f (k : Nat) (l0 : List Int) : Option (Int × Bool) := if (l0.length : Int) > 16 then (shape_Count.j0 k l0 true) else ((slices_ContainsFunc_int_int.f k l0).bind fun t225 => (shape_Count.j0 k l0 t225))
theorem shape_Count.mono_l : ∀ k, (∀ y0 y1, LeO (shape_Count.j0 k y0 y1) (shape_Count.j0 (k + 1) y0 y1)) ∧ (∀ y0 y1 y2 y3, LeO (shape_Count.l0 k y0 y1 y2 y3) (shape_Count.l0 (k + 1) y0 y1 y2 y3))
  | 0 => ⟨fun _ _ r h => by simp [shape_Count.j0] at h, fun _ _ _ _ r h => by simp [shape_Count.l0] at h⟩
  | k + 1 => by
    obtain ⟨ih0, ih1⟩ := shape_Count.mono_l k
    refine ⟨?_, ?_⟩
    · intro y0 y1
      unfold shape_Count.j0
      have im0 := @slices_ContainsFunc_int_int.mono
      have im1 := @slices_Contains_int_int.mono
      exact mz3
    · intro y0 y1 y2 y3
      unfold shape_Count.l0
      have im0 := @slices_ContainsFunc_int_int.mono
      have im1 := @slices_Contains_int_int.mono
      exact mz3
theorem shape_Count.mono : ∀ a0 k, LeO (shape_Count.f k a0) (shape_Count.f (k + 1) a0) := by
  intro a0 k
  obtain ⟨ih0, ih1⟩ := shape_Count.mono_l k
  unfold shape_Count.f
  have im0 := @slices_ContainsFunc_int_int.mono
  have im1 := @slices_Contains_int_int.mono
  exact mz3
set_option maxHeartbeats 8000000 in
set_option maxRecDepth 100000 in
theorem shape_Count.calls (k : Nat) (A0 : Option Addr) (c0 : Nat) (l0 : List Int) (r1 : Int) (r2 : Bool) (w : World) (hr0 : Kd.C (Kd.int .i64) w A0 l0.length l0) (hc0 : l0.length ≤ c0) (h : shape_Count.f k l0 = some (r1, r2)) :
    Calls Tryd.prog 40 #[.slice A0 l0.length c0] w fun e w' => e = .returned (.tuple #[.int .i64 r1, .bool r2]) ∧ Drawn0 w w' := by
  have HR0 := zq hr0
  have HC0 := zq hc0
  clear hr0 hc0
  have H : (if (l0.length : Int) > 16 then (shape_Count.j0 k l0 true) else ((slices_ContainsFunc_int_int.f k l0).bind fun t225 => (shape_Count.j0 k l0 t225))) = some (r1, r2) := h
  clear h
  have HC2 := zq H
  clear H
  go_enter Tryd.func40, Tryd.ntmps40
  go_upto_region 2 with (fail)
  go_cut [8] (fun v8 wc => ∃ (kq : Nat) (x8_1 : Bool), v8 = .bool x8_1 ∧ Aside0 (shape_Count.j0 kq l0 x8_1 = some (r1, r2)) ∧ Aside0 (kq ≤ k) ∧ Drawn0 w wc)
  case first =>
    have H := HC2.out
    clear HC2
    by_cases c3 : (l0.length : Int) > 16
    · rw [if_pos c3] at H
      have c3b0 := decide_eq_true c3
      have c3b1 : decide (16 < l0.length) = true := decide_eq_true J26
      clear c3
      (first | rw [c3b0] | (simp only [i64_w, i32_w]; rw [c3b0]) | skip)
      have H' := zq H
      clear H
      go_wp2
      go_meet
      case rel => exact ⟨_, (true), J4, H', ⟨J33⟩, J7⟩
    rw [if_neg c3] at H
    have c3b0 := decide_eq_false c3
    have c3b1 : decide (16 < l0.length) = false := decide_eq_false J26
    clear c3
    (first | rw [c3b0] | (simp only [i64_w, i32_w]; rw [c3b0]) | skip)
    replace H := Option.bind_eq_some_iff.mp H
    obtain ⟨t225, A40, H⟩ := H
    have A4 := zq A40
    clear A40
    have H' := zq H
    clear H
    go_wp2_with (first | (go_at_call 46; (with_reducible refine (slices_ContainsFunc_int_int.calls k _ _ l0 t225 _ ?side1 ?side2 A4.out).mono ?_); (case side1 => exact zc HR0.out); (case side2 => exact HC0.out); rintro e w' ⟨rfl, ⟨nd, rfl⟩⟩))
    go_meet
    case rel => exact ⟨_, (t225), J4, H', ⟨J33⟩, J7⟩
  case rest =>
    clear HC2
    try clear p2
    try clear c3
    try clear c3b0
    try clear c3b1
    try clear c4
    obtain ⟨kq, x8_1, rfl, HA, HJ1, ⟨mc1, rfl⟩⟩ := hcut
    cases kq with
    | zero => exact absurd HA.out (by simp [shape_Count.j0])
    | succ kj1 =>
      have H := HA.out
      clear HA
      simp only [shape_Count.j0] at H
      by_cases c5 : x8_1 = true
      · subst c5
        rw [if_pos rfl] at H
        simp only [Option.some.injEq, Prod.mk.injEq] at H
        obtain ⟨rfl, rfl⟩ := H
        go_wp2
        go_ret2
        exact ⟨J4, J7⟩
      replace c5 := Bool.eq_false_iff.mpr c5
      subst c5
      rw [if_neg (show ¬ (false = true) by decide)] at H
      replace H := Option.bind_eq_some_iff.mp H
      obtain ⟨t226, A60, H⟩ := H
      have A6 := zq A60
      clear A60
      by_cases c7 : t226 = true
      · subst c7
        rw [if_pos rfl] at H
        simp only [Option.some.injEq, Prod.mk.injEq] at H
        obtain ⟨rfl, rfl⟩ := H
        go_wp2_with (first | ((with_reducible refine gate_callee (f := 65) rfl ?_); refine goesL_ (some 19) rfl rfl Tryd.func65 J8 rfl #[.slice A0 l0.length c0, .int .i64 0] rfl J1 ?_; (with_reducible refine (slices_Contains_int_int.calls kj1 _ _ l0 0 true _ ?side1 ?side2 A6.out).mono ?_); (case side1 => exact zc HR0.out); (case side2 => exact HC0.out); rintro e w' ⟨rfl, ⟨nd, rfl⟩⟩; refine ⟨_, rfl, ?_⟩))
        go_ret2
        exact ⟨J4, J7⟩
      replace c7 := Bool.eq_false_iff.mpr c7
      subst c7
      rw [if_neg (show ¬ (false = true) by decide)] at H
      have H' := zq H
      clear H
      go_wp2_with (first | ((with_reducible refine gate_callee (f := 65) rfl ?_); refine goesL_ (some 19) rfl rfl Tryd.func65 J8 rfl #[.slice A0 l0.length c0, .int .i64 0] rfl J1 ?_; (with_reducible refine (slices_Contains_int_int.calls kj1 _ _ l0 0 false _ ?side1 ?side2 A6.out).mono ?_); (case side1 => exact zc HR0.out); (case side2 => exact HC0.out); rintro e w' ⟨rfl, ⟨nd, rfl⟩⟩; refine ⟨_, rfl, ?_⟩))
      go_loopg [5, 22] kj1 (fun kq v5 v22 w' => ∃ (x5_2 : Int) (x22_2 : Int), v5 = .int .i64 x5_2 ∧ v22 = .int .i64 x22_2 ∧ Aside0 (shape_Count.l0 kq x5_2 l0 (l0.length : Int) x22_2 = some (r1, r2)) ∧ Aside0 (kq ≤ kj1) ∧ Drawn0 w w')
      case atStart => exact ⟨(1), (0), J4, J4, H', ⟨Nat.le_refl _⟩, J7⟩
      case round =>
        clear H'
        try clear c1
        try clear p2
        try clear c3
        try clear c3b0
        try clear c3b1
        try clear c4
        try clear c5
        try clear c6
        try clear c7
        try clear p2
        obtain ⟨x5_2, x22_2, rfl, rfl, HA, HK2, ⟨m2, rfl⟩⟩ := hrel
        cases gk with
        | zero => exact absurd HA.out (by simp [shape_Count.l0])
        | succ k2 =>
          have H := HA.out
          clear HA
          simp only [shape_Count.l0] at H
          by_cases c8 : x22_2 < (l0.length : Int)
          rotate_left
          · rw [if_neg c8] at H
            have c8b0 := decide_eq_false c8
            clear c8
            simp only [Option.some.injEq, Prod.mk.injEq] at H
            obtain ⟨rfl, rfl⟩ := H
            go_wp2
            go_ret2
            exact ⟨J4, J7⟩
          rw [if_pos c8] at H
          have c8b0 := decide_eq_true c8
          clear c8
          by_cases c9 : 0 ≤ x22_2
          rotate_left
          · rw [if_neg c9] at H
            exact absurd H J32
          rw [if_pos c9] at H
          have c9b0 := decide_eq_true c9
          clear c9
          by_cases c10 : x22_2 < (l0.length : Int)
          rotate_left
          · rw [if_neg c10] at H
            exact absurd H J32
          rw [if_pos c10] at H
          have c10b0 := decide_eq_true c10
          clear c10
          replace H := Option.bind_eq_some_iff.mp H
          obtain ⟨t228, A110, H⟩ := H
          have A11 := zq A110
          clear A110
          by_cases c12 : t228 = true
          · subst c12
            rw [if_pos rfl] at H
            simp only [Option.some.injEq, Prod.mk.injEq] at H
            obtain ⟨rfl, rfl⟩ := H
            have p227 : 0 ≤ (x22_2 : Int) := of_decide_eq_true J3
            have q227 : x22_2 < (l0.length : Int) := of_decide_eq_true J3
            obtain ⟨ad227, e227, hx227_0⟩ := Kd.at_int HR0.out x22_2 p227 q227
            cases e227
            replace p227 := eq_true p227
            replace q227 := eq_true q227
            go_wp2_with (first | ((with_reducible refine gate_dst (N := 31) rfl ?_); refine goesLv_ (some 31) rfl rfl Tryd.func64 J8 rfl #[.int .i64 (wrap64 (x5_2 * (rd l0 x22_2)))] (.tmp 29) rfl rfl J1 ?_; (with_reducible refine (shape_Count_1.calls (wrap64 (x5_2 * (rd l0 x22_2))) true _ A11.out).mono ?_); rintro e w' ⟨rfl, ⟨nd, rfl⟩⟩; refine ⟨_, rfl, ?_⟩))
            go_ret2
            exact ⟨J4, J7⟩
          replace c12 := Bool.eq_false_iff.mpr c12
          subst c12
          rw [if_neg (show ¬ (false = true) by decide)] at H
          have H' := zq H
          clear H
          have p227 : 0 ≤ (x22_2 : Int) := of_decide_eq_true J3
          have q227 : x22_2 < (l0.length : Int) := of_decide_eq_true J3
          obtain ⟨ad227, e227, hx227_0⟩ := Kd.at_int HR0.out x22_2 p227 q227
          cases e227
          replace p227 := eq_true p227
          replace q227 := eq_true q227
          go_wp2_with (first | ((with_reducible refine gate_dst (N := 31) rfl ?_); refine goesLv_ (some 31) rfl rfl Tryd.func64 J8 rfl #[.int .i64 (wrap64 (x5_2 * (rd l0 x22_2)))] (.tmp 29) rfl rfl J1 ?_; (with_reducible refine (shape_Count_1.calls (wrap64 (x5_2 * (rd l0 x22_2))) false _ A11.out).mono ?_); rintro e w' ⟨rfl, ⟨nd, rfl⟩⟩; refine ⟨_, rfl, ?_⟩))
          go_roundg k2
          case measure => have := HJ1.out; have := HK2.out; omega
          case rel => exact ⟨(wrap64 (x5_2 * (rd l0 x22_2))), (wrap64 (x22_2 + 1)), J4, J4, H', ⟨by have := HJ1.out; have := HK2.out; omega⟩, J7⟩
end Go.Proofs.YtfjhiiaahbjaiaaDoor.HSystemSigns
