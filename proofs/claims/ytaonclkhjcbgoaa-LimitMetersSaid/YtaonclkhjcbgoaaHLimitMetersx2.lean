-- Written by the session's program hy.py.
import Derived.Test.YtaonclkhjcbgoaaHLimitMetersx0
namespace Go.Proofs.Ytaonclkhjcbgoaa.HLimitMeters
open Go.RowKit Go.Proofs.YtaonclkhjcbgoaaW.PrintWords Go.Proofs.YtaonclkhjcbgoaaW.PrintLast Go.Proofs.YtaonclkhjcbgoaaW.PrintMore
attribute [local go_sem] max2_int min2_int max_two min_two max_three min_three max_four min_four   -- for this text's walks alone
set_option linter.unusedVariables false
set_option linter.unusedSimpArgs false

/-! ### limit_fair: function 22 -/
def limit_fair.f (a0_0 : Int) (a0_1 : Int) (a0_2 : Int) (a0_3 : Int) (a0_4 : Int) : Option (Int × Int × Int × Int × Int) := some (mx a0_0 0, mx a0_1 0, mx a0_2 0, mx a0_3 0, mx a0_4 0)
set_option maxHeartbeats 8000000 in
set_option maxRecDepth 100000 in
theorem limit_fair.calls (a0_0 : Int) (a0_1 : Int) (a0_2 : Int) (a0_3 : Int) (a0_4 : Int) (r1 : Int) (r2 : Int) (r3 : Int) (r4 : Int) (r5 : Int) (w : World) (h : limit_fair.f a0_0 a0_1 a0_2 a0_3 a0_4 = some (r1, r2, r3, r4, r5)) :
    Calls Try.prog 22 #[.agg #[.int .i64 a0_0, .int .i64 a0_1, .int .i64 a0_2, .int .i64 a0_3, .int .i64 a0_4]] w fun e w' => e = .returned (.agg #[.int .i64 r1, .int .i64 r2, .int .i64 r3, .int .i64 r4, .int .i64 r5]) ∧ Below w.heap.size w w' := by
  have hu23 := Try.underlying23
  have HB := Aside0.mk (Below.refl w.heap.size w)
  have H : (some (mx a0_0 0, mx a0_1 0, mx a0_2 0, mx a0_3 0, mx a0_4 0)) = some (r1, r2, r3, r4, r5) := h
  clear h
  obtain ⟨ji2, hji2⟩ : ∃ j_ : Int, (mx a0_0 0) = j_ := ⟨_, rfl⟩
  replace H : (some (ji2, mx a0_1 0, mx a0_2 0, mx a0_3 0, mx a0_4 0)) = some (r1, r2, r3, r4, r5) := by first | (rw [hji2] at H; exact H) | (simp only [hji2] at H ⊢; exact H)
  (try (have hji2l : 0 ≤ ji2 := by (rw [← hji2]; unfold mx; (repeat' split) <;> omega)))
  (try (have hji2m : 0 ≤ ji2 := by omega))
  have hji2_ : (if a0_0 < 0 then 0 else a0_0) = ji2 := hji2
  obtain ⟨ji3, hji3⟩ : ∃ j_ : Int, (mx a0_1 0) = j_ := ⟨_, rfl⟩
  replace H : (some (ji2, ji3, mx a0_2 0, mx a0_3 0, mx a0_4 0)) = some (r1, r2, r3, r4, r5) := by first | (rw [hji3] at H; exact H) | (simp only [hji3] at H ⊢; exact H)
  (try (have hji3l : 0 ≤ ji3 := by (rw [← hji3]; unfold mx; (repeat' split) <;> omega)))
  (try (have hji3m : 0 ≤ ji3 := by omega))
  have hji3_ : (if a0_1 < 0 then 0 else a0_1) = ji3 := hji3
  obtain ⟨ji4, hji4⟩ : ∃ j_ : Int, (mx a0_2 0) = j_ := ⟨_, rfl⟩
  replace H : (some (ji2, ji3, ji4, mx a0_3 0, mx a0_4 0)) = some (r1, r2, r3, r4, r5) := by first | (rw [hji4] at H; exact H) | (simp only [hji4] at H ⊢; exact H)
  (try (have hji4l : 0 ≤ ji4 := by (rw [← hji4]; unfold mx; (repeat' split) <;> omega)))
  (try (have hji4m : 0 ≤ ji4 := by omega))
  have hji4_ : (if a0_2 < 0 then 0 else a0_2) = ji4 := hji4
  obtain ⟨ji5, hji5⟩ : ∃ j_ : Int, (mx a0_3 0) = j_ := ⟨_, rfl⟩
  replace H : (some (ji2, ji3, ji4, ji5, mx a0_4 0)) = some (r1, r2, r3, r4, r5) := by first | (rw [hji5] at H; exact H) | (simp only [hji5] at H ⊢; exact H)
  (try (have hji5l : 0 ≤ ji5 := by (rw [← hji5]; unfold mx; (repeat' split) <;> omega)))
  (try (have hji5m : 0 ≤ ji5 := by omega))
  have hji5_ : (if a0_3 < 0 then 0 else a0_3) = ji5 := hji5
  obtain ⟨ji6, hji6⟩ : ∃ j_ : Int, (mx a0_4 0) = j_ := ⟨_, rfl⟩
  replace H : (some (ji2, ji3, ji4, ji5, ji6)) = some (r1, r2, r3, r4, r5) := by first | (rw [hji6] at H; exact H) | (simp only [hji6] at H ⊢; exact H)
  (try (have hji6l : 0 ≤ ji6 := by (rw [← hji6]; unfold mx; (repeat' split) <;> omega)))
  (try (have hji6m : 0 ≤ ji6 := by omega))
  have hji6_ : (if a0_4 < 0 then 0 else a0_4) = ji6 := hji6
  simp only [Option.some.injEq, Prod.mk.injEq] at H
  obtain ⟨rfl, rfl, rfl, rfl, rfl⟩ := H
  go_enter Try.func22, Try.ntmps22
  go_wp2_with (first | ((with_reducible refine gate_dst (N := 1) rfl ?_); refine box_event ?hg (N := 1) ?hd (cs := #[.int .i64 a0_0, .int .i64 a0_1, .int .i64 a0_2, .int .i64 a0_3, .int .i64 a0_4]) (t := 23) ?hr ?_; (case hd => rfl); (case hg => rfl); (case hr => first | (go_simp; done) | (go_simp; rfl)); intro gb101 hg w7 hbox hb; have n0_ := Aside0.mk (below_step (by repeat (first | (with_reducible first | exact HB.out | apply below_alloc | apply pw_below_drewN | apply below_drew1) | exact HB.out)) hb); have n1_ := Aside0.mk (hbox); have n2_ := Aside0.mk ((by rw [hg]; exact (below_size (by repeat (first | (with_reducible first | exact HB.out | apply below_alloc | apply pw_below_drewN | apply below_drew1) | exact HB.out))) : w.heap.size ≤ gb101)); have n3_ := Aside0.mk ((by rw [hg]; exact (below_size (by repeat (first | (with_reducible first | exact HB.out | apply below_alloc | apply pw_below_drewN | apply below_drew1) | exact HB.out))) : w.heap.size ≤ gb101)); clear HB; have HB := n0_; have BK101 := n1_; have GW101 := n2_; have GE101 := n3_; clear n0_ n1_ n2_ n3_; clear hb hbox hg) | ((with_reducible refine gate_dst (N := 2) rfl ?_); refine box_event ?hg (N := 2) ?hd (cs := #[.int .i64 0, .int .i64 0, .int .i64 0, .int .i64 0, .int .i64 0]) (t := 23) ?hr ?_; (case hd => rfl); (case hg => rfl); (case hr => first | (go_simp; done) | (go_simp; rfl)); intro gb102 hg w8 hbox hb; have n0_ := Aside0.mk (blk_below (g := gb101) (o := .cells #[.int .i64 a0_0, .int .i64 a0_1, .int .i64 a0_2, .int .i64 a0_3, .int .i64 a0_4] 23 (0, 0)) (by (with_reducible repeat (first | refine blk_drewN ?_ _ | refine blk_drew ?_ | refine blk_alloc ?_ _)); exact BK101.out) hb); have n1_ := Aside0.mk (below_step (by repeat (first | (with_reducible first | exact HB.out | apply below_alloc | apply pw_below_drewN | apply below_drew1 | refine below_set ?_ GE101.out) | exact HB.out)) hb); have n2_ := Aside0.mk (hbox); have n3_ := Aside0.mk ((by rw [hg]; exact (below_size (by repeat (first | (with_reducible first | exact HB.out | apply below_alloc | apply pw_below_drewN | apply below_drew1 | refine below_set ?_ GE101.out) | exact HB.out))) : w.heap.size ≤ gb102)); have n4_ := Aside0.mk ((by rw [hg]; exact (below_size (by repeat (first | (with_reducible first | exact HB.out | apply below_alloc | apply pw_below_drewN | apply below_drew1 | refine below_set ?_ GE101.out) | exact HB.out))) : w.heap.size ≤ gb102)); have n5_ := Aside0.mk ((by rw [hg]; exact Nat.ne_of_lt (blk_lt (g := gb101) (o := .cells #[.int .i64 a0_0, .int .i64 a0_1, .int .i64 a0_2, .int .i64 a0_3, .int .i64 a0_4] 23 (0, 0)) (by (with_reducible repeat (first | refine blk_drewN ?_ _ | refine blk_drew ?_ | refine blk_alloc ?_ _)); exact BK101.out)) : gb101 ≠ gb102)); have n6_ := Aside0.mk ((by rw [hg]; exact Nat.ne_of_gt (blk_lt (g := gb101) (o := .cells #[.int .i64 a0_0, .int .i64 a0_1, .int .i64 a0_2, .int .i64 a0_3, .int .i64 a0_4] 23 (0, 0)) (by (with_reducible repeat (first | refine blk_drewN ?_ _ | refine blk_drew ?_ | refine blk_alloc ?_ _)); exact BK101.out)) : gb102 ≠ gb101)); clear BK101; clear HB; have BK101 := n0_; have HB := n1_; have BK102 := n2_; have GW102 := n3_; have GE102 := n4_; have NB101_102 := n5_; have NB102_101 := n6_; clear n0_ n1_ n2_ n3_ n4_ n5_ n6_; clear hb hbox hg; have hnb9 := NB101_102.out; have hnc9 := NB102_101.out; have hcz10_0 : w8.cell? ⟨gb101, 0, none⟩ = some (.int .i64 a0_0) := (blk_cell BK101.out 0).trans rfl; have hcz10_1 : w8.cell? ⟨gb101, 1, none⟩ = some (.int .i64 a0_1) := (blk_cell BK101.out 1).trans rfl; have hcz10_2 : w8.cell? ⟨gb101, 2, none⟩ = some (.int .i64 a0_2) := (blk_cell BK101.out 2).trans rfl; have hcz10_3 : w8.cell? ⟨gb101, 3, none⟩ = some (.int .i64 a0_3) := (blk_cell BK101.out 3).trans rfl; have hcz10_4 : w8.cell? ⟨gb101, 4, none⟩ = some (.int .i64 a0_4) := (blk_cell BK101.out 4).trans rfl; have hfz10_0 := blk_frozen BK101.out 0; have hfz10_1 := blk_frozen BK101.out 1; have hfz10_2 := blk_frozen BK101.out 2; have hfz10_3 := blk_frozen BK101.out 3; have hfz10_4 := blk_frozen BK101.out 4; have hcz11_0 : w8.cell? ⟨gb102, 0, none⟩ = some (.int .i64 0) := (blk_cell BK102.out 0).trans rfl; have hcz11_1 : w8.cell? ⟨gb102, 1, none⟩ = some (.int .i64 0) := (blk_cell BK102.out 1).trans rfl; have hcz11_2 : w8.cell? ⟨gb102, 2, none⟩ = some (.int .i64 0) := (blk_cell BK102.out 2).trans rfl; have hcz11_3 : w8.cell? ⟨gb102, 3, none⟩ = some (.int .i64 0) := (blk_cell BK102.out 3).trans rfl; have hcz11_4 : w8.cell? ⟨gb102, 4, none⟩ = some (.int .i64 0) := (blk_cell BK102.out 4).trans rfl; have hfz11_0 := blk_frozen BK102.out 0; have hfz11_1 := blk_frozen BK102.out 1; have hfz11_2 := blk_frozen BK102.out 2; have hfz11_3 := blk_frozen BK102.out 3; have hfz11_4 := blk_frozen BK102.out 4))
  refine bodyPost_ret (results_cell_row rfl _ _ gb102 23 #[.int .i64 ji2, .int .i64 ji3, .int .i64 ji4, .int .i64 ji5, .int .i64 ji6] (0, 0) _ rfl (by (with_reducible repeat (first | refine blk_drewN ?_ _ | refine blk_drew ?_ | refine blk_alloc ?_ _)); refine blk_put (cs := #[.int .i64 ji2, .int .i64 ji3, .int .i64 ji4, .int .i64 ji5, .int .i64 0]) ?_ 4 _ rfl; (with_reducible repeat (first | refine blk_drewN ?_ _ | refine blk_drew ?_ | refine blk_alloc ?_ _)); refine blk_put (cs := #[.int .i64 ji2, .int .i64 ji3, .int .i64 ji4, .int .i64 0, .int .i64 0]) ?_ 3 _ rfl; (with_reducible repeat (first | refine blk_drewN ?_ _ | refine blk_drew ?_ | refine blk_alloc ?_ _)); refine blk_put (cs := #[.int .i64 ji2, .int .i64 ji3, .int .i64 0, .int .i64 0, .int .i64 0]) ?_ 2 _ rfl; (with_reducible repeat (first | refine blk_drewN ?_ _ | refine blk_drew ?_ | refine blk_alloc ?_ _)); refine blk_put (cs := #[.int .i64 ji2, .int .i64 0, .int .i64 0, .int .i64 0, .int .i64 0]) ?_ 1 _ rfl; (with_reducible repeat (first | refine blk_drewN ?_ _ | refine blk_drew ?_ | refine blk_alloc ?_ _)); refine blk_put (cs := #[.int .i64 0, .int .i64 0, .int .i64 0, .int .i64 0, .int .i64 0]) ?_ 0 _ rfl; (with_reducible repeat (first | refine blk_drewN ?_ _ | refine blk_drew ?_ | refine blk_alloc ?_ _)); exact BK102.out) Try.underlying23 rfl (by kernel_rfl)) rfl ?_
  exact ⟨by first | rfl | (simp [errW_none, errW_some] <;> rfl) | (simp only [← hji2, ← hji3, ← hji4, ← hji5, ← hji6]; first | rfl | (simp [errW_none, errW_some] <;> rfl)) | (simp [*, errW_none, errW_some] <;> rfl), by repeat (first | (with_reducible first | exact HB.out | apply below_alloc | apply pw_below_drewN | apply below_drew1 | refine below_set ?_ GE101.out | refine below_set ?_ GE102.out) | exact HB.out)⟩

/-- A state of type 40 at block g of W; what its slices lead to came in by w0. -/
def IsS40 (w0 W : World) (g : Nat) (f0 : Int) (f1 : Int) (f2 : Int) (f3 : Int) (f4 : Int) (f5 : Int) (f6 : Int) (f7 : Int) (f8 : Int) (f9 : Int) (f10 : Int) : Prop := W.heap[g]? = some (.cells #[.int .i64 f0, .int .i64 f1, .int .i64 f2, .int .i64 f3, .int .i64 f4, .int .i64 f5, .int .i64 f6, .int .i64 f7, .int .i64 f8, .int .i64 f9, .int .i64 f10] 40 (0, 0)) ∧ w0.heap.size ≤ g
theorem IsS40.grown {w0 W : World} {g : Nat} {f0 : Int} {f1 : Int} {f2 : Int} {f3 : Int} {f4 : Int} {f5 : Int} {f6 : Int} {f7 : Int} {f8 : Int} {f9 : Int} {f10 : Int} {W1 : World} {row : Option Nat} (h : IsS40 w0 W g f0 f1 f2 f3 f4 f5 f6 f7 f8 f9 f10) (hw : W.grownBy W1 row) (hne : some g ≠ row) : IsS40 w0 W1 g f0 f1 f2 f3 f4 f5 f6 f7 f8 f9 f10 := by
  obtain ⟨hb, hg⟩ := h
  exact ⟨blk_grown hb hw hne, hg⟩
theorem IsS40.own_neN {w0 W : World} {g : Nat} {f0 : Int} {f1 : Int} {f2 : Int} {f3 : Int} {f4 : Int} {f5 : Int} {f6 : Int} {f7 : Int} {f8 : Int} {f9 : Int} {f10 : Int} {α : Type} {d : Kd α} {e : Nat} {base : Nat} {ok : Nat → Prop} {v : Value} {xs : List α} (h : IsS40 w0 W g f0 f1 f2 f3 f4 f5 f6 f7 f8 f9 f10) (ho : Kd.N d e W base ok v xs) (ht : e ≠ 40) : some g ≠ v.ownBlock := by
  obtain ⟨hb, hg⟩ := h
  exact Kd.N_ne ho hb ht
theorem IsS40.fresh {w0 W : World} {g : Nat} {f0 : Int} {f1 : Int} {f2 : Int} {f3 : Int} {f4 : Int} {f5 : Int} {f6 : Int} {f7 : Int} {f8 : Int} {f9 : Int} {f10 : Int} (h : IsS40 w0 W g f0 f1 f2 f3 f4 f5 f6 f7 f8 f9 f10) : ∀ k, W.heap.size ≤ k → k ≠ g := by
  obtain ⟨hb, hg⟩ := h
  exact Kd.freshB hb
theorem IsS40.kept {w0 W : World} {g : Nat} {f0 : Int} {f1 : Int} {f2 : Int} {f3 : Int} {f4 : Int} {f5 : Int} {f6 : Int} {f7 : Int} {f8 : Int} {f9 : Int} {f10 : Int} {W1 : World} {S : Nat → Prop} (h : IsS40 w0 W g f0 f1 f2 f3 f4 f5 f6 f7 f8 f9 f10) (hk : Kept W W1 S) (hne : ¬ S g) : IsS40 w0 W1 g f0 f1 f2 f3 f4 f5 f6 f7 f8 f9 f10 := by
  obtain ⟨hb, hg⟩ := h
  exact ⟨blk_kept hb hk hne, hg⟩
theorem IsS40.below {w0 W : World} {g : Nat} {f0 : Int} {f1 : Int} {f2 : Int} {f3 : Int} {f4 : Int} {f5 : Int} {f6 : Int} {f7 : Int} {f8 : Int} {f9 : Int} {f10 : Int} {W1 : World} (h : IsS40 w0 W g f0 f1 f2 f3 f4 f5 f6 f7 f8 f9 f10) (hw : Below W.heap.size W W1) : IsS40 w0 W1 g f0 f1 f2 f3 f4 f5 f6 f7 f8 f9 f10 := h.grown (grown_of_below hw none) (by simp)
theorem IsS40.alloc {w0 W : World} {g : Nat} {f0 : Int} {f1 : Int} {f2 : Int} {f3 : Int} {f4 : Int} {f5 : Int} {f6 : Int} {f7 : Int} {f8 : Int} {f9 : Int} {f10 : Int} (h : IsS40 w0 W g f0 f1 f2 f3 f4 f5 f6 f7 f8 f9 f10) (o : Obj) : IsS40 w0 (W.alloc o) g f0 f1 f2 f3 f4 f5 f6 f7 f8 f9 f10 := h.below (below_alloc (Below.refl _ _) o)
theorem IsS40.drewN {w0 W : World} {g : Nat} {f0 : Int} {f1 : Int} {f2 : Int} {f3 : Int} {f4 : Int} {f5 : Int} {f6 : Int} {f7 : Int} {f8 : Int} {f9 : Int} {f10 : Int} (h : IsS40 w0 W g f0 f1 f2 f3 f4 f5 f6 f7 f8 f9 f10) (m : Nat) : IsS40 w0 (W.drewN m) g f0 f1 f2 f3 f4 f5 f6 f7 f8 f9 f10 := h
theorem IsS40.drew {w0 W : World} {g : Nat} {f0 : Int} {f1 : Int} {f2 : Int} {f3 : Int} {f4 : Int} {f5 : Int} {f6 : Int} {f7 : Int} {f8 : Int} {f9 : Int} {f10 : Int} (h : IsS40 w0 W g f0 f1 f2 f3 f4 f5 f6 f7 f8 f9 f10) : IsS40 w0 W.drew g f0 f1 f2 f3 f4 f5 f6 f7 f8 f9 f10 := h
theorem IsS40.at_ {w0 W : World} {g : Nat} {f0 : Int} {f1 : Int} {f2 : Int} {f3 : Int} {f4 : Int} {f5 : Int} {f6 : Int} {f7 : Int} {f8 : Int} {f9 : Int} {f10 : Int} {w' : World} {m : Nat} (hq : W.drewN m = w') (h : IsS40 w0 W g f0 f1 f2 f3 f4 f5 f6 f7 f8 f9 f10) : IsS40 w0 w' g f0 f1 f2 f3 f4 f5 f6 f7 f8 f9 f10 := by subst hq; exact IsS40.drewN h m
theorem IsS40.apart {w0 W : World} {g : Nat} {f0 : Int} {f1 : Int} {f2 : Int} {f3 : Int} {f4 : Int} {f5 : Int} {f6 : Int} {f7 : Int} {f8 : Int} {f9 : Int} {f10 : Int} {α : Type} {d : Kd α} {e : Nat} {base : Nat} {ok : Nat → Prop} {v : Value} {xs : List α} (h : IsS40 w0 W g f0 f1 f2 f3 f4 f5 f6 f7 f8 f9 f10) (ho : d.R e W base ok v xs) (ht : ∀ q, q ∈ e :: d.E → q ≠ 40) : d.R e W base (fun k => ok k ∧ k ≠ g) v xs := by
  obtain ⟨hb, hg⟩ := h
  exact Kd.R_types ho hb ht
theorem IsS40.own_ne {w0 W : World} {g : Nat} {f0 : Int} {f1 : Int} {f2 : Int} {f3 : Int} {f4 : Int} {f5 : Int} {f6 : Int} {f7 : Int} {f8 : Int} {f9 : Int} {f10 : Int} {α : Type} {d : Kd α} {e : Nat} {base : Nat} {ok : Nat → Prop} {v : Value} {xs : List α} (h : IsS40 w0 W g f0 f1 f2 f3 f4 f5 f6 f7 f8 f9 f10) (ho : d.R e W base ok v xs) (ht : e ≠ 40) : some g ≠ v.ownBlock := by
  obtain ⟨hb, hg⟩ := h
  exact Kd.R_ne ho hb ht
theorem IsS40.apartQ {w0 W : World} {g : Nat} {f0 : Int} {f1 : Int} {f2 : Int} {f3 : Int} {f4 : Int} {f5 : Int} {f6 : Int} {f7 : Int} {f8 : Int} {f9 : Int} {f10 : Int} {α : Type} {d : Kd α} {e : Nat} {base : Nat} {ok : Nat → Prop} {v : Value} {xs : List α} (h : IsS40 w0 W g f0 f1 f2 f3 f4 f5 f6 f7 f8 f9 f10) (ho : d.Q e W base ok v xs) (ht : ∀ q, q ∈ e :: d.E → q ≠ 40) : d.Q e W base (fun k => ok k ∧ k ≠ g) v xs := by
  obtain ⟨hb, hg⟩ := h
  exact Kd.Q_types ho hb ht
theorem IsS40.own_neQ {w0 W : World} {g : Nat} {f0 : Int} {f1 : Int} {f2 : Int} {f3 : Int} {f4 : Int} {f5 : Int} {f6 : Int} {f7 : Int} {f8 : Int} {f9 : Int} {f10 : Int} {α : Type} {d : Kd α} {e : Nat} {base : Nat} {ok : Nat → Prop} {v : Value} {xs : List α} (h : IsS40 w0 W g f0 f1 f2 f3 f4 f5 f6 f7 f8 f9 f10) (ho : d.Q e W base ok v xs) (ht : e ≠ 40) : some g ≠ v.ownBlock := by
  obtain ⟨hb, hg⟩ := h
  exact Kd.Q_ne ho hb ht
theorem IsS40.apartS {w0 W : World} {g : Nat} {f0 : Int} {f1 : Int} {f2 : Int} {f3 : Int} {f4 : Int} {f5 : Int} {f6 : Int} {f7 : Int} {f8 : Int} {f9 : Int} {f10 : Int} {α : Type} {d : Kd α} {e : Nat} {base : Nat} {ok : Nat → Prop} {v : Value} {xs : List α} (h : IsS40 w0 W g f0 f1 f2 f3 f4 f5 f6 f7 f8 f9 f10) (ho : d.S e W base ok v xs) (ht : ∀ q, q ∈ e :: d.E → q ≠ 40) : d.S e W base (fun k => ok k ∧ k ≠ g) v xs := by
  obtain ⟨hb, hg⟩ := h
  exact Kd.S_types ho hb ht
theorem IsS40.own_neS {w0 W : World} {g : Nat} {f0 : Int} {f1 : Int} {f2 : Int} {f3 : Int} {f4 : Int} {f5 : Int} {f6 : Int} {f7 : Int} {f8 : Int} {f9 : Int} {f10 : Int} {α : Type} {d : Kd α} {e : Nat} {base : Nat} {ok : Nat → Prop} {v : Value} {xs : List α} (h : IsS40 w0 W g f0 f1 f2 f3 f4 f5 f6 f7 f8 f9 f10) (ho : d.S e W base ok v xs) (ht : e ≠ 40) : some g ≠ v.ownBlock := by
  obtain ⟨hb, hg⟩ := h
  exact Kd.S_ne ho hb ht
theorem IsS40.lt {w0 W : World} {g : Nat} {f0 : Int} {f1 : Int} {f2 : Int} {f3 : Int} {f4 : Int} {f5 : Int} {f6 : Int} {f7 : Int} {f8 : Int} {f9 : Int} {f10 : Int} (h : IsS40 w0 W g f0 f1 f2 f3 f4 f5 f6 f7 f8 f9 f10) : g < W.heap.size := by
  obtain ⟨hb, hg⟩ := h
  exact blk_lt hb
theorem IsS40.ge {w0 W : World} {g : Nat} {f0 : Int} {f1 : Int} {f2 : Int} {f3 : Int} {f4 : Int} {f5 : Int} {f6 : Int} {f7 : Int} {f8 : Int} {f9 : Int} {f10 : Int} (h : IsS40 w0 W g f0 f1 f2 f3 f4 f5 f6 f7 f8 f9 f10) : w0.heap.size ≤ g := by
  obtain ⟨hb, hg⟩ := h
  exact hg
theorem IsS40.ne_blk {w0 W : World} {g : Nat} {f0 : Int} {f1 : Int} {f2 : Int} {f3 : Int} {f4 : Int} {f5 : Int} {f6 : Int} {f7 : Int} {f8 : Int} {f9 : Int} {f10 : Int} {a : Nat} {cs : Array Value} {t : TypeId} {fr : Nat × Nat} (h : IsS40 w0 W g f0 f1 f2 f3 f4 f5 f6 f7 f8 f9 f10) (hb2 : W.heap[a]? = some (.cells cs t fr)) (ht : t ≠ 40) : g ≠ a := by
  obtain ⟨hb, hg⟩ := h
  rintro rfl
  rw [hb] at hb2
  injection hb2 with hb2
  injection hb2 with _ ht2
  exact ht ht2.symm
theorem IsS40.far {w0 W : World} {g : Nat} {f0 : Int} {f1 : Int} {f2 : Int} {f3 : Int} {f4 : Int} {f5 : Int} {f6 : Int} {f7 : Int} {f8 : Int} {f9 : Int} {f10 : Int} {p : Addr} (h : IsS40 w0 W g f0 f1 f2 f3 f4 f5 f6 f7 f8 f9 f10) (hne : g ≠ p.block) (u : Value) : IsS40 w0 (W.setCell p u) g f0 f1 f2 f3 f4 f5 f6 f7 f8 f9 f10 := by
  obtain ⟨hb, hg⟩ := h
  exact ⟨blk_far hb hne u, hg⟩
theorem cellS40_0 {W : World} {g : Nat} {f0 : Int} {f1 : Int} {f2 : Int} {f3 : Int} {f4 : Int} {f5 : Int} {f6 : Int} {f7 : Int} {f8 : Int} {f9 : Int} {f10 : Int} (h : W.heap[g]? = some (.cells #[.int .i64 f0, .int .i64 f1, .int .i64 f2, .int .i64 f3, .int .i64 f4, .int .i64 f5, .int .i64 f6, .int .i64 f7, .int .i64 f8, .int .i64 f9, .int .i64 f10] 40 (0, 0))) : W.cell? ⟨g, 0, none⟩ = some (.int .i64 f0) := (blk_cell h 0).trans rfl
theorem IsS40.set_0 {w0 W : World} {g : Nat} {f0 : Int} {f1 : Int} {f2 : Int} {f3 : Int} {f4 : Int} {f5 : Int} {f6 : Int} {f7 : Int} {f8 : Int} {f9 : Int} {f10 : Int} (h : IsS40 w0 W g f0 f1 f2 f3 f4 f5 f6 f7 f8 f9 f10) (x : Int) : IsS40 w0 (W.setCell ⟨g, 0, none⟩ (.int .i64 x)) g x f1 f2 f3 f4 f5 f6 f7 f8 f9 f10 := by
  obtain ⟨hb, hg⟩ := h
  exact ⟨by simpa using blk_set hb 0 (.int .i64 x), hg⟩
theorem cellS40_1 {W : World} {g : Nat} {f0 : Int} {f1 : Int} {f2 : Int} {f3 : Int} {f4 : Int} {f5 : Int} {f6 : Int} {f7 : Int} {f8 : Int} {f9 : Int} {f10 : Int} (h : W.heap[g]? = some (.cells #[.int .i64 f0, .int .i64 f1, .int .i64 f2, .int .i64 f3, .int .i64 f4, .int .i64 f5, .int .i64 f6, .int .i64 f7, .int .i64 f8, .int .i64 f9, .int .i64 f10] 40 (0, 0))) : W.cell? ⟨g, 1, none⟩ = some (.int .i64 f1) := (blk_cell h 1).trans rfl
theorem IsS40.set_1 {w0 W : World} {g : Nat} {f0 : Int} {f1 : Int} {f2 : Int} {f3 : Int} {f4 : Int} {f5 : Int} {f6 : Int} {f7 : Int} {f8 : Int} {f9 : Int} {f10 : Int} (h : IsS40 w0 W g f0 f1 f2 f3 f4 f5 f6 f7 f8 f9 f10) (x : Int) : IsS40 w0 (W.setCell ⟨g, 1, none⟩ (.int .i64 x)) g f0 x f2 f3 f4 f5 f6 f7 f8 f9 f10 := by
  obtain ⟨hb, hg⟩ := h
  exact ⟨by simpa using blk_set hb 1 (.int .i64 x), hg⟩
theorem cellS40_2 {W : World} {g : Nat} {f0 : Int} {f1 : Int} {f2 : Int} {f3 : Int} {f4 : Int} {f5 : Int} {f6 : Int} {f7 : Int} {f8 : Int} {f9 : Int} {f10 : Int} (h : W.heap[g]? = some (.cells #[.int .i64 f0, .int .i64 f1, .int .i64 f2, .int .i64 f3, .int .i64 f4, .int .i64 f5, .int .i64 f6, .int .i64 f7, .int .i64 f8, .int .i64 f9, .int .i64 f10] 40 (0, 0))) : W.cell? ⟨g, 2, none⟩ = some (.int .i64 f2) := (blk_cell h 2).trans rfl
theorem IsS40.set_2 {w0 W : World} {g : Nat} {f0 : Int} {f1 : Int} {f2 : Int} {f3 : Int} {f4 : Int} {f5 : Int} {f6 : Int} {f7 : Int} {f8 : Int} {f9 : Int} {f10 : Int} (h : IsS40 w0 W g f0 f1 f2 f3 f4 f5 f6 f7 f8 f9 f10) (x : Int) : IsS40 w0 (W.setCell ⟨g, 2, none⟩ (.int .i64 x)) g f0 f1 x f3 f4 f5 f6 f7 f8 f9 f10 := by
  obtain ⟨hb, hg⟩ := h
  exact ⟨by simpa using blk_set hb 2 (.int .i64 x), hg⟩
theorem cellS40_3 {W : World} {g : Nat} {f0 : Int} {f1 : Int} {f2 : Int} {f3 : Int} {f4 : Int} {f5 : Int} {f6 : Int} {f7 : Int} {f8 : Int} {f9 : Int} {f10 : Int} (h : W.heap[g]? = some (.cells #[.int .i64 f0, .int .i64 f1, .int .i64 f2, .int .i64 f3, .int .i64 f4, .int .i64 f5, .int .i64 f6, .int .i64 f7, .int .i64 f8, .int .i64 f9, .int .i64 f10] 40 (0, 0))) : W.cell? ⟨g, 3, none⟩ = some (.int .i64 f3) := (blk_cell h 3).trans rfl
theorem IsS40.set_3 {w0 W : World} {g : Nat} {f0 : Int} {f1 : Int} {f2 : Int} {f3 : Int} {f4 : Int} {f5 : Int} {f6 : Int} {f7 : Int} {f8 : Int} {f9 : Int} {f10 : Int} (h : IsS40 w0 W g f0 f1 f2 f3 f4 f5 f6 f7 f8 f9 f10) (x : Int) : IsS40 w0 (W.setCell ⟨g, 3, none⟩ (.int .i64 x)) g f0 f1 f2 x f4 f5 f6 f7 f8 f9 f10 := by
  obtain ⟨hb, hg⟩ := h
  exact ⟨by simpa using blk_set hb 3 (.int .i64 x), hg⟩
theorem cellS40_4 {W : World} {g : Nat} {f0 : Int} {f1 : Int} {f2 : Int} {f3 : Int} {f4 : Int} {f5 : Int} {f6 : Int} {f7 : Int} {f8 : Int} {f9 : Int} {f10 : Int} (h : W.heap[g]? = some (.cells #[.int .i64 f0, .int .i64 f1, .int .i64 f2, .int .i64 f3, .int .i64 f4, .int .i64 f5, .int .i64 f6, .int .i64 f7, .int .i64 f8, .int .i64 f9, .int .i64 f10] 40 (0, 0))) : W.cell? ⟨g, 4, none⟩ = some (.int .i64 f4) := (blk_cell h 4).trans rfl
theorem IsS40.set_4 {w0 W : World} {g : Nat} {f0 : Int} {f1 : Int} {f2 : Int} {f3 : Int} {f4 : Int} {f5 : Int} {f6 : Int} {f7 : Int} {f8 : Int} {f9 : Int} {f10 : Int} (h : IsS40 w0 W g f0 f1 f2 f3 f4 f5 f6 f7 f8 f9 f10) (x : Int) : IsS40 w0 (W.setCell ⟨g, 4, none⟩ (.int .i64 x)) g f0 f1 f2 f3 x f5 f6 f7 f8 f9 f10 := by
  obtain ⟨hb, hg⟩ := h
  exact ⟨by simpa using blk_set hb 4 (.int .i64 x), hg⟩
theorem cellS40_5 {W : World} {g : Nat} {f0 : Int} {f1 : Int} {f2 : Int} {f3 : Int} {f4 : Int} {f5 : Int} {f6 : Int} {f7 : Int} {f8 : Int} {f9 : Int} {f10 : Int} (h : W.heap[g]? = some (.cells #[.int .i64 f0, .int .i64 f1, .int .i64 f2, .int .i64 f3, .int .i64 f4, .int .i64 f5, .int .i64 f6, .int .i64 f7, .int .i64 f8, .int .i64 f9, .int .i64 f10] 40 (0, 0))) : W.cell? ⟨g, 5, none⟩ = some (.int .i64 f5) := (blk_cell h 5).trans rfl
theorem IsS40.set_5 {w0 W : World} {g : Nat} {f0 : Int} {f1 : Int} {f2 : Int} {f3 : Int} {f4 : Int} {f5 : Int} {f6 : Int} {f7 : Int} {f8 : Int} {f9 : Int} {f10 : Int} (h : IsS40 w0 W g f0 f1 f2 f3 f4 f5 f6 f7 f8 f9 f10) (x : Int) : IsS40 w0 (W.setCell ⟨g, 5, none⟩ (.int .i64 x)) g f0 f1 f2 f3 f4 x f6 f7 f8 f9 f10 := by
  obtain ⟨hb, hg⟩ := h
  exact ⟨by simpa using blk_set hb 5 (.int .i64 x), hg⟩
theorem cellS40_6 {W : World} {g : Nat} {f0 : Int} {f1 : Int} {f2 : Int} {f3 : Int} {f4 : Int} {f5 : Int} {f6 : Int} {f7 : Int} {f8 : Int} {f9 : Int} {f10 : Int} (h : W.heap[g]? = some (.cells #[.int .i64 f0, .int .i64 f1, .int .i64 f2, .int .i64 f3, .int .i64 f4, .int .i64 f5, .int .i64 f6, .int .i64 f7, .int .i64 f8, .int .i64 f9, .int .i64 f10] 40 (0, 0))) : W.cell? ⟨g, 6, none⟩ = some (.int .i64 f6) := (blk_cell h 6).trans rfl
theorem IsS40.set_6 {w0 W : World} {g : Nat} {f0 : Int} {f1 : Int} {f2 : Int} {f3 : Int} {f4 : Int} {f5 : Int} {f6 : Int} {f7 : Int} {f8 : Int} {f9 : Int} {f10 : Int} (h : IsS40 w0 W g f0 f1 f2 f3 f4 f5 f6 f7 f8 f9 f10) (x : Int) : IsS40 w0 (W.setCell ⟨g, 6, none⟩ (.int .i64 x)) g f0 f1 f2 f3 f4 f5 x f7 f8 f9 f10 := by
  obtain ⟨hb, hg⟩ := h
  exact ⟨by simpa using blk_set hb 6 (.int .i64 x), hg⟩
theorem cellS40_7 {W : World} {g : Nat} {f0 : Int} {f1 : Int} {f2 : Int} {f3 : Int} {f4 : Int} {f5 : Int} {f6 : Int} {f7 : Int} {f8 : Int} {f9 : Int} {f10 : Int} (h : W.heap[g]? = some (.cells #[.int .i64 f0, .int .i64 f1, .int .i64 f2, .int .i64 f3, .int .i64 f4, .int .i64 f5, .int .i64 f6, .int .i64 f7, .int .i64 f8, .int .i64 f9, .int .i64 f10] 40 (0, 0))) : W.cell? ⟨g, 7, none⟩ = some (.int .i64 f7) := (blk_cell h 7).trans rfl
theorem IsS40.set_7 {w0 W : World} {g : Nat} {f0 : Int} {f1 : Int} {f2 : Int} {f3 : Int} {f4 : Int} {f5 : Int} {f6 : Int} {f7 : Int} {f8 : Int} {f9 : Int} {f10 : Int} (h : IsS40 w0 W g f0 f1 f2 f3 f4 f5 f6 f7 f8 f9 f10) (x : Int) : IsS40 w0 (W.setCell ⟨g, 7, none⟩ (.int .i64 x)) g f0 f1 f2 f3 f4 f5 f6 x f8 f9 f10 := by
  obtain ⟨hb, hg⟩ := h
  exact ⟨by simpa using blk_set hb 7 (.int .i64 x), hg⟩
theorem cellS40_8 {W : World} {g : Nat} {f0 : Int} {f1 : Int} {f2 : Int} {f3 : Int} {f4 : Int} {f5 : Int} {f6 : Int} {f7 : Int} {f8 : Int} {f9 : Int} {f10 : Int} (h : W.heap[g]? = some (.cells #[.int .i64 f0, .int .i64 f1, .int .i64 f2, .int .i64 f3, .int .i64 f4, .int .i64 f5, .int .i64 f6, .int .i64 f7, .int .i64 f8, .int .i64 f9, .int .i64 f10] 40 (0, 0))) : W.cell? ⟨g, 8, none⟩ = some (.int .i64 f8) := (blk_cell h 8).trans rfl
theorem IsS40.set_8 {w0 W : World} {g : Nat} {f0 : Int} {f1 : Int} {f2 : Int} {f3 : Int} {f4 : Int} {f5 : Int} {f6 : Int} {f7 : Int} {f8 : Int} {f9 : Int} {f10 : Int} (h : IsS40 w0 W g f0 f1 f2 f3 f4 f5 f6 f7 f8 f9 f10) (x : Int) : IsS40 w0 (W.setCell ⟨g, 8, none⟩ (.int .i64 x)) g f0 f1 f2 f3 f4 f5 f6 f7 x f9 f10 := by
  obtain ⟨hb, hg⟩ := h
  exact ⟨by simpa using blk_set hb 8 (.int .i64 x), hg⟩
theorem cellS40_9 {W : World} {g : Nat} {f0 : Int} {f1 : Int} {f2 : Int} {f3 : Int} {f4 : Int} {f5 : Int} {f6 : Int} {f7 : Int} {f8 : Int} {f9 : Int} {f10 : Int} (h : W.heap[g]? = some (.cells #[.int .i64 f0, .int .i64 f1, .int .i64 f2, .int .i64 f3, .int .i64 f4, .int .i64 f5, .int .i64 f6, .int .i64 f7, .int .i64 f8, .int .i64 f9, .int .i64 f10] 40 (0, 0))) : W.cell? ⟨g, 9, none⟩ = some (.int .i64 f9) := (blk_cell h 9).trans rfl
theorem IsS40.set_9 {w0 W : World} {g : Nat} {f0 : Int} {f1 : Int} {f2 : Int} {f3 : Int} {f4 : Int} {f5 : Int} {f6 : Int} {f7 : Int} {f8 : Int} {f9 : Int} {f10 : Int} (h : IsS40 w0 W g f0 f1 f2 f3 f4 f5 f6 f7 f8 f9 f10) (x : Int) : IsS40 w0 (W.setCell ⟨g, 9, none⟩ (.int .i64 x)) g f0 f1 f2 f3 f4 f5 f6 f7 f8 x f10 := by
  obtain ⟨hb, hg⟩ := h
  exact ⟨by simpa using blk_set hb 9 (.int .i64 x), hg⟩
theorem cellS40_10 {W : World} {g : Nat} {f0 : Int} {f1 : Int} {f2 : Int} {f3 : Int} {f4 : Int} {f5 : Int} {f6 : Int} {f7 : Int} {f8 : Int} {f9 : Int} {f10 : Int} (h : W.heap[g]? = some (.cells #[.int .i64 f0, .int .i64 f1, .int .i64 f2, .int .i64 f3, .int .i64 f4, .int .i64 f5, .int .i64 f6, .int .i64 f7, .int .i64 f8, .int .i64 f9, .int .i64 f10] 40 (0, 0))) : W.cell? ⟨g, 10, none⟩ = some (.int .i64 f10) := (blk_cell h 10).trans rfl
theorem IsS40.set_10 {w0 W : World} {g : Nat} {f0 : Int} {f1 : Int} {f2 : Int} {f3 : Int} {f4 : Int} {f5 : Int} {f6 : Int} {f7 : Int} {f8 : Int} {f9 : Int} {f10 : Int} (h : IsS40 w0 W g f0 f1 f2 f3 f4 f5 f6 f7 f8 f9 f10) (x : Int) : IsS40 w0 (W.setCell ⟨g, 10, none⟩ (.int .i64 x)) g f0 f1 f2 f3 f4 f5 f6 f7 f8 f9 x := by
  obtain ⟨hb, hg⟩ := h
  exact ⟨by simpa using blk_set hb 10 (.int .i64 x), hg⟩
theorem IsS40.new (w0 W : World) (f0 : Int) (f1 : Int) (f2 : Int) (f3 : Int) (f4 : Int) (f5 : Int) (f6 : Int) (f7 : Int) (f8 : Int) (f9 : Int) (f10 : Int) (hB : Below w0.heap.size w0 W) : IsS40 w0 (W.alloc (.cells #[.int .i64 f0, .int .i64 f1, .int .i64 f2, .int .i64 f3, .int .i64 f4, .int .i64 f5, .int .i64 f6, .int .i64 f7, .int .i64 f8, .int .i64 f9, .int .i64 f10] 40)) W.heap.size f0 f1 f2 f3 f4 f5 f6 f7 f8 f9 f10 := ⟨by simpa using heap_alloc_new W _, hB.size⟩

/-! ### limit_New: function 8 -/
def limit_New.f (a0_0 : Int) (a0_1 : Int) (a0_2 : Int) (a0_3 : Int) (a0_4 : Int) : Option (Int × Int × Int × Int × Int × Int × Int × Int × Int × Int × Int) := (limit_fair.f a0_0 a0_1 a0_2 a0_3 a0_4).bind fun bt104 => (some (0, 0, 0, 0, 0, 0, bt104.1, bt104.2.1, bt104.2.2.1, bt104.2.2.2.1, bt104.2.2.2.2))
set_option maxHeartbeats 8000000 in
set_option maxRecDepth 100000 in
theorem limit_New.calls (a0_0 : Int) (a0_1 : Int) (a0_2 : Int) (a0_3 : Int) (a0_4 : Int) (r1 : Int) (r2 : Int) (r3 : Int) (r4 : Int) (r5 : Int) (r6 : Int) (r7 : Int) (r8 : Int) (r9 : Int) (r10 : Int) (r11 : Int) (w0 w : World) (hB : Below w0.heap.size w0 w) (h : limit_New.f a0_0 a0_1 a0_2 a0_3 a0_4 = some (r1, r2, r3, r4, r5, r6, r7, r8, r9, r10, r11)) :
    Calls Try.prog 8 #[.agg #[.int .i64 a0_0, .int .i64 a0_1, .int .i64 a0_2, .int .i64 a0_3, .int .i64 a0_4]] w fun e w' => ∃ g_ : Nat, e = .returned (.pointer (some ⟨g_, 0, none⟩)) ∧ IsS40 w0 w' g_ r1 r2 r3 r4 r5 r6 r7 r8 r9 r10 r11 ∧ Below w0.heap.size w0 w' ∧ Below w.heap.size w w' := by
  have hu23 := Try.underlying23
  have hu40 := Try.underlying40
  have HBW := Aside0.mk (Below.refl w.heap.size w)
  have HW0 := Aside0.mk hB.size
  have HB := Aside0.mk hB
  clear hB
  have H : ((limit_fair.f a0_0 a0_1 a0_2 a0_3 a0_4).bind fun bt104 => (some (0, 0, 0, 0, 0, 0, bt104.1, bt104.2.1, bt104.2.2.1, bt104.2.2.2.1, bt104.2.2.2.2))) = some (r1, r2, r3, r4, r5, r6, r7, r8, r9, r10, r11) := h
  clear h
  replace H := Option.bind_eq_some_iff.mp H
  obtain ⟨⟨t104, t105, t106, t107, t108⟩, A20, H⟩ := H
  replace H : (some (0, 0, 0, 0, 0, 0, t104, t105, t106, t107, t108)) = some (r1, r2, r3, r4, r5, r6, r7, r8, r9, r10, r11) := H
  have A2 := Aside0.mk A20
  clear A20
  simp only [Option.some.injEq, Prod.mk.injEq] at H
  obtain ⟨rfl, rfl, rfl, rfl, rfl, rfl, rfl, rfl, rfl, rfl, rfl⟩ := H
  go_enter Try.func8, Try.ntmps8
  go_wp2_with (first | ((with_reducible refine gate_dst (N := 1) rfl ?_); refine box_event ?hg (N := 1) ?hd (cs := #[.int .i64 a0_0, .int .i64 a0_1, .int .i64 a0_2, .int .i64 a0_3, .int .i64 a0_4]) (t := 23) ?hr ?_; (case hd => rfl); (case hg => rfl); (case hr => first | (go_simp; done) | (go_simp; rfl)); intro gb103 hg w3 hbox hb; have n0_ := Aside0.mk (below_step HBW.out hb); have n1_ := Aside0.mk (below_step (by repeat (first | (with_reducible first | exact HB.out | apply below_alloc | apply pw_below_drewN | apply below_drew1) | exact HB.out)) hb); have n2_ := Aside0.mk (hbox); have n3_ := Aside0.mk ((by rw [hg]; exact (below_size (by repeat (first | (with_reducible first | exact HBW.out | apply below_alloc | apply pw_below_drewN | apply below_drew1) | exact HBW.out))) : w.heap.size ≤ gb103)); have n4_ := Aside0.mk ((Nat.le_trans HW0.out (by rw [hg]; exact (below_size (by repeat (first | (with_reducible first | exact HBW.out | apply below_alloc | apply pw_below_drewN | apply below_drew1) | exact HBW.out))) : w.heap.size ≤ gb103) : w0.heap.size ≤ gb103)); clear HBW; clear HB; have HBW := n0_; have HB := n1_; have BK103 := n2_; have GW103 := n3_; have GE103 := n4_; clear n0_ n1_ n2_ n3_ n4_; clear hb hbox hg; have hcz4_0 : w3.cell? ⟨gb103, 0, none⟩ = some (.int .i64 a0_0) := (blk_cell BK103.out 0).trans rfl; have hcz4_1 : w3.cell? ⟨gb103, 1, none⟩ = some (.int .i64 a0_1) := (blk_cell BK103.out 1).trans rfl; have hcz4_2 : w3.cell? ⟨gb103, 2, none⟩ = some (.int .i64 a0_2) := (blk_cell BK103.out 2).trans rfl; have hcz4_3 : w3.cell? ⟨gb103, 3, none⟩ = some (.int .i64 a0_3) := (blk_cell BK103.out 3).trans rfl; have hcz4_4 : w3.cell? ⟨gb103, 4, none⟩ = some (.int .i64 a0_4) := (blk_cell BK103.out 4).trans rfl; have hfz4_0 := blk_frozen BK103.out 0; have hfz4_1 := blk_frozen BK103.out 1; have hfz4_2 := blk_frozen BK103.out 2; have hfz4_3 := blk_frozen BK103.out 3; have hfz4_4 := blk_frozen BK103.out 4) | ((with_reducible refine gate_callee (f := 22) rfl ?_); refine goesL_ (some 4) rfl rfl Try.func22 (by kernel_rfl) rfl #[.agg #[.int .i64 a0_0, .int .i64 a0_1, .int .i64 a0_2, .int .i64 a0_3, .int .i64 a0_4]] rfl (by (try simp only [List.map_toArray, List.map_cons, List.map_nil]); first | done | rfl | (simp only [List.length_drop, List.length_take]; rfl)) ?_; (with_reducible refine (limit_fair.calls a0_0 a0_1 a0_2 a0_3 a0_4 t104 t105 t106 t107 t108 _ A2.out).mono ?_); rintro e w5 ⟨rfl, hb⟩; refine ⟨_, rfl, ?_⟩; have n0_ := Aside0.mk (blk_below (g := gb103) (o := .cells #[.int .i64 a0_0, .int .i64 a0_1, .int .i64 a0_2, .int .i64 a0_3, .int .i64 a0_4] 23 (0, 0)) (by (with_reducible repeat (first | refine blk_drewN ?_ _ | refine blk_drew ?_ | refine blk_alloc ?_ _)); exact BK103.out) hb); have n1_ := Aside0.mk (below_step (by repeat (first | (with_reducible first | exact HB.out | apply below_alloc | apply pw_below_drewN | apply below_drew1 | refine below_set ?_ GE103.out) | exact HB.out)) hb); have nw_ := Aside0.mk (below_step HBW.out hb); clear BK103; clear HB; clear HBW; have BK103 := n0_; have HB := n1_; have HBW := nw_; clear n0_ n1_ nw_; (try clear hb); (try clear hb2); (try clear hk); (try clear hi)) | ((with_reducible refine gate_dst (N := 6) rfl ?_); refine box_event ?hg (N := 6) ?hd (cs := #[.int .i64 0, .int .i64 0, .int .i64 0, .int .i64 0, .int .i64 0, .int .i64 0, .int .i64 t104, .int .i64 t105, .int .i64 t106, .int .i64 t107, .int .i64 t108]) (t := 40) ?hr ?_; (case hd => rfl); (case hg => rfl); (case hr => first | (go_simp; done) | (go_simp; rfl)); intro gb109 hg w6 hbox hb; have n0_ := Aside0.mk (blk_below (g := gb103) (o := .cells #[.int .i64 a0_0, .int .i64 a0_1, .int .i64 a0_2, .int .i64 a0_3, .int .i64 a0_4] 23 (0, 0)) (by (with_reducible repeat (first | refine blk_drewN ?_ _ | refine blk_drew ?_ | refine blk_alloc ?_ _)); exact BK103.out) hb); have n1_ := Aside0.mk (below_step HBW.out hb); have n2_ := Aside0.mk (below_step (by repeat (first | (with_reducible first | exact HB.out | apply below_alloc | apply pw_below_drewN | apply below_drew1 | refine below_set ?_ GE103.out) | exact HB.out)) hb); have n3_ := Aside0.mk (hbox); have n4_ := Aside0.mk ((by rw [hg]; exact (below_size (by repeat (first | (with_reducible first | exact HBW.out | apply below_alloc | apply pw_below_drewN | apply below_drew1 | refine below_set ?_ GW103.out) | exact HBW.out))) : w.heap.size ≤ gb109)); have n5_ := Aside0.mk ((Nat.le_trans HW0.out (by rw [hg]; exact (below_size (by repeat (first | (with_reducible first | exact HBW.out | apply below_alloc | apply pw_below_drewN | apply below_drew1 | refine below_set ?_ GW103.out) | exact HBW.out))) : w.heap.size ≤ gb109) : w0.heap.size ≤ gb109)); have n6_ := Aside0.mk ((by rw [hg]; exact Nat.ne_of_lt (blk_lt (g := gb103) (o := .cells #[.int .i64 a0_0, .int .i64 a0_1, .int .i64 a0_2, .int .i64 a0_3, .int .i64 a0_4] 23 (0, 0)) (by (with_reducible repeat (first | refine blk_drewN ?_ _ | refine blk_drew ?_ | refine blk_alloc ?_ _)); exact BK103.out)) : gb103 ≠ gb109)); have n7_ := Aside0.mk ((by rw [hg]; exact Nat.ne_of_gt (blk_lt (g := gb103) (o := .cells #[.int .i64 a0_0, .int .i64 a0_1, .int .i64 a0_2, .int .i64 a0_3, .int .i64 a0_4] 23 (0, 0)) (by (with_reducible repeat (first | refine blk_drewN ?_ _ | refine blk_drew ?_ | refine blk_alloc ?_ _)); exact BK103.out)) : gb109 ≠ gb103)); clear BK103; clear HBW; clear HB; have BK103 := n0_; have HBW := n1_; have HB := n2_; have BK109 := n3_; have GW109 := n4_; have GE109 := n5_; have NB103_109 := n6_; have NB109_103 := n7_; clear n0_ n1_ n2_ n3_ n4_ n5_ n6_ n7_; clear hb hbox hg))
  go_ret
  exact ⟨_, rfl, (show IsS40 w0 _ gb109 0 0 0 0 0 0 t104 t105 t106 t107 t108 from ⟨by (with_reducible repeat (first | refine blk_drewN ?_ _ | refine blk_drew ?_ | refine blk_alloc ?_ _)); exact BK109.out, GE109.out⟩), by repeat (first | (with_reducible first | exact HB.out | apply below_alloc | apply pw_below_drewN | apply below_drew1 | refine below_set ?_ GE103.out | refine below_set ?_ GE109.out) | exact HB.out), by repeat (first | (with_reducible first | exact HBW.out | apply below_alloc | apply pw_below_drewN | apply below_drew1 | refine below_set ?_ GW103.out | refine below_set ?_ GW109.out) | exact HBW.out)⟩

/-! ### limit_tally_cross: function 24 -/
def limit_tally_cross.f (s0_0 : Int) (s0_1 : Int) (s0_2 : Int) (s0_3 : Int) (s0_4 : Int) (s0_5 : Int) (s0_6 : Int) (s0_7 : Int) (s0_8 : Int) (s0_9 : Int) (s0_10 : Int) (a1 : Bool) (a2 : Int) : Option (Bool × Int × Int × Int × Int × Int × Int × Int × Int × Int × Int × Int) := if a1 = true then (if s0_5 = 0 then (some ((a2 != 0), s0_0, s0_1, s0_2, s0_3, s0_4, a2, s0_6, s0_7, s0_8, s0_9, s0_10)) else (some ((s0_5 != 0), s0_0, s0_1, s0_2, s0_3, s0_4, s0_5, s0_6, s0_7, s0_8, s0_9, s0_10))) else (some ((s0_5 != 0), s0_0, s0_1, s0_2, s0_3, s0_4, s0_5, s0_6, s0_7, s0_8, s0_9, s0_10))
set_option maxHeartbeats 8000000 in
set_option maxRecDepth 100000 in
theorem limit_tally_cross.calls (g : Nat) (s0_0 : Int) (s0_1 : Int) (s0_2 : Int) (s0_3 : Int) (s0_4 : Int) (s0_5 : Int) (s0_6 : Int) (s0_7 : Int) (s0_8 : Int) (s0_9 : Int) (s0_10 : Int) (a1 : Bool) (a2 : Int) (r1 : Bool) (r2 : Int) (r3 : Int) (r4 : Int) (r5 : Int) (r6 : Int) (r7 : Int) (r8 : Int) (r9 : Int) (r10 : Int) (r11 : Int) (r12 : Int) (w0 w : World) (hI : IsS40 w0 w g s0_0 s0_1 s0_2 s0_3 s0_4 s0_5 s0_6 s0_7 s0_8 s0_9 s0_10) (hB : Below w0.heap.size w0 w) (h : limit_tally_cross.f s0_0 s0_1 s0_2 s0_3 s0_4 s0_5 s0_6 s0_7 s0_8 s0_9 s0_10 a1 a2 = some (r1, r2, r3, r4, r5, r6, r7, r8, r9, r10, r11, r12)) :
    Calls Try.prog 24 #[.pointer (some ⟨g, 0, none⟩), .bool a1, .int .i64 a2] w fun e w' => e = .returned (.bool r1) ∧ IsS40 w0 w' g r2 r3 r4 r5 r6 r7 r8 r9 r10 r11 r12 ∧ Below w0.heap.size w0 w' ∧ KeepBut w w' g none := by
  have HI0 := Aside0.mk hI
  have HK := Aside0.mk (KeepBut.refl w g none)
  have HL := Aside0.mk hB.size
  clear hI
  have HW0 := Aside0.mk hB.size
  have HB := Aside0.mk hB
  clear hB
  have H : (if a1 = true then (if s0_5 = 0 then (some ((a2 != 0), s0_0, s0_1, s0_2, s0_3, s0_4, a2, s0_6, s0_7, s0_8, s0_9, s0_10)) else (some ((s0_5 != 0), s0_0, s0_1, s0_2, s0_3, s0_4, s0_5, s0_6, s0_7, s0_8, s0_9, s0_10))) else (some ((s0_5 != 0), s0_0, s0_1, s0_2, s0_3, s0_4, s0_5, s0_6, s0_7, s0_8, s0_9, s0_10))) = some (r1, r2, r3, r4, r5, r6, r7, r8, r9, r10, r11, r12) := h
  clear h
  by_cases c4 : a1 = true
  · subst c4
    have H1 : (if s0_5 = 0 then (some ((a2 != 0), s0_0, s0_1, s0_2, s0_3, s0_4, a2, s0_6, s0_7, s0_8, s0_9, s0_10)) else (some ((s0_5 != 0), s0_0, s0_1, s0_2, s0_3, s0_4, s0_5, s0_6, s0_7, s0_8, s0_9, s0_10))) = some (r1, r2, r3, r4, r5, r6, r7, r8, r9, r10, r11, r12) := by rw [if_pos rfl] at H; exact H
    clear H
    have H := H1
    clear H1
    by_cases c5 : s0_5 = 0
    · rw [if_pos c5] at H
      have c5b0 : (s0_5 == 0) = true := beq_iff_eq.mpr c5
      have c5b1 : (s0_5 != 0) = false := bne_eq_false_iff_eq.mpr c5
      clear c5
      simp only [Option.some.injEq, Prod.mk.injEq] at H
      obtain ⟨rfl, rfl, rfl, rfl, rfl, rfl, rfl, rfl, rfl, rfl, rfl, rfl⟩ := H
      obtain ⟨HGz6, hgz6⟩ := HI0.out
      have hcz6_0 := cellS40_0 HGz6
      have hcz6_1 := cellS40_1 HGz6
      have hcz6_2 := cellS40_2 HGz6
      have hcz6_3 := cellS40_3 HGz6
      have hcz6_4 := cellS40_4 HGz6
      have hcz6_5 := cellS40_5 HGz6
      have hcz6_6 := cellS40_6 HGz6
      have hcz6_7 := cellS40_7 HGz6
      have hcz6_8 := cellS40_8 HGz6
      have hcz6_9 := cellS40_9 HGz6
      have hcz6_10 := cellS40_10 HGz6
      have hfz6_0 := blk_frozen HGz6 0
      have hfz6_1 := blk_frozen HGz6 1
      have hfz6_2 := blk_frozen HGz6 2
      have hfz6_3 := blk_frozen HGz6 3
      have hfz6_4 := blk_frozen HGz6 4
      have hfz6_5 := blk_frozen HGz6 5
      have hfz6_6 := blk_frozen HGz6 6
      have hfz6_7 := blk_frozen HGz6 7
      have hfz6_8 := blk_frozen HGz6 8
      have hfz6_9 := blk_frozen HGz6 9
      have hfz6_10 := blk_frozen HGz6 10
      clear HGz6 hgz6
      go_enter Try.func24, Try.ntmps24
      go_wp2
      go_ret
      exact ⟨by first | rfl | (simp [errW_none, errW_some] <;> rfl) | (simp [*, errW_none, errW_some] <;> rfl), by repeat (first | (with_reducible first | exact HI0.out | apply IsS40.alloc | apply IsS40.drewN | apply IsS40.drew | apply IsS40.set_0 | apply IsS40.set_1 | apply IsS40.set_2 | apply IsS40.set_3 | apply IsS40.set_4 | apply IsS40.set_5 | apply IsS40.set_6 | apply IsS40.set_7 | apply IsS40.set_8 | apply IsS40.set_9 | apply IsS40.set_10) | exact HI0.out), by repeat (first | (with_reducible first | exact HB.out | apply below_alloc | apply pw_below_drewN | apply below_drew1 | refine below_set ?_ (IsS40.ge HI0.out)) | exact HB.out), by repeat (first | (with_reducible first | exact HK.out | apply KeepBut.set_ | apply keep_drewN | apply keep_drew | apply keep_alloc) | exact HK.out)⟩
    · rw [if_neg c5] at H
      have c5b0 : (s0_5 == 0) = false := beq_eq_false_iff_ne.mpr c5
      have c5b1 : (s0_5 != 0) = true := bne_iff_ne.mpr c5
      simp only [Option.some.injEq, Prod.mk.injEq] at H
      obtain ⟨rfl, rfl, rfl, rfl, rfl, rfl, rfl, rfl, rfl, rfl, rfl, rfl⟩ := H
      obtain ⟨HGz7, hgz7⟩ := HI0.out
      have hcz7_0 := cellS40_0 HGz7
      have hcz7_1 := cellS40_1 HGz7
      have hcz7_2 := cellS40_2 HGz7
      have hcz7_3 := cellS40_3 HGz7
      have hcz7_4 := cellS40_4 HGz7
      have hcz7_5 := cellS40_5 HGz7
      have hcz7_6 := cellS40_6 HGz7
      have hcz7_7 := cellS40_7 HGz7
      have hcz7_8 := cellS40_8 HGz7
      have hcz7_9 := cellS40_9 HGz7
      have hcz7_10 := cellS40_10 HGz7
      have hfz7_0 := blk_frozen HGz7 0
      have hfz7_1 := blk_frozen HGz7 1
      have hfz7_2 := blk_frozen HGz7 2
      have hfz7_3 := blk_frozen HGz7 3
      have hfz7_4 := blk_frozen HGz7 4
      have hfz7_5 := blk_frozen HGz7 5
      have hfz7_6 := blk_frozen HGz7 6
      have hfz7_7 := blk_frozen HGz7 7
      have hfz7_8 := blk_frozen HGz7 8
      have hfz7_9 := blk_frozen HGz7 9
      have hfz7_10 := blk_frozen HGz7 10
      clear HGz7 hgz7
      go_enter Try.func24, Try.ntmps24
      go_wp2
      go_ret
      exact ⟨by first | rfl | (simp [errW_none, errW_some] <;> rfl) | (simp [*, errW_none, errW_some] <;> rfl), by repeat (first | (with_reducible first | exact HI0.out | apply IsS40.alloc | apply IsS40.drewN | apply IsS40.drew | apply IsS40.set_0 | apply IsS40.set_1 | apply IsS40.set_2 | apply IsS40.set_3 | apply IsS40.set_4 | apply IsS40.set_5 | apply IsS40.set_6 | apply IsS40.set_7 | apply IsS40.set_8 | apply IsS40.set_9 | apply IsS40.set_10) | exact HI0.out), by repeat (first | (with_reducible first | exact HB.out | apply below_alloc | apply pw_below_drewN | apply below_drew1 | refine below_set ?_ (IsS40.ge HI0.out)) | exact HB.out), by repeat (first | (with_reducible first | exact HK.out | apply KeepBut.set_ | apply keep_drewN | apply keep_drew | apply keep_alloc) | exact HK.out)⟩
  · replace c4 := Bool.eq_false_iff.mpr c4
    subst c4
    have H1 : (some ((s0_5 != 0), s0_0, s0_1, s0_2, s0_3, s0_4, s0_5, s0_6, s0_7, s0_8, s0_9, s0_10)) = some (r1, r2, r3, r4, r5, r6, r7, r8, r9, r10, r11, r12) := by rw [if_neg (show ¬ (false = true) by decide)] at H; exact H
    clear H
    have H := H1
    clear H1
    simp only [Option.some.injEq, Prod.mk.injEq] at H
    obtain ⟨rfl, rfl, rfl, rfl, rfl, rfl, rfl, rfl, rfl, rfl, rfl, rfl⟩ := H
    obtain ⟨HGz8, hgz8⟩ := HI0.out
    have hcz8_0 := cellS40_0 HGz8
    have hcz8_1 := cellS40_1 HGz8
    have hcz8_2 := cellS40_2 HGz8
    have hcz8_3 := cellS40_3 HGz8
    have hcz8_4 := cellS40_4 HGz8
    have hcz8_5 := cellS40_5 HGz8
    have hcz8_6 := cellS40_6 HGz8
    have hcz8_7 := cellS40_7 HGz8
    have hcz8_8 := cellS40_8 HGz8
    have hcz8_9 := cellS40_9 HGz8
    have hcz8_10 := cellS40_10 HGz8
    have hfz8_0 := blk_frozen HGz8 0
    have hfz8_1 := blk_frozen HGz8 1
    have hfz8_2 := blk_frozen HGz8 2
    have hfz8_3 := blk_frozen HGz8 3
    have hfz8_4 := blk_frozen HGz8 4
    have hfz8_5 := blk_frozen HGz8 5
    have hfz8_6 := blk_frozen HGz8 6
    have hfz8_7 := blk_frozen HGz8 7
    have hfz8_8 := blk_frozen HGz8 8
    have hfz8_9 := blk_frozen HGz8 9
    have hfz8_10 := blk_frozen HGz8 10
    clear HGz8 hgz8
    go_enter Try.func24, Try.ntmps24
    go_wp2
    go_ret
    exact ⟨by first | rfl | (simp [errW_none, errW_some] <;> rfl) | (simp [*, errW_none, errW_some] <;> rfl), by repeat (first | (with_reducible first | exact HI0.out | apply IsS40.alloc | apply IsS40.drewN | apply IsS40.drew | apply IsS40.set_0 | apply IsS40.set_1 | apply IsS40.set_2 | apply IsS40.set_3 | apply IsS40.set_4 | apply IsS40.set_5 | apply IsS40.set_6 | apply IsS40.set_7 | apply IsS40.set_8 | apply IsS40.set_9 | apply IsS40.set_10) | exact HI0.out), by repeat (first | (with_reducible first | exact HB.out | apply below_alloc | apply pw_below_drewN | apply below_drew1 | refine below_set ?_ (IsS40.ge HI0.out)) | exact HB.out), by repeat (first | (with_reducible first | exact HK.out | apply KeepBut.set_ | apply keep_drewN | apply keep_drew | apply keep_alloc) | exact HK.out)⟩

/-! ### limit_Meter_Object: function 10 -/
theorem i64l (n : Int) : IntKind.i64.wrap n = wrap64 n := by rw [IntKind.wrap_i64]; unfold wrap64; omega
theorem cross_same {s0 s1 s2 s3 s4 s5 s6 s7 s8 s9 s10 : Int} {a1 : Bool} {a2 : Int} {r1 : Bool} {r2 r3 r4 r5 r6 r7 r8 r9 r10 r11 r12 : Int} (h : limit_tally_cross.f s0 s1 s2 s3 s4 s5 s6 s7 s8 s9 s10 a1 a2 = some (r1, r2, r3, r4, r5, r6, r7, r8, r9, r10, r11, r12)) :
    s0 = r2 ∧ s1 = r3 ∧ s2 = r4 ∧ s3 = r5 ∧ s4 = r6 ∧ s6 = r8 ∧ s7 = r9 ∧ s8 = r10 ∧ s9 = r11 ∧ s10 = r12 := by
  unfold limit_tally_cross.f at h
  split at h
  · split at h <;> (simp only [Option.some.injEq, Prod.mk.injEq] at h; omega)
  · simp only [Option.some.injEq, Prod.mk.injEq] at h; omega
def limit_Meter_Object.f (s0_0 : Int) (s0_1 : Int) (s0_2 : Int) (s0_3 : Int) (s0_4 : Int) (s0_5 : Int) (s0_6 : Int) (s0_7 : Int) (s0_8 : Int) (s0_9 : Int) (s0_10 : Int) : Option (Int × Int × Int × Int × Int × Int × Int × Int × Int × Int × Int × Int) := (limit_tally_cross.f s0_0 s0_1 s0_2 s0_3 s0_4 s0_5 s0_6 s0_7 s0_8 s0_9 s0_10 (s0_1 == s0_7) 2).bind fun bt110 => (if bt110.1 = true then (some (bt110.2.2.2.2.2.2.1, bt110.2.1, bt110.2.2.1, bt110.2.2.2.1, bt110.2.2.2.2.1, bt110.2.2.2.2.2.1, bt110.2.2.2.2.2.2.1, bt110.2.2.2.2.2.2.2.1, bt110.2.2.2.2.2.2.2.2.1, bt110.2.2.2.2.2.2.2.2.2.1, bt110.2.2.2.2.2.2.2.2.2.2.1, bt110.2.2.2.2.2.2.2.2.2.2.2)) else (some (bt110.2.2.2.2.2.2.1, bt110.2.1, wrap64 (bt110.2.2.1 + 1), bt110.2.2.2.1, bt110.2.2.2.2.1, bt110.2.2.2.2.2.1, bt110.2.2.2.2.2.2.1, bt110.2.2.2.2.2.2.2.1, bt110.2.2.2.2.2.2.2.2.1, bt110.2.2.2.2.2.2.2.2.2.1, bt110.2.2.2.2.2.2.2.2.2.2.1, bt110.2.2.2.2.2.2.2.2.2.2.2)))
set_option maxHeartbeats 8000000 in
set_option maxRecDepth 100000 in
theorem limit_Meter_Object.calls (g : Nat) (s0_0 : Int) (s0_1 : Int) (s0_2 : Int) (s0_3 : Int) (s0_4 : Int) (s0_5 : Int) (s0_6 : Int) (s0_7 : Int) (s0_8 : Int) (s0_9 : Int) (s0_10 : Int) (r1 : Int) (r2 : Int) (r3 : Int) (r4 : Int) (r5 : Int) (r6 : Int) (r7 : Int) (r8 : Int) (r9 : Int) (r10 : Int) (r11 : Int) (r12 : Int) (w0 w : World) (hI : IsS40 w0 w g s0_0 s0_1 s0_2 s0_3 s0_4 s0_5 s0_6 s0_7 s0_8 s0_9 s0_10) (hB : Below w0.heap.size w0 w) (h : limit_Meter_Object.f s0_0 s0_1 s0_2 s0_3 s0_4 s0_5 s0_6 s0_7 s0_8 s0_9 s0_10 = some (r1, r2, r3, r4, r5, r6, r7, r8, r9, r10, r11, r12)) :
    Calls Try.prog 10 #[.pointer (some ⟨g, 0, none⟩)] w fun e w' => e = .returned (.int .i64 r1) ∧ IsS40 w0 w' g r2 r3 r4 r5 r6 r7 r8 r9 r10 r11 r12 ∧ Below w0.heap.size w0 w' ∧ KeepBut w w' g none := by
  have HI0 := Aside0.mk hI
  have HK := Aside0.mk (KeepBut.refl w g none)
  have HL := Aside0.mk hB.size
  clear hI
  have HW0 := Aside0.mk hB.size
  have HB := Aside0.mk hB
  clear hB
  have H : ((limit_tally_cross.f s0_0 s0_1 s0_2 s0_3 s0_4 s0_5 s0_6 s0_7 s0_8 s0_9 s0_10 (s0_1 == s0_7) 2).bind fun bt110 => (if bt110.1 = true then (some (bt110.2.2.2.2.2.2.1, bt110.2.1, bt110.2.2.1, bt110.2.2.2.1, bt110.2.2.2.2.1, bt110.2.2.2.2.2.1, bt110.2.2.2.2.2.2.1, bt110.2.2.2.2.2.2.2.1, bt110.2.2.2.2.2.2.2.2.1, bt110.2.2.2.2.2.2.2.2.2.1, bt110.2.2.2.2.2.2.2.2.2.2.1, bt110.2.2.2.2.2.2.2.2.2.2.2)) else (some (bt110.2.2.2.2.2.2.1, bt110.2.1, wrap64 (bt110.2.2.1 + 1), bt110.2.2.2.1, bt110.2.2.2.2.1, bt110.2.2.2.2.2.1, bt110.2.2.2.2.2.2.1, bt110.2.2.2.2.2.2.2.1, bt110.2.2.2.2.2.2.2.2.1, bt110.2.2.2.2.2.2.2.2.2.1, bt110.2.2.2.2.2.2.2.2.2.2.1, bt110.2.2.2.2.2.2.2.2.2.2.2)))) = some (r1, r2, r3, r4, r5, r6, r7, r8, r9, r10, r11, r12) := h
  clear h
  replace H := Option.bind_eq_some_iff.mp H
  obtain ⟨⟨t110, t111, t112, t113, t114, t115, t116, t117, t118, t119, t120, t121⟩, A20, H⟩ := H
  replace H : (if t110 = true then (some (t116, t111, t112, t113, t114, t115, t116, t117, t118, t119, t120, t121)) else (some (t116, t111, wrap64 (t112 + 1), t113, t114, t115, t116, t117, t118, t119, t120, t121))) = some (r1, r2, r3, r4, r5, r6, r7, r8, r9, r10, r11, r12) := H
  have A2 := Aside0.mk A20
  clear A20
  by_cases c3 : t110 = true
  · subst c3
    have H1 : (some (t116, t111, t112, t113, t114, t115, t116, t117, t118, t119, t120, t121)) = some (r1, r2, r3, r4, r5, r6, r7, r8, r9, r10, r11, r12) := by rw [if_pos rfl] at H; exact H
    clear H
    have H := H1
    clear H1
    simp only [Option.some.injEq, Prod.mk.injEq] at H
    obtain ⟨rfl, rfl, rfl, rfl, rfl, rfl, rfl, rfl, rfl, rfl, rfl, rfl⟩ := H
    obtain ⟨HGz4, hgz4⟩ := HI0.out
    have hcz4_0 := cellS40_0 HGz4
    have hcz4_1 := cellS40_1 HGz4
    have hcz4_2 := cellS40_2 HGz4
    have hcz4_3 := cellS40_3 HGz4
    have hcz4_4 := cellS40_4 HGz4
    have hcz4_5 := cellS40_5 HGz4
    have hcz4_6 := cellS40_6 HGz4
    have hcz4_7 := cellS40_7 HGz4
    have hcz4_8 := cellS40_8 HGz4
    have hcz4_9 := cellS40_9 HGz4
    have hcz4_10 := cellS40_10 HGz4
    have hfz4_0 := blk_frozen HGz4 0
    have hfz4_1 := blk_frozen HGz4 1
    have hfz4_2 := blk_frozen HGz4 2
    have hfz4_3 := blk_frozen HGz4 3
    have hfz4_4 := blk_frozen HGz4 4
    have hfz4_5 := blk_frozen HGz4 5
    have hfz4_6 := blk_frozen HGz4 6
    have hfz4_7 := blk_frozen HGz4 7
    have hfz4_8 := blk_frozen HGz4 8
    have hfz4_9 := blk_frozen HGz4 9
    have hfz4_10 := blk_frozen HGz4 10
    clear HGz4 hgz4
    go_enter Try.func10, Try.ntmps10
    obtain ⟨rfl, rfl, rfl, rfl, rfl, rfl, rfl, rfl, rfl, rfl⟩ := cross_same A2.out
    go_wp2
    go_region_held3 (fun w' => w'.cell? ⟨g, 0, none⟩ = some (.int .i64 s0_0) ∧ w'.cell? ⟨g, 1, none⟩ = some (.int .i64 s0_1) ∧ w'.cell? ⟨g, 2, none⟩ = some (.int .i64 s0_2) ∧ w'.cell? ⟨g, 3, none⟩ = some (.int .i64 s0_3) ∧ w'.cell? ⟨g, 4, none⟩ = some (.int .i64 s0_4) ∧ w'.cell? ⟨g, 6, none⟩ = some (.int .i64 s0_6) ∧ w'.cell? ⟨g, 7, none⟩ = some (.int .i64 s0_7) ∧ w'.cell? ⟨g, 8, none⟩ = some (.int .i64 s0_8) ∧ w'.cell? ⟨g, 9, none⟩ = some (.int .i64 s0_9) ∧ w'.cell? ⟨g, 10, none⟩ = some (.int .i64 s0_10)) (go_keep) (first | (go_at_call 24; (try simp only [i64l]); (with_reducible refine (limit_tally_cross.calls g s0_0 s0_1 s0_2 s0_3 s0_4 s0_5 s0_6 s0_7 s0_8 s0_9 s0_10 (s0_1 == s0_7) 2 true s0_0 s0_1 s0_2 s0_3 s0_4 t116 s0_6 s0_7 s0_8 s0_9 s0_10 w0 _ ?side1 ?side2 A2.out).mono ?_); (case side1 => repeat (first | (with_reducible first | exact HI0.out | apply IsS40.alloc | apply IsS40.drewN | apply IsS40.drew | apply IsS40.set_0 | apply IsS40.set_1 | apply IsS40.set_2 | apply IsS40.set_3 | apply IsS40.set_4 | apply IsS40.set_5 | apply IsS40.set_6 | apply IsS40.set_7 | apply IsS40.set_8 | apply IsS40.set_9 | apply IsS40.set_10) | exact HI0.out)); (case side2 => repeat (first | (with_reducible first | exact HB.out | apply below_alloc | apply pw_below_drewN | apply below_drew1 | refine below_set ?_ (IsS40.ge HI0.out)) | exact HB.out)); rintro e w5 ⟨rfl, hi, hb, hk⟩; have n0_ := Aside0.mk (KeepBut.trans (by repeat (first | (with_reducible first | exact HK.out | apply KeepBut.set_ | apply keep_drewN | apply keep_drew | apply keep_alloc) | exact HK.out)) hk (.inl rfl)); have n1_ := Aside0.mk (hb); have n2_ := Aside0.mk (hi); clear HK; clear HB; clear HI0; have HK := n0_; have HB := n1_; have HI0 := n2_; clear n0_ n1_ n2_; (try clear hb); (try clear hb2); (try clear hk); (try clear hi); obtain ⟨HGz6, hgz6⟩ := HI0.out; have hcz6_0 := cellS40_0 HGz6; have hcz6_1 := cellS40_1 HGz6; have hcz6_2 := cellS40_2 HGz6; have hcz6_3 := cellS40_3 HGz6; have hcz6_4 := cellS40_4 HGz6; have hcz6_5 := cellS40_5 HGz6; have hcz6_6 := cellS40_6 HGz6; have hcz6_7 := cellS40_7 HGz6; have hcz6_8 := cellS40_8 HGz6; have hcz6_9 := cellS40_9 HGz6; have hcz6_10 := cellS40_10 HGz6; have hfz6_0 := blk_frozen HGz6 0; have hfz6_1 := blk_frozen HGz6 1; have hfz6_2 := blk_frozen HGz6 2; have hfz6_3 := blk_frozen HGz6 3; have hfz6_4 := blk_frozen HGz6 4; have hfz6_5 := blk_frozen HGz6 5; have hfz6_6 := blk_frozen HGz6 6; have hfz6_7 := blk_frozen HGz6 7; have hfz6_8 := blk_frozen HGz6 8; have hfz6_9 := blk_frozen HGz6 9; have hfz6_10 := blk_frozen HGz6 10; clear HGz6 hgz6))
    all_goals go_wp2
    go_ret
    exact ⟨by first | rfl | (simp [errW_none, errW_some] <;> rfl) | (simp [*, errW_none, errW_some] <;> rfl), by repeat (first | (with_reducible first | exact HI0.out | apply IsS40.alloc | apply IsS40.drewN | apply IsS40.drew | apply IsS40.set_0 | apply IsS40.set_1 | apply IsS40.set_2 | apply IsS40.set_3 | apply IsS40.set_4 | apply IsS40.set_5 | apply IsS40.set_6 | apply IsS40.set_7 | apply IsS40.set_8 | apply IsS40.set_9 | apply IsS40.set_10) | exact HI0.out), by repeat (first | (with_reducible first | exact HB.out | apply below_alloc | apply pw_below_drewN | apply below_drew1 | refine below_set ?_ (IsS40.ge HI0.out)) | exact HB.out), by repeat (first | (with_reducible first | exact HK.out | apply KeepBut.set_ | apply keep_drewN | apply keep_drew | apply keep_alloc) | exact HK.out)⟩
  · replace c3 := Bool.eq_false_iff.mpr c3
    subst c3
    have H1 : (some (t116, t111, wrap64 (t112 + 1), t113, t114, t115, t116, t117, t118, t119, t120, t121)) = some (r1, r2, r3, r4, r5, r6, r7, r8, r9, r10, r11, r12) := by rw [if_neg (show ¬ (false = true) by decide)] at H; exact H
    clear H
    have H := H1
    clear H1
    simp only [Option.some.injEq, Prod.mk.injEq] at H
    obtain ⟨rfl, rfl, rfl, rfl, rfl, rfl, rfl, rfl, rfl, rfl, rfl, rfl⟩ := H
    obtain ⟨HGz7, hgz7⟩ := HI0.out
    have hcz7_0 := cellS40_0 HGz7
    have hcz7_1 := cellS40_1 HGz7
    have hcz7_2 := cellS40_2 HGz7
    have hcz7_3 := cellS40_3 HGz7
    have hcz7_4 := cellS40_4 HGz7
    have hcz7_5 := cellS40_5 HGz7
    have hcz7_6 := cellS40_6 HGz7
    have hcz7_7 := cellS40_7 HGz7
    have hcz7_8 := cellS40_8 HGz7
    have hcz7_9 := cellS40_9 HGz7
    have hcz7_10 := cellS40_10 HGz7
    have hfz7_0 := blk_frozen HGz7 0
    have hfz7_1 := blk_frozen HGz7 1
    have hfz7_2 := blk_frozen HGz7 2
    have hfz7_3 := blk_frozen HGz7 3
    have hfz7_4 := blk_frozen HGz7 4
    have hfz7_5 := blk_frozen HGz7 5
    have hfz7_6 := blk_frozen HGz7 6
    have hfz7_7 := blk_frozen HGz7 7
    have hfz7_8 := blk_frozen HGz7 8
    have hfz7_9 := blk_frozen HGz7 9
    have hfz7_10 := blk_frozen HGz7 10
    clear HGz7 hgz7
    go_enter Try.func10, Try.ntmps10
    obtain ⟨rfl, rfl, rfl, rfl, rfl, rfl, rfl, rfl, rfl, rfl⟩ := cross_same A2.out
    go_wp2
    go_region_held3 (fun w' => w'.cell? ⟨g, 0, none⟩ = some (.int .i64 s0_0) ∧ w'.cell? ⟨g, 1, none⟩ = some (.int .i64 s0_1) ∧ w'.cell? ⟨g, 2, none⟩ = some (.int .i64 s0_2) ∧ w'.cell? ⟨g, 3, none⟩ = some (.int .i64 s0_3) ∧ w'.cell? ⟨g, 4, none⟩ = some (.int .i64 s0_4) ∧ w'.cell? ⟨g, 6, none⟩ = some (.int .i64 s0_6) ∧ w'.cell? ⟨g, 7, none⟩ = some (.int .i64 s0_7) ∧ w'.cell? ⟨g, 8, none⟩ = some (.int .i64 s0_8) ∧ w'.cell? ⟨g, 9, none⟩ = some (.int .i64 s0_9) ∧ w'.cell? ⟨g, 10, none⟩ = some (.int .i64 s0_10)) (go_keep) (first | (go_at_call 24; (try simp only [i64l]); (with_reducible refine (limit_tally_cross.calls g s0_0 s0_1 s0_2 s0_3 s0_4 s0_5 s0_6 s0_7 s0_8 s0_9 s0_10 (s0_1 == s0_7) 2 false s0_0 s0_1 s0_2 s0_3 s0_4 t116 s0_6 s0_7 s0_8 s0_9 s0_10 w0 _ ?side1 ?side2 A2.out).mono ?_); (case side1 => repeat (first | (with_reducible first | exact HI0.out | apply IsS40.alloc | apply IsS40.drewN | apply IsS40.drew | apply IsS40.set_0 | apply IsS40.set_1 | apply IsS40.set_2 | apply IsS40.set_3 | apply IsS40.set_4 | apply IsS40.set_5 | apply IsS40.set_6 | apply IsS40.set_7 | apply IsS40.set_8 | apply IsS40.set_9 | apply IsS40.set_10) | exact HI0.out)); (case side2 => repeat (first | (with_reducible first | exact HB.out | apply below_alloc | apply pw_below_drewN | apply below_drew1 | refine below_set ?_ (IsS40.ge HI0.out)) | exact HB.out)); rintro e w8 ⟨rfl, hi, hb, hk⟩; have n0_ := Aside0.mk (KeepBut.trans (by repeat (first | (with_reducible first | exact HK.out | apply KeepBut.set_ | apply keep_drewN | apply keep_drew | apply keep_alloc) | exact HK.out)) hk (.inl rfl)); have n1_ := Aside0.mk (hb); have n2_ := Aside0.mk (hi); clear HK; clear HB; clear HI0; have HK := n0_; have HB := n1_; have HI0 := n2_; clear n0_ n1_ n2_; (try clear hb); (try clear hb2); (try clear hk); (try clear hi); obtain ⟨HGz9, hgz9⟩ := HI0.out; have hcz9_0 := cellS40_0 HGz9; have hcz9_1 := cellS40_1 HGz9; have hcz9_2 := cellS40_2 HGz9; have hcz9_3 := cellS40_3 HGz9; have hcz9_4 := cellS40_4 HGz9; have hcz9_5 := cellS40_5 HGz9; have hcz9_6 := cellS40_6 HGz9; have hcz9_7 := cellS40_7 HGz9; have hcz9_8 := cellS40_8 HGz9; have hcz9_9 := cellS40_9 HGz9; have hcz9_10 := cellS40_10 HGz9; have hfz9_0 := blk_frozen HGz9 0; have hfz9_1 := blk_frozen HGz9 1; have hfz9_2 := blk_frozen HGz9 2; have hfz9_3 := blk_frozen HGz9 3; have hfz9_4 := blk_frozen HGz9 4; have hfz9_5 := blk_frozen HGz9 5; have hfz9_6 := blk_frozen HGz9 6; have hfz9_7 := blk_frozen HGz9 7; have hfz9_8 := blk_frozen HGz9 8; have hfz9_9 := blk_frozen HGz9 9; have hfz9_10 := blk_frozen HGz9 10; clear HGz9 hgz9))
    all_goals go_wp2
    go_ret
    exact ⟨by first | rfl | (simp [errW_none, errW_some] <;> rfl) | (simp [*, errW_none, errW_some] <;> rfl), by repeat (first | (with_reducible first | exact HI0.out | apply IsS40.alloc | apply IsS40.drewN | apply IsS40.drew | apply IsS40.set_0 | apply IsS40.set_1 | apply IsS40.set_2 | apply IsS40.set_3 | apply IsS40.set_4 | apply IsS40.set_5 | apply IsS40.set_6 | apply IsS40.set_7 | apply IsS40.set_8 | apply IsS40.set_9 | apply IsS40.set_10) | exact HI0.out), by repeat (first | (with_reducible first | exact HB.out | apply below_alloc | apply pw_below_drewN | apply below_drew1 | refine below_set ?_ (IsS40.ge HI0.out)) | exact HB.out), by repeat (first | (with_reducible first | exact HK.out | apply KeepBut.set_ | apply keep_drewN | apply keep_drew | apply keep_alloc) | exact HK.out)⟩

/-! ### limit_Meter_Node: function 12 -/
def limit_Meter_Node.f (s0_0 : Int) (s0_1 : Int) (s0_2 : Int) (s0_3 : Int) (s0_4 : Int) (s0_5 : Int) (s0_6 : Int) (s0_7 : Int) (s0_8 : Int) (s0_9 : Int) (s0_10 : Int) (a1 : Int) (a2 : Int) (a3 : Int) : Option (Int × Int × Int × Int × Int × Int × Int × Int × Int × Int × Int × Int) := (limit_tally_cross.f s0_0 s0_1 s0_2 s0_3 s0_4 s0_5 s0_6 s0_7 s0_8 s0_9 s0_10 (decide ((mx a1 0) > s0_8)) 3).bind fun bt122 => (if bt122.1 = true then (some (bt122.2.2.2.2.2.2.1, bt122.2.1, bt122.2.2.1, bt122.2.2.2.1, bt122.2.2.2.2.1, bt122.2.2.2.2.2.1, bt122.2.2.2.2.2.2.1, bt122.2.2.2.2.2.2.2.1, bt122.2.2.2.2.2.2.2.2.1, bt122.2.2.2.2.2.2.2.2.2.1, bt122.2.2.2.2.2.2.2.2.2.2.1, bt122.2.2.2.2.2.2.2.2.2.2.2)) else ((limit_tally_cross.f bt122.2.1 bt122.2.2.1 bt122.2.2.2.1 bt122.2.2.2.2.1 bt122.2.2.2.2.2.1 bt122.2.2.2.2.2.2.1 bt122.2.2.2.2.2.2.2.1 bt122.2.2.2.2.2.2.2.2.1 bt122.2.2.2.2.2.2.2.2.2.1 bt122.2.2.2.2.2.2.2.2.2.2.1 bt122.2.2.2.2.2.2.2.2.2.2.2 (decide ((mx a2 0) > bt122.2.2.2.2.2.2.2.2.2.2.1)) 4).bind fun bt134 => (if bt134.1 = true then (some (bt134.2.2.2.2.2.2.1, bt134.2.1, bt134.2.2.1, bt134.2.2.2.1, bt134.2.2.2.2.1, bt134.2.2.2.2.2.1, bt134.2.2.2.2.2.2.1, bt134.2.2.2.2.2.2.2.1, bt134.2.2.2.2.2.2.2.2.1, bt134.2.2.2.2.2.2.2.2.2.1, bt134.2.2.2.2.2.2.2.2.2.2.1, bt134.2.2.2.2.2.2.2.2.2.2.2)) else ((limit_tally_cross.f bt134.2.1 bt134.2.2.1 bt134.2.2.2.1 bt134.2.2.2.2.1 bt134.2.2.2.2.2.1 bt134.2.2.2.2.2.2.1 bt134.2.2.2.2.2.2.2.1 bt134.2.2.2.2.2.2.2.2.1 bt134.2.2.2.2.2.2.2.2.2.1 bt134.2.2.2.2.2.2.2.2.2.2.1 bt134.2.2.2.2.2.2.2.2.2.2.2 (decide ((mx a3 0) > (wrap64 (bt134.2.2.2.2.2.2.2.2.2.2.2 - bt134.2.2.2.2.2.1)))) 5).bind fun bt146 => (if bt146.1 = true then (some (bt146.2.2.2.2.2.2.1, bt146.2.1, bt146.2.2.1, bt146.2.2.2.1, bt146.2.2.2.2.1, bt146.2.2.2.2.2.1, bt146.2.2.2.2.2.2.1, bt146.2.2.2.2.2.2.2.1, bt146.2.2.2.2.2.2.2.2.1, bt146.2.2.2.2.2.2.2.2.2.1, bt146.2.2.2.2.2.2.2.2.2.2.1, bt146.2.2.2.2.2.2.2.2.2.2.2)) else (some (bt146.2.2.2.2.2.2.1, bt146.2.1, bt146.2.2.1, mx bt146.2.2.2.1 (mx a1 0), mx bt146.2.2.2.2.1 (mx a2 0), wrap64 (bt146.2.2.2.2.2.1 + (mx a3 0)), bt146.2.2.2.2.2.2.1, bt146.2.2.2.2.2.2.2.1, bt146.2.2.2.2.2.2.2.2.1, bt146.2.2.2.2.2.2.2.2.2.1, bt146.2.2.2.2.2.2.2.2.2.2.1, bt146.2.2.2.2.2.2.2.2.2.2.2)))))))
set_option maxHeartbeats 8000000 in
set_option maxRecDepth 100000 in
theorem limit_Meter_Node.calls (g : Nat) (s0_0 : Int) (s0_1 : Int) (s0_2 : Int) (s0_3 : Int) (s0_4 : Int) (s0_5 : Int) (s0_6 : Int) (s0_7 : Int) (s0_8 : Int) (s0_9 : Int) (s0_10 : Int) (a1 : Int) (a2 : Int) (a3 : Int) (r1 : Int) (r2 : Int) (r3 : Int) (r4 : Int) (r5 : Int) (r6 : Int) (r7 : Int) (r8 : Int) (r9 : Int) (r10 : Int) (r11 : Int) (r12 : Int) (w0 w : World) (hI : IsS40 w0 w g s0_0 s0_1 s0_2 s0_3 s0_4 s0_5 s0_6 s0_7 s0_8 s0_9 s0_10) (hB : Below w0.heap.size w0 w) (h : limit_Meter_Node.f s0_0 s0_1 s0_2 s0_3 s0_4 s0_5 s0_6 s0_7 s0_8 s0_9 s0_10 a1 a2 a3 = some (r1, r2, r3, r4, r5, r6, r7, r8, r9, r10, r11, r12)) :
    Calls Try.prog 12 #[.pointer (some ⟨g, 0, none⟩), .int .i64 a1, .int .i64 a2, .int .i64 a3] w fun e w' => e = .returned (.int .i64 r1) ∧ IsS40 w0 w' g r2 r3 r4 r5 r6 r7 r8 r9 r10 r11 r12 ∧ Below w0.heap.size w0 w' ∧ KeepBut w w' g none := by
  have HI0 := Aside0.mk hI
  have HK := Aside0.mk (KeepBut.refl w g none)
  have HL := Aside0.mk hB.size
  clear hI
  have HW0 := Aside0.mk hB.size
  have HB := Aside0.mk hB
  clear hB
  have H : ((limit_tally_cross.f s0_0 s0_1 s0_2 s0_3 s0_4 s0_5 s0_6 s0_7 s0_8 s0_9 s0_10 (decide ((mx a1 0) > s0_8)) 3).bind fun bt122 => (if bt122.1 = true then (some (bt122.2.2.2.2.2.2.1, bt122.2.1, bt122.2.2.1, bt122.2.2.2.1, bt122.2.2.2.2.1, bt122.2.2.2.2.2.1, bt122.2.2.2.2.2.2.1, bt122.2.2.2.2.2.2.2.1, bt122.2.2.2.2.2.2.2.2.1, bt122.2.2.2.2.2.2.2.2.2.1, bt122.2.2.2.2.2.2.2.2.2.2.1, bt122.2.2.2.2.2.2.2.2.2.2.2)) else ((limit_tally_cross.f bt122.2.1 bt122.2.2.1 bt122.2.2.2.1 bt122.2.2.2.2.1 bt122.2.2.2.2.2.1 bt122.2.2.2.2.2.2.1 bt122.2.2.2.2.2.2.2.1 bt122.2.2.2.2.2.2.2.2.1 bt122.2.2.2.2.2.2.2.2.2.1 bt122.2.2.2.2.2.2.2.2.2.2.1 bt122.2.2.2.2.2.2.2.2.2.2.2 (decide ((mx a2 0) > bt122.2.2.2.2.2.2.2.2.2.2.1)) 4).bind fun bt134 => (if bt134.1 = true then (some (bt134.2.2.2.2.2.2.1, bt134.2.1, bt134.2.2.1, bt134.2.2.2.1, bt134.2.2.2.2.1, bt134.2.2.2.2.2.1, bt134.2.2.2.2.2.2.1, bt134.2.2.2.2.2.2.2.1, bt134.2.2.2.2.2.2.2.2.1, bt134.2.2.2.2.2.2.2.2.2.1, bt134.2.2.2.2.2.2.2.2.2.2.1, bt134.2.2.2.2.2.2.2.2.2.2.2)) else ((limit_tally_cross.f bt134.2.1 bt134.2.2.1 bt134.2.2.2.1 bt134.2.2.2.2.1 bt134.2.2.2.2.2.1 bt134.2.2.2.2.2.2.1 bt134.2.2.2.2.2.2.2.1 bt134.2.2.2.2.2.2.2.2.1 bt134.2.2.2.2.2.2.2.2.2.1 bt134.2.2.2.2.2.2.2.2.2.2.1 bt134.2.2.2.2.2.2.2.2.2.2.2 (decide ((mx a3 0) > (wrap64 (bt134.2.2.2.2.2.2.2.2.2.2.2 - bt134.2.2.2.2.2.1)))) 5).bind fun bt146 => (if bt146.1 = true then (some (bt146.2.2.2.2.2.2.1, bt146.2.1, bt146.2.2.1, bt146.2.2.2.1, bt146.2.2.2.2.1, bt146.2.2.2.2.2.1, bt146.2.2.2.2.2.2.1, bt146.2.2.2.2.2.2.2.1, bt146.2.2.2.2.2.2.2.2.1, bt146.2.2.2.2.2.2.2.2.2.1, bt146.2.2.2.2.2.2.2.2.2.2.1, bt146.2.2.2.2.2.2.2.2.2.2.2)) else (some (bt146.2.2.2.2.2.2.1, bt146.2.1, bt146.2.2.1, mx bt146.2.2.2.1 (mx a1 0), mx bt146.2.2.2.2.1 (mx a2 0), wrap64 (bt146.2.2.2.2.2.1 + (mx a3 0)), bt146.2.2.2.2.2.2.1, bt146.2.2.2.2.2.2.2.1, bt146.2.2.2.2.2.2.2.2.1, bt146.2.2.2.2.2.2.2.2.2.1, bt146.2.2.2.2.2.2.2.2.2.2.1, bt146.2.2.2.2.2.2.2.2.2.2.2)))))))) = some (r1, r2, r3, r4, r5, r6, r7, r8, r9, r10, r11, r12) := h
  clear h
  obtain ⟨ji5, hji5⟩ : ∃ j_ : Int, (mx a1 0) = j_ := ⟨_, rfl⟩
  replace H : ((limit_tally_cross.f s0_0 s0_1 s0_2 s0_3 s0_4 s0_5 s0_6 s0_7 s0_8 s0_9 s0_10 (decide ((ji5) > s0_8)) 3).bind fun bt122 => (if bt122.1 = true then (some (bt122.2.2.2.2.2.2.1, bt122.2.1, bt122.2.2.1, bt122.2.2.2.1, bt122.2.2.2.2.1, bt122.2.2.2.2.2.1, bt122.2.2.2.2.2.2.1, bt122.2.2.2.2.2.2.2.1, bt122.2.2.2.2.2.2.2.2.1, bt122.2.2.2.2.2.2.2.2.2.1, bt122.2.2.2.2.2.2.2.2.2.2.1, bt122.2.2.2.2.2.2.2.2.2.2.2)) else ((limit_tally_cross.f bt122.2.1 bt122.2.2.1 bt122.2.2.2.1 bt122.2.2.2.2.1 bt122.2.2.2.2.2.1 bt122.2.2.2.2.2.2.1 bt122.2.2.2.2.2.2.2.1 bt122.2.2.2.2.2.2.2.2.1 bt122.2.2.2.2.2.2.2.2.2.1 bt122.2.2.2.2.2.2.2.2.2.2.1 bt122.2.2.2.2.2.2.2.2.2.2.2 (decide ((mx a2 0) > bt122.2.2.2.2.2.2.2.2.2.2.1)) 4).bind fun bt134 => (if bt134.1 = true then (some (bt134.2.2.2.2.2.2.1, bt134.2.1, bt134.2.2.1, bt134.2.2.2.1, bt134.2.2.2.2.1, bt134.2.2.2.2.2.1, bt134.2.2.2.2.2.2.1, bt134.2.2.2.2.2.2.2.1, bt134.2.2.2.2.2.2.2.2.1, bt134.2.2.2.2.2.2.2.2.2.1, bt134.2.2.2.2.2.2.2.2.2.2.1, bt134.2.2.2.2.2.2.2.2.2.2.2)) else ((limit_tally_cross.f bt134.2.1 bt134.2.2.1 bt134.2.2.2.1 bt134.2.2.2.2.1 bt134.2.2.2.2.2.1 bt134.2.2.2.2.2.2.1 bt134.2.2.2.2.2.2.2.1 bt134.2.2.2.2.2.2.2.2.1 bt134.2.2.2.2.2.2.2.2.2.1 bt134.2.2.2.2.2.2.2.2.2.2.1 bt134.2.2.2.2.2.2.2.2.2.2.2 (decide ((mx a3 0) > (wrap64 (bt134.2.2.2.2.2.2.2.2.2.2.2 - bt134.2.2.2.2.2.1)))) 5).bind fun bt146 => (if bt146.1 = true then (some (bt146.2.2.2.2.2.2.1, bt146.2.1, bt146.2.2.1, bt146.2.2.2.1, bt146.2.2.2.2.1, bt146.2.2.2.2.2.1, bt146.2.2.2.2.2.2.1, bt146.2.2.2.2.2.2.2.1, bt146.2.2.2.2.2.2.2.2.1, bt146.2.2.2.2.2.2.2.2.2.1, bt146.2.2.2.2.2.2.2.2.2.2.1, bt146.2.2.2.2.2.2.2.2.2.2.2)) else (some (bt146.2.2.2.2.2.2.1, bt146.2.1, bt146.2.2.1, mx bt146.2.2.2.1 (ji5), mx bt146.2.2.2.2.1 (mx a2 0), wrap64 (bt146.2.2.2.2.2.1 + (mx a3 0)), bt146.2.2.2.2.2.2.1, bt146.2.2.2.2.2.2.2.1, bt146.2.2.2.2.2.2.2.2.1, bt146.2.2.2.2.2.2.2.2.2.1, bt146.2.2.2.2.2.2.2.2.2.2.1, bt146.2.2.2.2.2.2.2.2.2.2.2)))))))) = some (r1, r2, r3, r4, r5, r6, r7, r8, r9, r10, r11, r12) := by first | (rw [hji5] at H; exact H) | (simp only [hji5] at H ⊢; exact H)
  (try (have hji5l : 0 ≤ ji5 := by (rw [← hji5]; unfold mx; (repeat' split) <;> omega)))
  (try (have hji5m : 0 ≤ ji5 := by omega))
  have hji5_ : (if a1 < 0 then 0 else a1) = ji5 := hji5
  obtain ⟨ji6, hji6⟩ : ∃ j_ : Int, (mx a2 0) = j_ := ⟨_, rfl⟩
  replace H : ((limit_tally_cross.f s0_0 s0_1 s0_2 s0_3 s0_4 s0_5 s0_6 s0_7 s0_8 s0_9 s0_10 (decide ((ji5) > s0_8)) 3).bind fun bt122 => (if bt122.1 = true then (some (bt122.2.2.2.2.2.2.1, bt122.2.1, bt122.2.2.1, bt122.2.2.2.1, bt122.2.2.2.2.1, bt122.2.2.2.2.2.1, bt122.2.2.2.2.2.2.1, bt122.2.2.2.2.2.2.2.1, bt122.2.2.2.2.2.2.2.2.1, bt122.2.2.2.2.2.2.2.2.2.1, bt122.2.2.2.2.2.2.2.2.2.2.1, bt122.2.2.2.2.2.2.2.2.2.2.2)) else ((limit_tally_cross.f bt122.2.1 bt122.2.2.1 bt122.2.2.2.1 bt122.2.2.2.2.1 bt122.2.2.2.2.2.1 bt122.2.2.2.2.2.2.1 bt122.2.2.2.2.2.2.2.1 bt122.2.2.2.2.2.2.2.2.1 bt122.2.2.2.2.2.2.2.2.2.1 bt122.2.2.2.2.2.2.2.2.2.2.1 bt122.2.2.2.2.2.2.2.2.2.2.2 (decide ((ji6) > bt122.2.2.2.2.2.2.2.2.2.2.1)) 4).bind fun bt134 => (if bt134.1 = true then (some (bt134.2.2.2.2.2.2.1, bt134.2.1, bt134.2.2.1, bt134.2.2.2.1, bt134.2.2.2.2.1, bt134.2.2.2.2.2.1, bt134.2.2.2.2.2.2.1, bt134.2.2.2.2.2.2.2.1, bt134.2.2.2.2.2.2.2.2.1, bt134.2.2.2.2.2.2.2.2.2.1, bt134.2.2.2.2.2.2.2.2.2.2.1, bt134.2.2.2.2.2.2.2.2.2.2.2)) else ((limit_tally_cross.f bt134.2.1 bt134.2.2.1 bt134.2.2.2.1 bt134.2.2.2.2.1 bt134.2.2.2.2.2.1 bt134.2.2.2.2.2.2.1 bt134.2.2.2.2.2.2.2.1 bt134.2.2.2.2.2.2.2.2.1 bt134.2.2.2.2.2.2.2.2.2.1 bt134.2.2.2.2.2.2.2.2.2.2.1 bt134.2.2.2.2.2.2.2.2.2.2.2 (decide ((mx a3 0) > (wrap64 (bt134.2.2.2.2.2.2.2.2.2.2.2 - bt134.2.2.2.2.2.1)))) 5).bind fun bt146 => (if bt146.1 = true then (some (bt146.2.2.2.2.2.2.1, bt146.2.1, bt146.2.2.1, bt146.2.2.2.1, bt146.2.2.2.2.1, bt146.2.2.2.2.2.1, bt146.2.2.2.2.2.2.1, bt146.2.2.2.2.2.2.2.1, bt146.2.2.2.2.2.2.2.2.1, bt146.2.2.2.2.2.2.2.2.2.1, bt146.2.2.2.2.2.2.2.2.2.2.1, bt146.2.2.2.2.2.2.2.2.2.2.2)) else (some (bt146.2.2.2.2.2.2.1, bt146.2.1, bt146.2.2.1, mx bt146.2.2.2.1 (ji5), mx bt146.2.2.2.2.1 (ji6), wrap64 (bt146.2.2.2.2.2.1 + (mx a3 0)), bt146.2.2.2.2.2.2.1, bt146.2.2.2.2.2.2.2.1, bt146.2.2.2.2.2.2.2.2.1, bt146.2.2.2.2.2.2.2.2.2.1, bt146.2.2.2.2.2.2.2.2.2.2.1, bt146.2.2.2.2.2.2.2.2.2.2.2)))))))) = some (r1, r2, r3, r4, r5, r6, r7, r8, r9, r10, r11, r12) := by first | (rw [hji6] at H; exact H) | (simp only [hji6] at H ⊢; exact H)
  (try (have hji6l : 0 ≤ ji6 := by (rw [← hji6]; unfold mx; (repeat' split) <;> omega)))
  (try (have hji6m : 0 ≤ ji6 := by omega))
  have hji6_ : (if a2 < 0 then 0 else a2) = ji6 := hji6
  obtain ⟨ji7, hji7⟩ : ∃ j_ : Int, (mx a3 0) = j_ := ⟨_, rfl⟩
  replace H : ((limit_tally_cross.f s0_0 s0_1 s0_2 s0_3 s0_4 s0_5 s0_6 s0_7 s0_8 s0_9 s0_10 (decide ((ji5) > s0_8)) 3).bind fun bt122 => (if bt122.1 = true then (some (bt122.2.2.2.2.2.2.1, bt122.2.1, bt122.2.2.1, bt122.2.2.2.1, bt122.2.2.2.2.1, bt122.2.2.2.2.2.1, bt122.2.2.2.2.2.2.1, bt122.2.2.2.2.2.2.2.1, bt122.2.2.2.2.2.2.2.2.1, bt122.2.2.2.2.2.2.2.2.2.1, bt122.2.2.2.2.2.2.2.2.2.2.1, bt122.2.2.2.2.2.2.2.2.2.2.2)) else ((limit_tally_cross.f bt122.2.1 bt122.2.2.1 bt122.2.2.2.1 bt122.2.2.2.2.1 bt122.2.2.2.2.2.1 bt122.2.2.2.2.2.2.1 bt122.2.2.2.2.2.2.2.1 bt122.2.2.2.2.2.2.2.2.1 bt122.2.2.2.2.2.2.2.2.2.1 bt122.2.2.2.2.2.2.2.2.2.2.1 bt122.2.2.2.2.2.2.2.2.2.2.2 (decide ((ji6) > bt122.2.2.2.2.2.2.2.2.2.2.1)) 4).bind fun bt134 => (if bt134.1 = true then (some (bt134.2.2.2.2.2.2.1, bt134.2.1, bt134.2.2.1, bt134.2.2.2.1, bt134.2.2.2.2.1, bt134.2.2.2.2.2.1, bt134.2.2.2.2.2.2.1, bt134.2.2.2.2.2.2.2.1, bt134.2.2.2.2.2.2.2.2.1, bt134.2.2.2.2.2.2.2.2.2.1, bt134.2.2.2.2.2.2.2.2.2.2.1, bt134.2.2.2.2.2.2.2.2.2.2.2)) else ((limit_tally_cross.f bt134.2.1 bt134.2.2.1 bt134.2.2.2.1 bt134.2.2.2.2.1 bt134.2.2.2.2.2.1 bt134.2.2.2.2.2.2.1 bt134.2.2.2.2.2.2.2.1 bt134.2.2.2.2.2.2.2.2.1 bt134.2.2.2.2.2.2.2.2.2.1 bt134.2.2.2.2.2.2.2.2.2.2.1 bt134.2.2.2.2.2.2.2.2.2.2.2 (decide ((ji7) > (wrap64 (bt134.2.2.2.2.2.2.2.2.2.2.2 - bt134.2.2.2.2.2.1)))) 5).bind fun bt146 => (if bt146.1 = true then (some (bt146.2.2.2.2.2.2.1, bt146.2.1, bt146.2.2.1, bt146.2.2.2.1, bt146.2.2.2.2.1, bt146.2.2.2.2.2.1, bt146.2.2.2.2.2.2.1, bt146.2.2.2.2.2.2.2.1, bt146.2.2.2.2.2.2.2.2.1, bt146.2.2.2.2.2.2.2.2.2.1, bt146.2.2.2.2.2.2.2.2.2.2.1, bt146.2.2.2.2.2.2.2.2.2.2.2)) else (some (bt146.2.2.2.2.2.2.1, bt146.2.1, bt146.2.2.1, mx bt146.2.2.2.1 (ji5), mx bt146.2.2.2.2.1 (ji6), wrap64 (bt146.2.2.2.2.2.1 + (ji7)), bt146.2.2.2.2.2.2.1, bt146.2.2.2.2.2.2.2.1, bt146.2.2.2.2.2.2.2.2.1, bt146.2.2.2.2.2.2.2.2.2.1, bt146.2.2.2.2.2.2.2.2.2.2.1, bt146.2.2.2.2.2.2.2.2.2.2.2)))))))) = some (r1, r2, r3, r4, r5, r6, r7, r8, r9, r10, r11, r12) := by first | (rw [hji7] at H; exact H) | (simp only [hji7] at H ⊢; exact H)
  (try (have hji7l : 0 ≤ ji7 := by (rw [← hji7]; unfold mx; (repeat' split) <;> omega)))
  (try (have hji7m : 0 ≤ ji7 := by omega))
  have hji7_ : (if a3 < 0 then 0 else a3) = ji7 := hji7
  replace H := Option.bind_eq_some_iff.mp H
  obtain ⟨⟨t122, t123, t124, t125, t126, t127, t128, t129, t130, t131, t132, t133⟩, A80, H⟩ := H
  replace H : (if t122 = true then (some (t128, t123, t124, t125, t126, t127, t128, t129, t130, t131, t132, t133)) else ((limit_tally_cross.f t123 t124 t125 t126 t127 t128 t129 t130 t131 t132 t133 (decide ((ji6) > t132)) 4).bind fun bt134 => (if bt134.1 = true then (some (bt134.2.2.2.2.2.2.1, bt134.2.1, bt134.2.2.1, bt134.2.2.2.1, bt134.2.2.2.2.1, bt134.2.2.2.2.2.1, bt134.2.2.2.2.2.2.1, bt134.2.2.2.2.2.2.2.1, bt134.2.2.2.2.2.2.2.2.1, bt134.2.2.2.2.2.2.2.2.2.1, bt134.2.2.2.2.2.2.2.2.2.2.1, bt134.2.2.2.2.2.2.2.2.2.2.2)) else ((limit_tally_cross.f bt134.2.1 bt134.2.2.1 bt134.2.2.2.1 bt134.2.2.2.2.1 bt134.2.2.2.2.2.1 bt134.2.2.2.2.2.2.1 bt134.2.2.2.2.2.2.2.1 bt134.2.2.2.2.2.2.2.2.1 bt134.2.2.2.2.2.2.2.2.2.1 bt134.2.2.2.2.2.2.2.2.2.2.1 bt134.2.2.2.2.2.2.2.2.2.2.2 (decide ((ji7) > (wrap64 (bt134.2.2.2.2.2.2.2.2.2.2.2 - bt134.2.2.2.2.2.1)))) 5).bind fun bt146 => (if bt146.1 = true then (some (bt146.2.2.2.2.2.2.1, bt146.2.1, bt146.2.2.1, bt146.2.2.2.1, bt146.2.2.2.2.1, bt146.2.2.2.2.2.1, bt146.2.2.2.2.2.2.1, bt146.2.2.2.2.2.2.2.1, bt146.2.2.2.2.2.2.2.2.1, bt146.2.2.2.2.2.2.2.2.2.1, bt146.2.2.2.2.2.2.2.2.2.2.1, bt146.2.2.2.2.2.2.2.2.2.2.2)) else (some (bt146.2.2.2.2.2.2.1, bt146.2.1, bt146.2.2.1, mx bt146.2.2.2.1 (ji5), mx bt146.2.2.2.2.1 (ji6), wrap64 (bt146.2.2.2.2.2.1 + (ji7)), bt146.2.2.2.2.2.2.1, bt146.2.2.2.2.2.2.2.1, bt146.2.2.2.2.2.2.2.2.1, bt146.2.2.2.2.2.2.2.2.2.1, bt146.2.2.2.2.2.2.2.2.2.2.1, bt146.2.2.2.2.2.2.2.2.2.2.2))))))) = some (r1, r2, r3, r4, r5, r6, r7, r8, r9, r10, r11, r12) := H
  have A8 := Aside0.mk A80
  clear A80
  by_cases c9 : t122 = true
  · subst c9
    have H1 : (some (t128, t123, t124, t125, t126, t127, t128, t129, t130, t131, t132, t133)) = some (r1, r2, r3, r4, r5, r6, r7, r8, r9, r10, r11, r12) := by rw [if_pos rfl] at H; exact H
    clear H
    have H := H1
    clear H1
    simp only [Option.some.injEq, Prod.mk.injEq] at H
    obtain ⟨rfl, rfl, rfl, rfl, rfl, rfl, rfl, rfl, rfl, rfl, rfl, rfl⟩ := H
    obtain ⟨HGz10, hgz10⟩ := HI0.out
    have hcz10_0 := cellS40_0 HGz10
    have hcz10_1 := cellS40_1 HGz10
    have hcz10_2 := cellS40_2 HGz10
    have hcz10_3 := cellS40_3 HGz10
    have hcz10_4 := cellS40_4 HGz10
    have hcz10_5 := cellS40_5 HGz10
    have hcz10_6 := cellS40_6 HGz10
    have hcz10_7 := cellS40_7 HGz10
    have hcz10_8 := cellS40_8 HGz10
    have hcz10_9 := cellS40_9 HGz10
    have hcz10_10 := cellS40_10 HGz10
    have hfz10_0 := blk_frozen HGz10 0
    have hfz10_1 := blk_frozen HGz10 1
    have hfz10_2 := blk_frozen HGz10 2
    have hfz10_3 := blk_frozen HGz10 3
    have hfz10_4 := blk_frozen HGz10 4
    have hfz10_5 := blk_frozen HGz10 5
    have hfz10_6 := blk_frozen HGz10 6
    have hfz10_7 := blk_frozen HGz10 7
    have hfz10_8 := blk_frozen HGz10 8
    have hfz10_9 := blk_frozen HGz10 9
    have hfz10_10 := blk_frozen HGz10 10
    clear HGz10 hgz10
    go_enter Try.func12, Try.ntmps12
    obtain ⟨rfl, rfl, rfl, rfl, rfl, rfl, rfl, rfl, rfl, rfl⟩ := cross_same A8.out
    go_wp2
    go_region_held3 (fun w' => w'.cell? ⟨g, 0, none⟩ = some (.int .i64 s0_0) ∧ w'.cell? ⟨g, 1, none⟩ = some (.int .i64 s0_1) ∧ w'.cell? ⟨g, 2, none⟩ = some (.int .i64 s0_2) ∧ w'.cell? ⟨g, 3, none⟩ = some (.int .i64 s0_3) ∧ w'.cell? ⟨g, 4, none⟩ = some (.int .i64 s0_4) ∧ w'.cell? ⟨g, 6, none⟩ = some (.int .i64 s0_6) ∧ w'.cell? ⟨g, 7, none⟩ = some (.int .i64 s0_7) ∧ w'.cell? ⟨g, 8, none⟩ = some (.int .i64 s0_8) ∧ w'.cell? ⟨g, 9, none⟩ = some (.int .i64 s0_9) ∧ w'.cell? ⟨g, 10, none⟩ = some (.int .i64 s0_10)) (go_keep) (first | (go_at_call 24; (try simp only [i64l]); (with_reducible refine (limit_tally_cross.calls g s0_0 s0_1 s0_2 s0_3 s0_4 s0_5 s0_6 s0_7 s0_8 s0_9 s0_10 (decide ((ji5) > s0_8)) 3 true s0_0 s0_1 s0_2 s0_3 s0_4 t128 s0_6 s0_7 s0_8 s0_9 s0_10 w0 _ ?side1 ?side2 A8.out).mono ?_); (case side1 => repeat (first | (with_reducible first | exact HI0.out | apply IsS40.alloc | apply IsS40.drewN | apply IsS40.drew | apply IsS40.set_0 | apply IsS40.set_1 | apply IsS40.set_2 | apply IsS40.set_3 | apply IsS40.set_4 | apply IsS40.set_5 | apply IsS40.set_6 | apply IsS40.set_7 | apply IsS40.set_8 | apply IsS40.set_9 | apply IsS40.set_10) | exact HI0.out)); (case side2 => repeat (first | (with_reducible first | exact HB.out | apply below_alloc | apply pw_below_drewN | apply below_drew1 | refine below_set ?_ (IsS40.ge HI0.out)) | exact HB.out)); rintro e w11 ⟨rfl, hi, hb, hk⟩; have n0_ := Aside0.mk (KeepBut.trans (by repeat (first | (with_reducible first | exact HK.out | apply KeepBut.set_ | apply keep_drewN | apply keep_drew | apply keep_alloc) | exact HK.out)) hk (.inl rfl)); have n1_ := Aside0.mk (hb); have n2_ := Aside0.mk (hi); clear HK; clear HB; clear HI0; have HK := n0_; have HB := n1_; have HI0 := n2_; clear n0_ n1_ n2_; (try clear hb); (try clear hb2); (try clear hk); (try clear hi); obtain ⟨HGz12, hgz12⟩ := HI0.out; have hcz12_0 := cellS40_0 HGz12; have hcz12_1 := cellS40_1 HGz12; have hcz12_2 := cellS40_2 HGz12; have hcz12_3 := cellS40_3 HGz12; have hcz12_4 := cellS40_4 HGz12; have hcz12_5 := cellS40_5 HGz12; have hcz12_6 := cellS40_6 HGz12; have hcz12_7 := cellS40_7 HGz12; have hcz12_8 := cellS40_8 HGz12; have hcz12_9 := cellS40_9 HGz12; have hcz12_10 := cellS40_10 HGz12; have hfz12_0 := blk_frozen HGz12 0; have hfz12_1 := blk_frozen HGz12 1; have hfz12_2 := blk_frozen HGz12 2; have hfz12_3 := blk_frozen HGz12 3; have hfz12_4 := blk_frozen HGz12 4; have hfz12_5 := blk_frozen HGz12 5; have hfz12_6 := blk_frozen HGz12 6; have hfz12_7 := blk_frozen HGz12 7; have hfz12_8 := blk_frozen HGz12 8; have hfz12_9 := blk_frozen HGz12 9; have hfz12_10 := blk_frozen HGz12 10; clear HGz12 hgz12))
    all_goals go_wp2
    go_ret
    exact ⟨by first | rfl | (simp [errW_none, errW_some] <;> rfl) | (simp only [← hji5, ← hji6, ← hji7]; first | rfl | (simp [errW_none, errW_some] <;> rfl)) | (simp [*, errW_none, errW_some] <;> rfl), by repeat (first | (with_reducible first | exact HI0.out | apply IsS40.alloc | apply IsS40.drewN | apply IsS40.drew | apply IsS40.set_0 | apply IsS40.set_1 | apply IsS40.set_2 | apply IsS40.set_3 | apply IsS40.set_4 | apply IsS40.set_5 | apply IsS40.set_6 | apply IsS40.set_7 | apply IsS40.set_8 | apply IsS40.set_9 | apply IsS40.set_10) | exact HI0.out), by repeat (first | (with_reducible first | exact HB.out | apply below_alloc | apply pw_below_drewN | apply below_drew1 | refine below_set ?_ (IsS40.ge HI0.out)) | exact HB.out), by repeat (first | (with_reducible first | exact HK.out | apply KeepBut.set_ | apply keep_drewN | apply keep_drew | apply keep_alloc) | exact HK.out)⟩
  · replace c9 := Bool.eq_false_iff.mpr c9
    subst c9
    have H1 : ((limit_tally_cross.f t123 t124 t125 t126 t127 t128 t129 t130 t131 t132 t133 (decide ((ji6) > t132)) 4).bind fun bt134 => (if bt134.1 = true then (some (bt134.2.2.2.2.2.2.1, bt134.2.1, bt134.2.2.1, bt134.2.2.2.1, bt134.2.2.2.2.1, bt134.2.2.2.2.2.1, bt134.2.2.2.2.2.2.1, bt134.2.2.2.2.2.2.2.1, bt134.2.2.2.2.2.2.2.2.1, bt134.2.2.2.2.2.2.2.2.2.1, bt134.2.2.2.2.2.2.2.2.2.2.1, bt134.2.2.2.2.2.2.2.2.2.2.2)) else ((limit_tally_cross.f bt134.2.1 bt134.2.2.1 bt134.2.2.2.1 bt134.2.2.2.2.1 bt134.2.2.2.2.2.1 bt134.2.2.2.2.2.2.1 bt134.2.2.2.2.2.2.2.1 bt134.2.2.2.2.2.2.2.2.1 bt134.2.2.2.2.2.2.2.2.2.1 bt134.2.2.2.2.2.2.2.2.2.2.1 bt134.2.2.2.2.2.2.2.2.2.2.2 (decide ((ji7) > (wrap64 (bt134.2.2.2.2.2.2.2.2.2.2.2 - bt134.2.2.2.2.2.1)))) 5).bind fun bt146 => (if bt146.1 = true then (some (bt146.2.2.2.2.2.2.1, bt146.2.1, bt146.2.2.1, bt146.2.2.2.1, bt146.2.2.2.2.1, bt146.2.2.2.2.2.1, bt146.2.2.2.2.2.2.1, bt146.2.2.2.2.2.2.2.1, bt146.2.2.2.2.2.2.2.2.1, bt146.2.2.2.2.2.2.2.2.2.1, bt146.2.2.2.2.2.2.2.2.2.2.1, bt146.2.2.2.2.2.2.2.2.2.2.2)) else (some (bt146.2.2.2.2.2.2.1, bt146.2.1, bt146.2.2.1, mx bt146.2.2.2.1 (ji5), mx bt146.2.2.2.2.1 (ji6), wrap64 (bt146.2.2.2.2.2.1 + (ji7)), bt146.2.2.2.2.2.2.1, bt146.2.2.2.2.2.2.2.1, bt146.2.2.2.2.2.2.2.2.1, bt146.2.2.2.2.2.2.2.2.2.1, bt146.2.2.2.2.2.2.2.2.2.2.1, bt146.2.2.2.2.2.2.2.2.2.2.2)))))) = some (r1, r2, r3, r4, r5, r6, r7, r8, r9, r10, r11, r12) := by rw [if_neg (show ¬ (false = true) by decide)] at H; exact H
    clear H
    have H := H1
    clear H1
    replace H := Option.bind_eq_some_iff.mp H
    obtain ⟨⟨t134, t135, t136, t137, t138, t139, t140, t141, t142, t143, t144, t145⟩, A130, H⟩ := H
    replace H : (if t134 = true then (some (t140, t135, t136, t137, t138, t139, t140, t141, t142, t143, t144, t145)) else ((limit_tally_cross.f t135 t136 t137 t138 t139 t140 t141 t142 t143 t144 t145 (decide ((ji7) > (wrap64 (t145 - t139)))) 5).bind fun bt146 => (if bt146.1 = true then (some (bt146.2.2.2.2.2.2.1, bt146.2.1, bt146.2.2.1, bt146.2.2.2.1, bt146.2.2.2.2.1, bt146.2.2.2.2.2.1, bt146.2.2.2.2.2.2.1, bt146.2.2.2.2.2.2.2.1, bt146.2.2.2.2.2.2.2.2.1, bt146.2.2.2.2.2.2.2.2.2.1, bt146.2.2.2.2.2.2.2.2.2.2.1, bt146.2.2.2.2.2.2.2.2.2.2.2)) else (some (bt146.2.2.2.2.2.2.1, bt146.2.1, bt146.2.2.1, mx bt146.2.2.2.1 (ji5), mx bt146.2.2.2.2.1 (ji6), wrap64 (bt146.2.2.2.2.2.1 + (ji7)), bt146.2.2.2.2.2.2.1, bt146.2.2.2.2.2.2.2.1, bt146.2.2.2.2.2.2.2.2.1, bt146.2.2.2.2.2.2.2.2.2.1, bt146.2.2.2.2.2.2.2.2.2.2.1, bt146.2.2.2.2.2.2.2.2.2.2.2))))) = some (r1, r2, r3, r4, r5, r6, r7, r8, r9, r10, r11, r12) := H
    have A13 := Aside0.mk A130
    clear A130
    by_cases c14 : t134 = true
    · subst c14
      have H1 : (some (t140, t135, t136, t137, t138, t139, t140, t141, t142, t143, t144, t145)) = some (r1, r2, r3, r4, r5, r6, r7, r8, r9, r10, r11, r12) := by rw [if_pos rfl] at H; exact H
      clear H
      have H := H1
      clear H1
      simp only [Option.some.injEq, Prod.mk.injEq] at H
      obtain ⟨rfl, rfl, rfl, rfl, rfl, rfl, rfl, rfl, rfl, rfl, rfl, rfl⟩ := H
      obtain ⟨HGz15, hgz15⟩ := HI0.out
      have hcz15_0 := cellS40_0 HGz15
      have hcz15_1 := cellS40_1 HGz15
      have hcz15_2 := cellS40_2 HGz15
      have hcz15_3 := cellS40_3 HGz15
      have hcz15_4 := cellS40_4 HGz15
      have hcz15_5 := cellS40_5 HGz15
      have hcz15_6 := cellS40_6 HGz15
      have hcz15_7 := cellS40_7 HGz15
      have hcz15_8 := cellS40_8 HGz15
      have hcz15_9 := cellS40_9 HGz15
      have hcz15_10 := cellS40_10 HGz15
      have hfz15_0 := blk_frozen HGz15 0
      have hfz15_1 := blk_frozen HGz15 1
      have hfz15_2 := blk_frozen HGz15 2
      have hfz15_3 := blk_frozen HGz15 3
      have hfz15_4 := blk_frozen HGz15 4
      have hfz15_5 := blk_frozen HGz15 5
      have hfz15_6 := blk_frozen HGz15 6
      have hfz15_7 := blk_frozen HGz15 7
      have hfz15_8 := blk_frozen HGz15 8
      have hfz15_9 := blk_frozen HGz15 9
      have hfz15_10 := blk_frozen HGz15 10
      clear HGz15 hgz15
      go_enter Try.func12, Try.ntmps12
      obtain ⟨rfl, rfl, rfl, rfl, rfl, rfl, rfl, rfl, rfl, rfl⟩ := cross_same A8.out
      obtain ⟨rfl, rfl, rfl, rfl, rfl, rfl, rfl, rfl, rfl, rfl⟩ := cross_same A13.out
      go_wp2
      go_region_held3 (fun w' => w'.cell? ⟨g, 0, none⟩ = some (.int .i64 s0_0) ∧ w'.cell? ⟨g, 1, none⟩ = some (.int .i64 s0_1) ∧ w'.cell? ⟨g, 2, none⟩ = some (.int .i64 s0_2) ∧ w'.cell? ⟨g, 3, none⟩ = some (.int .i64 s0_3) ∧ w'.cell? ⟨g, 4, none⟩ = some (.int .i64 s0_4) ∧ w'.cell? ⟨g, 6, none⟩ = some (.int .i64 s0_6) ∧ w'.cell? ⟨g, 7, none⟩ = some (.int .i64 s0_7) ∧ w'.cell? ⟨g, 8, none⟩ = some (.int .i64 s0_8) ∧ w'.cell? ⟨g, 9, none⟩ = some (.int .i64 s0_9) ∧ w'.cell? ⟨g, 10, none⟩ = some (.int .i64 s0_10)) (go_keep) (first | (go_at_call 24; (try simp only [i64l]); (with_reducible refine (limit_tally_cross.calls g s0_0 s0_1 s0_2 s0_3 s0_4 s0_5 s0_6 s0_7 s0_8 s0_9 s0_10 (decide ((ji5) > s0_8)) 3 false s0_0 s0_1 s0_2 s0_3 s0_4 t128 s0_6 s0_7 s0_8 s0_9 s0_10 w0 _ ?side1 ?side2 A8.out).mono ?_); (case side1 => repeat (first | (with_reducible first | exact HI0.out | apply IsS40.alloc | apply IsS40.drewN | apply IsS40.drew | apply IsS40.set_0 | apply IsS40.set_1 | apply IsS40.set_2 | apply IsS40.set_3 | apply IsS40.set_4 | apply IsS40.set_5 | apply IsS40.set_6 | apply IsS40.set_7 | apply IsS40.set_8 | apply IsS40.set_9 | apply IsS40.set_10) | exact HI0.out)); (case side2 => repeat (first | (with_reducible first | exact HB.out | apply below_alloc | apply pw_below_drewN | apply below_drew1 | refine below_set ?_ (IsS40.ge HI0.out)) | exact HB.out)); rintro e w16 ⟨rfl, hi, hb, hk⟩; have n0_ := Aside0.mk (KeepBut.trans (by repeat (first | (with_reducible first | exact HK.out | apply KeepBut.set_ | apply keep_drewN | apply keep_drew | apply keep_alloc) | exact HK.out)) hk (.inl rfl)); have n1_ := Aside0.mk (hb); have n2_ := Aside0.mk (hi); clear HK; clear HB; clear HI0; have HK := n0_; have HB := n1_; have HI0 := n2_; clear n0_ n1_ n2_; (try clear hb); (try clear hb2); (try clear hk); (try clear hi); obtain ⟨HGz17, hgz17⟩ := HI0.out; have hcz17_0 := cellS40_0 HGz17; have hcz17_1 := cellS40_1 HGz17; have hcz17_2 := cellS40_2 HGz17; have hcz17_3 := cellS40_3 HGz17; have hcz17_4 := cellS40_4 HGz17; have hcz17_5 := cellS40_5 HGz17; have hcz17_6 := cellS40_6 HGz17; have hcz17_7 := cellS40_7 HGz17; have hcz17_8 := cellS40_8 HGz17; have hcz17_9 := cellS40_9 HGz17; have hcz17_10 := cellS40_10 HGz17; have hfz17_0 := blk_frozen HGz17 0; have hfz17_1 := blk_frozen HGz17 1; have hfz17_2 := blk_frozen HGz17 2; have hfz17_3 := blk_frozen HGz17 3; have hfz17_4 := blk_frozen HGz17 4; have hfz17_5 := blk_frozen HGz17 5; have hfz17_6 := blk_frozen HGz17 6; have hfz17_7 := blk_frozen HGz17 7; have hfz17_8 := blk_frozen HGz17 8; have hfz17_9 := blk_frozen HGz17 9; have hfz17_10 := blk_frozen HGz17 10; clear HGz17 hgz17))
      all_goals go_wp2
      go_region_held3 (fun w' => w'.cell? ⟨g, 0, none⟩ = some (.int .i64 s0_0) ∧ w'.cell? ⟨g, 1, none⟩ = some (.int .i64 s0_1) ∧ w'.cell? ⟨g, 2, none⟩ = some (.int .i64 s0_2) ∧ w'.cell? ⟨g, 3, none⟩ = some (.int .i64 s0_3) ∧ w'.cell? ⟨g, 4, none⟩ = some (.int .i64 s0_4) ∧ w'.cell? ⟨g, 6, none⟩ = some (.int .i64 s0_6) ∧ w'.cell? ⟨g, 7, none⟩ = some (.int .i64 s0_7) ∧ w'.cell? ⟨g, 8, none⟩ = some (.int .i64 s0_8) ∧ w'.cell? ⟨g, 9, none⟩ = some (.int .i64 s0_9) ∧ w'.cell? ⟨g, 10, none⟩ = some (.int .i64 s0_10)) (go_keep) (first | (go_at_call 24; (try simp only [i64l]); (with_reducible refine (limit_tally_cross.calls g s0_0 s0_1 s0_2 s0_3 s0_4 t128 s0_6 s0_7 s0_8 s0_9 s0_10 (decide ((ji6) > s0_9)) 4 true s0_0 s0_1 s0_2 s0_3 s0_4 t140 s0_6 s0_7 s0_8 s0_9 s0_10 w0 _ ?side1 ?side2 A13.out).mono ?_); (case side1 => repeat (first | (with_reducible first | exact HI0.out | apply IsS40.alloc | apply IsS40.drewN | apply IsS40.drew | apply IsS40.set_0 | apply IsS40.set_1 | apply IsS40.set_2 | apply IsS40.set_3 | apply IsS40.set_4 | apply IsS40.set_5 | apply IsS40.set_6 | apply IsS40.set_7 | apply IsS40.set_8 | apply IsS40.set_9 | apply IsS40.set_10) | exact HI0.out)); (case side2 => repeat (first | (with_reducible first | exact HB.out | apply below_alloc | apply pw_below_drewN | apply below_drew1 | refine below_set ?_ (IsS40.ge HI0.out)) | exact HB.out)); rintro e w18 ⟨rfl, hi, hb, hk⟩; have n0_ := Aside0.mk (KeepBut.trans (by repeat (first | (with_reducible first | exact HK.out | apply KeepBut.set_ | apply keep_drewN | apply keep_drew | apply keep_alloc) | exact HK.out)) hk (.inl rfl)); have n1_ := Aside0.mk (hb); have n2_ := Aside0.mk (hi); clear HK; clear HB; clear HI0; have HK := n0_; have HB := n1_; have HI0 := n2_; clear n0_ n1_ n2_; (try clear hb); (try clear hb2); (try clear hk); (try clear hi); obtain ⟨HGz19, hgz19⟩ := HI0.out; have hcz19_0 := cellS40_0 HGz19; have hcz19_1 := cellS40_1 HGz19; have hcz19_2 := cellS40_2 HGz19; have hcz19_3 := cellS40_3 HGz19; have hcz19_4 := cellS40_4 HGz19; have hcz19_5 := cellS40_5 HGz19; have hcz19_6 := cellS40_6 HGz19; have hcz19_7 := cellS40_7 HGz19; have hcz19_8 := cellS40_8 HGz19; have hcz19_9 := cellS40_9 HGz19; have hcz19_10 := cellS40_10 HGz19; have hfz19_0 := blk_frozen HGz19 0; have hfz19_1 := blk_frozen HGz19 1; have hfz19_2 := blk_frozen HGz19 2; have hfz19_3 := blk_frozen HGz19 3; have hfz19_4 := blk_frozen HGz19 4; have hfz19_5 := blk_frozen HGz19 5; have hfz19_6 := blk_frozen HGz19 6; have hfz19_7 := blk_frozen HGz19 7; have hfz19_8 := blk_frozen HGz19 8; have hfz19_9 := blk_frozen HGz19 9; have hfz19_10 := blk_frozen HGz19 10; clear HGz19 hgz19))
      all_goals go_wp2
      go_ret
      exact ⟨by first | rfl | (simp [errW_none, errW_some] <;> rfl) | (simp only [← hji5, ← hji6, ← hji7]; first | rfl | (simp [errW_none, errW_some] <;> rfl)) | (simp [*, errW_none, errW_some] <;> rfl), by repeat (first | (with_reducible first | exact HI0.out | apply IsS40.alloc | apply IsS40.drewN | apply IsS40.drew | apply IsS40.set_0 | apply IsS40.set_1 | apply IsS40.set_2 | apply IsS40.set_3 | apply IsS40.set_4 | apply IsS40.set_5 | apply IsS40.set_6 | apply IsS40.set_7 | apply IsS40.set_8 | apply IsS40.set_9 | apply IsS40.set_10) | exact HI0.out), by repeat (first | (with_reducible first | exact HB.out | apply below_alloc | apply pw_below_drewN | apply below_drew1 | refine below_set ?_ (IsS40.ge HI0.out)) | exact HB.out), by repeat (first | (with_reducible first | exact HK.out | apply KeepBut.set_ | apply keep_drewN | apply keep_drew | apply keep_alloc) | exact HK.out)⟩
    · replace c14 := Bool.eq_false_iff.mpr c14
      subst c14
      have H1 : ((limit_tally_cross.f t135 t136 t137 t138 t139 t140 t141 t142 t143 t144 t145 (decide ((ji7) > (wrap64 (t145 - t139)))) 5).bind fun bt146 => (if bt146.1 = true then (some (bt146.2.2.2.2.2.2.1, bt146.2.1, bt146.2.2.1, bt146.2.2.2.1, bt146.2.2.2.2.1, bt146.2.2.2.2.2.1, bt146.2.2.2.2.2.2.1, bt146.2.2.2.2.2.2.2.1, bt146.2.2.2.2.2.2.2.2.1, bt146.2.2.2.2.2.2.2.2.2.1, bt146.2.2.2.2.2.2.2.2.2.2.1, bt146.2.2.2.2.2.2.2.2.2.2.2)) else (some (bt146.2.2.2.2.2.2.1, bt146.2.1, bt146.2.2.1, mx bt146.2.2.2.1 (ji5), mx bt146.2.2.2.2.1 (ji6), wrap64 (bt146.2.2.2.2.2.1 + (ji7)), bt146.2.2.2.2.2.2.1, bt146.2.2.2.2.2.2.2.1, bt146.2.2.2.2.2.2.2.2.1, bt146.2.2.2.2.2.2.2.2.2.1, bt146.2.2.2.2.2.2.2.2.2.2.1, bt146.2.2.2.2.2.2.2.2.2.2.2)))) = some (r1, r2, r3, r4, r5, r6, r7, r8, r9, r10, r11, r12) := by rw [if_neg (show ¬ (false = true) by decide)] at H; exact H
      clear H
      have H := H1
      clear H1
      replace H := Option.bind_eq_some_iff.mp H
      obtain ⟨⟨t146, t147, t148, t149, t150, t151, t152, t153, t154, t155, t156, t157⟩, A200, H⟩ := H
      replace H : (if t146 = true then (some (t152, t147, t148, t149, t150, t151, t152, t153, t154, t155, t156, t157)) else (some (t152, t147, t148, mx t149 (ji5), mx t150 (ji6), wrap64 (t151 + (ji7)), t152, t153, t154, t155, t156, t157))) = some (r1, r2, r3, r4, r5, r6, r7, r8, r9, r10, r11, r12) := H
      have A20 := Aside0.mk A200
      clear A200
      by_cases c21 : t146 = true
      · subst c21
        have H1 : (some (t152, t147, t148, t149, t150, t151, t152, t153, t154, t155, t156, t157)) = some (r1, r2, r3, r4, r5, r6, r7, r8, r9, r10, r11, r12) := by rw [if_pos rfl] at H; exact H
        clear H
        have H := H1
        clear H1
        simp only [Option.some.injEq, Prod.mk.injEq] at H
        obtain ⟨rfl, rfl, rfl, rfl, rfl, rfl, rfl, rfl, rfl, rfl, rfl, rfl⟩ := H
        obtain ⟨HGz22, hgz22⟩ := HI0.out
        have hcz22_0 := cellS40_0 HGz22
        have hcz22_1 := cellS40_1 HGz22
        have hcz22_2 := cellS40_2 HGz22
        have hcz22_3 := cellS40_3 HGz22
        have hcz22_4 := cellS40_4 HGz22
        have hcz22_5 := cellS40_5 HGz22
        have hcz22_6 := cellS40_6 HGz22
        have hcz22_7 := cellS40_7 HGz22
        have hcz22_8 := cellS40_8 HGz22
        have hcz22_9 := cellS40_9 HGz22
        have hcz22_10 := cellS40_10 HGz22
        have hfz22_0 := blk_frozen HGz22 0
        have hfz22_1 := blk_frozen HGz22 1
        have hfz22_2 := blk_frozen HGz22 2
        have hfz22_3 := blk_frozen HGz22 3
        have hfz22_4 := blk_frozen HGz22 4
        have hfz22_5 := blk_frozen HGz22 5
        have hfz22_6 := blk_frozen HGz22 6
        have hfz22_7 := blk_frozen HGz22 7
        have hfz22_8 := blk_frozen HGz22 8
        have hfz22_9 := blk_frozen HGz22 9
        have hfz22_10 := blk_frozen HGz22 10
        clear HGz22 hgz22
        go_enter Try.func12, Try.ntmps12
        obtain ⟨rfl, rfl, rfl, rfl, rfl, rfl, rfl, rfl, rfl, rfl⟩ := cross_same A8.out
        obtain ⟨rfl, rfl, rfl, rfl, rfl, rfl, rfl, rfl, rfl, rfl⟩ := cross_same A13.out
        obtain ⟨rfl, rfl, rfl, rfl, rfl, rfl, rfl, rfl, rfl, rfl⟩ := cross_same A20.out
        go_wp2
        go_region_held3 (fun w' => w'.cell? ⟨g, 0, none⟩ = some (.int .i64 s0_0) ∧ w'.cell? ⟨g, 1, none⟩ = some (.int .i64 s0_1) ∧ w'.cell? ⟨g, 2, none⟩ = some (.int .i64 s0_2) ∧ w'.cell? ⟨g, 3, none⟩ = some (.int .i64 s0_3) ∧ w'.cell? ⟨g, 4, none⟩ = some (.int .i64 s0_4) ∧ w'.cell? ⟨g, 6, none⟩ = some (.int .i64 s0_6) ∧ w'.cell? ⟨g, 7, none⟩ = some (.int .i64 s0_7) ∧ w'.cell? ⟨g, 8, none⟩ = some (.int .i64 s0_8) ∧ w'.cell? ⟨g, 9, none⟩ = some (.int .i64 s0_9) ∧ w'.cell? ⟨g, 10, none⟩ = some (.int .i64 s0_10)) (go_keep) (first | (go_at_call 24; (try simp only [i64l]); (with_reducible refine (limit_tally_cross.calls g s0_0 s0_1 s0_2 s0_3 s0_4 s0_5 s0_6 s0_7 s0_8 s0_9 s0_10 (decide ((ji5) > s0_8)) 3 false s0_0 s0_1 s0_2 s0_3 s0_4 t128 s0_6 s0_7 s0_8 s0_9 s0_10 w0 _ ?side1 ?side2 A8.out).mono ?_); (case side1 => repeat (first | (with_reducible first | exact HI0.out | apply IsS40.alloc | apply IsS40.drewN | apply IsS40.drew | apply IsS40.set_0 | apply IsS40.set_1 | apply IsS40.set_2 | apply IsS40.set_3 | apply IsS40.set_4 | apply IsS40.set_5 | apply IsS40.set_6 | apply IsS40.set_7 | apply IsS40.set_8 | apply IsS40.set_9 | apply IsS40.set_10) | exact HI0.out)); (case side2 => repeat (first | (with_reducible first | exact HB.out | apply below_alloc | apply pw_below_drewN | apply below_drew1 | refine below_set ?_ (IsS40.ge HI0.out)) | exact HB.out)); rintro e w23 ⟨rfl, hi, hb, hk⟩; have n0_ := Aside0.mk (KeepBut.trans (by repeat (first | (with_reducible first | exact HK.out | apply KeepBut.set_ | apply keep_drewN | apply keep_drew | apply keep_alloc) | exact HK.out)) hk (.inl rfl)); have n1_ := Aside0.mk (hb); have n2_ := Aside0.mk (hi); clear HK; clear HB; clear HI0; have HK := n0_; have HB := n1_; have HI0 := n2_; clear n0_ n1_ n2_; (try clear hb); (try clear hb2); (try clear hk); (try clear hi); obtain ⟨HGz24, hgz24⟩ := HI0.out; have hcz24_0 := cellS40_0 HGz24; have hcz24_1 := cellS40_1 HGz24; have hcz24_2 := cellS40_2 HGz24; have hcz24_3 := cellS40_3 HGz24; have hcz24_4 := cellS40_4 HGz24; have hcz24_5 := cellS40_5 HGz24; have hcz24_6 := cellS40_6 HGz24; have hcz24_7 := cellS40_7 HGz24; have hcz24_8 := cellS40_8 HGz24; have hcz24_9 := cellS40_9 HGz24; have hcz24_10 := cellS40_10 HGz24; have hfz24_0 := blk_frozen HGz24 0; have hfz24_1 := blk_frozen HGz24 1; have hfz24_2 := blk_frozen HGz24 2; have hfz24_3 := blk_frozen HGz24 3; have hfz24_4 := blk_frozen HGz24 4; have hfz24_5 := blk_frozen HGz24 5; have hfz24_6 := blk_frozen HGz24 6; have hfz24_7 := blk_frozen HGz24 7; have hfz24_8 := blk_frozen HGz24 8; have hfz24_9 := blk_frozen HGz24 9; have hfz24_10 := blk_frozen HGz24 10; clear HGz24 hgz24))
        all_goals go_wp2
        go_region_held3 (fun w' => w'.cell? ⟨g, 0, none⟩ = some (.int .i64 s0_0) ∧ w'.cell? ⟨g, 1, none⟩ = some (.int .i64 s0_1) ∧ w'.cell? ⟨g, 2, none⟩ = some (.int .i64 s0_2) ∧ w'.cell? ⟨g, 3, none⟩ = some (.int .i64 s0_3) ∧ w'.cell? ⟨g, 4, none⟩ = some (.int .i64 s0_4) ∧ w'.cell? ⟨g, 6, none⟩ = some (.int .i64 s0_6) ∧ w'.cell? ⟨g, 7, none⟩ = some (.int .i64 s0_7) ∧ w'.cell? ⟨g, 8, none⟩ = some (.int .i64 s0_8) ∧ w'.cell? ⟨g, 9, none⟩ = some (.int .i64 s0_9) ∧ w'.cell? ⟨g, 10, none⟩ = some (.int .i64 s0_10)) (go_keep) (first | (go_at_call 24; (try simp only [i64l]); (with_reducible refine (limit_tally_cross.calls g s0_0 s0_1 s0_2 s0_3 s0_4 t128 s0_6 s0_7 s0_8 s0_9 s0_10 (decide ((ji6) > s0_9)) 4 false s0_0 s0_1 s0_2 s0_3 s0_4 t140 s0_6 s0_7 s0_8 s0_9 s0_10 w0 _ ?side1 ?side2 A13.out).mono ?_); (case side1 => repeat (first | (with_reducible first | exact HI0.out | apply IsS40.alloc | apply IsS40.drewN | apply IsS40.drew | apply IsS40.set_0 | apply IsS40.set_1 | apply IsS40.set_2 | apply IsS40.set_3 | apply IsS40.set_4 | apply IsS40.set_5 | apply IsS40.set_6 | apply IsS40.set_7 | apply IsS40.set_8 | apply IsS40.set_9 | apply IsS40.set_10) | exact HI0.out)); (case side2 => repeat (first | (with_reducible first | exact HB.out | apply below_alloc | apply pw_below_drewN | apply below_drew1 | refine below_set ?_ (IsS40.ge HI0.out)) | exact HB.out)); rintro e w25 ⟨rfl, hi, hb, hk⟩; have n0_ := Aside0.mk (KeepBut.trans (by repeat (first | (with_reducible first | exact HK.out | apply KeepBut.set_ | apply keep_drewN | apply keep_drew | apply keep_alloc) | exact HK.out)) hk (.inl rfl)); have n1_ := Aside0.mk (hb); have n2_ := Aside0.mk (hi); clear HK; clear HB; clear HI0; have HK := n0_; have HB := n1_; have HI0 := n2_; clear n0_ n1_ n2_; (try clear hb); (try clear hb2); (try clear hk); (try clear hi); obtain ⟨HGz26, hgz26⟩ := HI0.out; have hcz26_0 := cellS40_0 HGz26; have hcz26_1 := cellS40_1 HGz26; have hcz26_2 := cellS40_2 HGz26; have hcz26_3 := cellS40_3 HGz26; have hcz26_4 := cellS40_4 HGz26; have hcz26_5 := cellS40_5 HGz26; have hcz26_6 := cellS40_6 HGz26; have hcz26_7 := cellS40_7 HGz26; have hcz26_8 := cellS40_8 HGz26; have hcz26_9 := cellS40_9 HGz26; have hcz26_10 := cellS40_10 HGz26; have hfz26_0 := blk_frozen HGz26 0; have hfz26_1 := blk_frozen HGz26 1; have hfz26_2 := blk_frozen HGz26 2; have hfz26_3 := blk_frozen HGz26 3; have hfz26_4 := blk_frozen HGz26 4; have hfz26_5 := blk_frozen HGz26 5; have hfz26_6 := blk_frozen HGz26 6; have hfz26_7 := blk_frozen HGz26 7; have hfz26_8 := blk_frozen HGz26 8; have hfz26_9 := blk_frozen HGz26 9; have hfz26_10 := blk_frozen HGz26 10; clear HGz26 hgz26))
        all_goals go_wp2
        go_region_held3 (fun w' => w'.cell? ⟨g, 0, none⟩ = some (.int .i64 s0_0) ∧ w'.cell? ⟨g, 1, none⟩ = some (.int .i64 s0_1) ∧ w'.cell? ⟨g, 2, none⟩ = some (.int .i64 s0_2) ∧ w'.cell? ⟨g, 3, none⟩ = some (.int .i64 s0_3) ∧ w'.cell? ⟨g, 4, none⟩ = some (.int .i64 s0_4) ∧ w'.cell? ⟨g, 6, none⟩ = some (.int .i64 s0_6) ∧ w'.cell? ⟨g, 7, none⟩ = some (.int .i64 s0_7) ∧ w'.cell? ⟨g, 8, none⟩ = some (.int .i64 s0_8) ∧ w'.cell? ⟨g, 9, none⟩ = some (.int .i64 s0_9) ∧ w'.cell? ⟨g, 10, none⟩ = some (.int .i64 s0_10)) (go_keep) (first | (go_at_call 24; (try simp only [i64l]); (with_reducible refine (limit_tally_cross.calls g s0_0 s0_1 s0_2 s0_3 s0_4 t140 s0_6 s0_7 s0_8 s0_9 s0_10 (decide ((ji7) > (wrap64 (s0_10 - s0_4)))) 5 true s0_0 s0_1 s0_2 s0_3 s0_4 t152 s0_6 s0_7 s0_8 s0_9 s0_10 w0 _ ?side1 ?side2 A20.out).mono ?_); (case side1 => repeat (first | (with_reducible first | exact HI0.out | apply IsS40.alloc | apply IsS40.drewN | apply IsS40.drew | apply IsS40.set_0 | apply IsS40.set_1 | apply IsS40.set_2 | apply IsS40.set_3 | apply IsS40.set_4 | apply IsS40.set_5 | apply IsS40.set_6 | apply IsS40.set_7 | apply IsS40.set_8 | apply IsS40.set_9 | apply IsS40.set_10) | exact HI0.out)); (case side2 => repeat (first | (with_reducible first | exact HB.out | apply below_alloc | apply pw_below_drewN | apply below_drew1 | refine below_set ?_ (IsS40.ge HI0.out)) | exact HB.out)); rintro e w27 ⟨rfl, hi, hb, hk⟩; have n0_ := Aside0.mk (KeepBut.trans (by repeat (first | (with_reducible first | exact HK.out | apply KeepBut.set_ | apply keep_drewN | apply keep_drew | apply keep_alloc) | exact HK.out)) hk (.inl rfl)); have n1_ := Aside0.mk (hb); have n2_ := Aside0.mk (hi); clear HK; clear HB; clear HI0; have HK := n0_; have HB := n1_; have HI0 := n2_; clear n0_ n1_ n2_; (try clear hb); (try clear hb2); (try clear hk); (try clear hi); obtain ⟨HGz28, hgz28⟩ := HI0.out; have hcz28_0 := cellS40_0 HGz28; have hcz28_1 := cellS40_1 HGz28; have hcz28_2 := cellS40_2 HGz28; have hcz28_3 := cellS40_3 HGz28; have hcz28_4 := cellS40_4 HGz28; have hcz28_5 := cellS40_5 HGz28; have hcz28_6 := cellS40_6 HGz28; have hcz28_7 := cellS40_7 HGz28; have hcz28_8 := cellS40_8 HGz28; have hcz28_9 := cellS40_9 HGz28; have hcz28_10 := cellS40_10 HGz28; have hfz28_0 := blk_frozen HGz28 0; have hfz28_1 := blk_frozen HGz28 1; have hfz28_2 := blk_frozen HGz28 2; have hfz28_3 := blk_frozen HGz28 3; have hfz28_4 := blk_frozen HGz28 4; have hfz28_5 := blk_frozen HGz28 5; have hfz28_6 := blk_frozen HGz28 6; have hfz28_7 := blk_frozen HGz28 7; have hfz28_8 := blk_frozen HGz28 8; have hfz28_9 := blk_frozen HGz28 9; have hfz28_10 := blk_frozen HGz28 10; clear HGz28 hgz28))
        all_goals go_wp2
        (try go_region)
        all_goals go_wp2
        go_ret
        exact ⟨by first | rfl | (simp [errW_none, errW_some] <;> rfl) | (simp only [← hji5, ← hji6, ← hji7]; first | rfl | (simp [errW_none, errW_some] <;> rfl)) | (simp [*, errW_none, errW_some] <;> rfl), by repeat (first | (with_reducible first | exact HI0.out | apply IsS40.alloc | apply IsS40.drewN | apply IsS40.drew | apply IsS40.set_0 | apply IsS40.set_1 | apply IsS40.set_2 | apply IsS40.set_3 | apply IsS40.set_4 | apply IsS40.set_5 | apply IsS40.set_6 | apply IsS40.set_7 | apply IsS40.set_8 | apply IsS40.set_9 | apply IsS40.set_10) | exact HI0.out), by repeat (first | (with_reducible first | exact HB.out | apply below_alloc | apply pw_below_drewN | apply below_drew1 | refine below_set ?_ (IsS40.ge HI0.out)) | exact HB.out), by repeat (first | (with_reducible first | exact HK.out | apply KeepBut.set_ | apply keep_drewN | apply keep_drew | apply keep_alloc) | exact HK.out)⟩
      · replace c21 := Bool.eq_false_iff.mpr c21
        subst c21
        have H1 : (some (t152, t147, t148, mx t149 (ji5), mx t150 (ji6), wrap64 (t151 + (ji7)), t152, t153, t154, t155, t156, t157)) = some (r1, r2, r3, r4, r5, r6, r7, r8, r9, r10, r11, r12) := by rw [if_neg (show ¬ (false = true) by decide)] at H; exact H
        clear H
        have H := H1
        clear H1
        obtain ⟨ji29, hji29⟩ : ∃ j_ : Int, (mx t149 (ji5)) = j_ := ⟨_, rfl⟩
        replace H : (some (t152, t147, t148, ji29, mx t150 (ji6), wrap64 (t151 + (ji7)), t152, t153, t154, t155, t156, t157)) = some (r1, r2, r3, r4, r5, r6, r7, r8, r9, r10, r11, r12) := by first | (rw [hji29] at H; exact H) | (simp only [hji29] at H ⊢; exact H)
        (try rw [hji29] at A8)
        (try rw [hji29] at A13)
        (try rw [hji29] at A20)
        have hji29_ : (if t149 < (ji5) then (ji5) else t149) = ji29 := hji29
        obtain ⟨ji30, hji30⟩ : ∃ j_ : Int, (mx t150 (ji6)) = j_ := ⟨_, rfl⟩
        replace H : (some (t152, t147, t148, ji29, ji30, wrap64 (t151 + (ji7)), t152, t153, t154, t155, t156, t157)) = some (r1, r2, r3, r4, r5, r6, r7, r8, r9, r10, r11, r12) := by first | (rw [hji30] at H; exact H) | (simp only [hji30] at H ⊢; exact H)
        (try rw [hji30] at A8)
        (try rw [hji30] at A13)
        (try rw [hji30] at A20)
        have hji30_ : (if t150 < (ji6) then (ji6) else t150) = ji30 := hji30
        simp only [Option.some.injEq, Prod.mk.injEq] at H
        obtain ⟨rfl, rfl, rfl, rfl, rfl, rfl, rfl, rfl, rfl, rfl, rfl, rfl⟩ := H
        obtain ⟨HGz31, hgz31⟩ := HI0.out
        have hcz31_0 := cellS40_0 HGz31
        have hcz31_1 := cellS40_1 HGz31
        have hcz31_2 := cellS40_2 HGz31
        have hcz31_3 := cellS40_3 HGz31
        have hcz31_4 := cellS40_4 HGz31
        have hcz31_5 := cellS40_5 HGz31
        have hcz31_6 := cellS40_6 HGz31
        have hcz31_7 := cellS40_7 HGz31
        have hcz31_8 := cellS40_8 HGz31
        have hcz31_9 := cellS40_9 HGz31
        have hcz31_10 := cellS40_10 HGz31
        have hfz31_0 := blk_frozen HGz31 0
        have hfz31_1 := blk_frozen HGz31 1
        have hfz31_2 := blk_frozen HGz31 2
        have hfz31_3 := blk_frozen HGz31 3
        have hfz31_4 := blk_frozen HGz31 4
        have hfz31_5 := blk_frozen HGz31 5
        have hfz31_6 := blk_frozen HGz31 6
        have hfz31_7 := blk_frozen HGz31 7
        have hfz31_8 := blk_frozen HGz31 8
        have hfz31_9 := blk_frozen HGz31 9
        have hfz31_10 := blk_frozen HGz31 10
        clear HGz31 hgz31
        go_enter Try.func12, Try.ntmps12
        obtain ⟨rfl, rfl, rfl, rfl, rfl, rfl, rfl, rfl, rfl, rfl⟩ := cross_same A8.out
        obtain ⟨rfl, rfl, rfl, rfl, rfl, rfl, rfl, rfl, rfl, rfl⟩ := cross_same A13.out
        obtain ⟨rfl, rfl, rfl, rfl, rfl, rfl, rfl, rfl, rfl, rfl⟩ := cross_same A20.out
        go_wp2
        go_region_held3 (fun w' => w'.cell? ⟨g, 0, none⟩ = some (.int .i64 s0_0) ∧ w'.cell? ⟨g, 1, none⟩ = some (.int .i64 s0_1) ∧ w'.cell? ⟨g, 2, none⟩ = some (.int .i64 s0_2) ∧ w'.cell? ⟨g, 3, none⟩ = some (.int .i64 s0_3) ∧ w'.cell? ⟨g, 4, none⟩ = some (.int .i64 s0_4) ∧ w'.cell? ⟨g, 6, none⟩ = some (.int .i64 s0_6) ∧ w'.cell? ⟨g, 7, none⟩ = some (.int .i64 s0_7) ∧ w'.cell? ⟨g, 8, none⟩ = some (.int .i64 s0_8) ∧ w'.cell? ⟨g, 9, none⟩ = some (.int .i64 s0_9) ∧ w'.cell? ⟨g, 10, none⟩ = some (.int .i64 s0_10)) (go_keep) (first | (go_at_call 24; (try simp only [i64l]); (with_reducible refine (limit_tally_cross.calls g s0_0 s0_1 s0_2 s0_3 s0_4 s0_5 s0_6 s0_7 s0_8 s0_9 s0_10 (decide ((ji5) > s0_8)) 3 false s0_0 s0_1 s0_2 s0_3 s0_4 t128 s0_6 s0_7 s0_8 s0_9 s0_10 w0 _ ?side1 ?side2 A8.out).mono ?_); (case side1 => repeat (first | (with_reducible first | exact HI0.out | apply IsS40.alloc | apply IsS40.drewN | apply IsS40.drew | apply IsS40.set_0 | apply IsS40.set_1 | apply IsS40.set_2 | apply IsS40.set_3 | apply IsS40.set_4 | apply IsS40.set_5 | apply IsS40.set_6 | apply IsS40.set_7 | apply IsS40.set_8 | apply IsS40.set_9 | apply IsS40.set_10) | exact HI0.out)); (case side2 => repeat (first | (with_reducible first | exact HB.out | apply below_alloc | apply pw_below_drewN | apply below_drew1 | refine below_set ?_ (IsS40.ge HI0.out)) | exact HB.out)); rintro e w32 ⟨rfl, hi, hb, hk⟩; have n0_ := Aside0.mk (KeepBut.trans (by repeat (first | (with_reducible first | exact HK.out | apply KeepBut.set_ | apply keep_drewN | apply keep_drew | apply keep_alloc) | exact HK.out)) hk (.inl rfl)); have n1_ := Aside0.mk (hb); have n2_ := Aside0.mk (hi); clear HK; clear HB; clear HI0; have HK := n0_; have HB := n1_; have HI0 := n2_; clear n0_ n1_ n2_; (try clear hb); (try clear hb2); (try clear hk); (try clear hi); obtain ⟨HGz33, hgz33⟩ := HI0.out; have hcz33_0 := cellS40_0 HGz33; have hcz33_1 := cellS40_1 HGz33; have hcz33_2 := cellS40_2 HGz33; have hcz33_3 := cellS40_3 HGz33; have hcz33_4 := cellS40_4 HGz33; have hcz33_5 := cellS40_5 HGz33; have hcz33_6 := cellS40_6 HGz33; have hcz33_7 := cellS40_7 HGz33; have hcz33_8 := cellS40_8 HGz33; have hcz33_9 := cellS40_9 HGz33; have hcz33_10 := cellS40_10 HGz33; have hfz33_0 := blk_frozen HGz33 0; have hfz33_1 := blk_frozen HGz33 1; have hfz33_2 := blk_frozen HGz33 2; have hfz33_3 := blk_frozen HGz33 3; have hfz33_4 := blk_frozen HGz33 4; have hfz33_5 := blk_frozen HGz33 5; have hfz33_6 := blk_frozen HGz33 6; have hfz33_7 := blk_frozen HGz33 7; have hfz33_8 := blk_frozen HGz33 8; have hfz33_9 := blk_frozen HGz33 9; have hfz33_10 := blk_frozen HGz33 10; clear HGz33 hgz33))
        all_goals go_wp2
        go_region_held3 (fun w' => w'.cell? ⟨g, 0, none⟩ = some (.int .i64 s0_0) ∧ w'.cell? ⟨g, 1, none⟩ = some (.int .i64 s0_1) ∧ w'.cell? ⟨g, 2, none⟩ = some (.int .i64 s0_2) ∧ w'.cell? ⟨g, 3, none⟩ = some (.int .i64 s0_3) ∧ w'.cell? ⟨g, 4, none⟩ = some (.int .i64 s0_4) ∧ w'.cell? ⟨g, 6, none⟩ = some (.int .i64 s0_6) ∧ w'.cell? ⟨g, 7, none⟩ = some (.int .i64 s0_7) ∧ w'.cell? ⟨g, 8, none⟩ = some (.int .i64 s0_8) ∧ w'.cell? ⟨g, 9, none⟩ = some (.int .i64 s0_9) ∧ w'.cell? ⟨g, 10, none⟩ = some (.int .i64 s0_10)) (go_keep) (first | (go_at_call 24; (try simp only [i64l]); (with_reducible refine (limit_tally_cross.calls g s0_0 s0_1 s0_2 s0_3 s0_4 t128 s0_6 s0_7 s0_8 s0_9 s0_10 (decide ((ji6) > s0_9)) 4 false s0_0 s0_1 s0_2 s0_3 s0_4 t140 s0_6 s0_7 s0_8 s0_9 s0_10 w0 _ ?side1 ?side2 A13.out).mono ?_); (case side1 => repeat (first | (with_reducible first | exact HI0.out | apply IsS40.alloc | apply IsS40.drewN | apply IsS40.drew | apply IsS40.set_0 | apply IsS40.set_1 | apply IsS40.set_2 | apply IsS40.set_3 | apply IsS40.set_4 | apply IsS40.set_5 | apply IsS40.set_6 | apply IsS40.set_7 | apply IsS40.set_8 | apply IsS40.set_9 | apply IsS40.set_10) | exact HI0.out)); (case side2 => repeat (first | (with_reducible first | exact HB.out | apply below_alloc | apply pw_below_drewN | apply below_drew1 | refine below_set ?_ (IsS40.ge HI0.out)) | exact HB.out)); rintro e w34 ⟨rfl, hi, hb, hk⟩; have n0_ := Aside0.mk (KeepBut.trans (by repeat (first | (with_reducible first | exact HK.out | apply KeepBut.set_ | apply keep_drewN | apply keep_drew | apply keep_alloc) | exact HK.out)) hk (.inl rfl)); have n1_ := Aside0.mk (hb); have n2_ := Aside0.mk (hi); clear HK; clear HB; clear HI0; have HK := n0_; have HB := n1_; have HI0 := n2_; clear n0_ n1_ n2_; (try clear hb); (try clear hb2); (try clear hk); (try clear hi); obtain ⟨HGz35, hgz35⟩ := HI0.out; have hcz35_0 := cellS40_0 HGz35; have hcz35_1 := cellS40_1 HGz35; have hcz35_2 := cellS40_2 HGz35; have hcz35_3 := cellS40_3 HGz35; have hcz35_4 := cellS40_4 HGz35; have hcz35_5 := cellS40_5 HGz35; have hcz35_6 := cellS40_6 HGz35; have hcz35_7 := cellS40_7 HGz35; have hcz35_8 := cellS40_8 HGz35; have hcz35_9 := cellS40_9 HGz35; have hcz35_10 := cellS40_10 HGz35; have hfz35_0 := blk_frozen HGz35 0; have hfz35_1 := blk_frozen HGz35 1; have hfz35_2 := blk_frozen HGz35 2; have hfz35_3 := blk_frozen HGz35 3; have hfz35_4 := blk_frozen HGz35 4; have hfz35_5 := blk_frozen HGz35 5; have hfz35_6 := blk_frozen HGz35 6; have hfz35_7 := blk_frozen HGz35 7; have hfz35_8 := blk_frozen HGz35 8; have hfz35_9 := blk_frozen HGz35 9; have hfz35_10 := blk_frozen HGz35 10; clear HGz35 hgz35))
        all_goals go_wp2
        go_region_held3 (fun w' => w'.cell? ⟨g, 0, none⟩ = some (.int .i64 s0_0) ∧ w'.cell? ⟨g, 1, none⟩ = some (.int .i64 s0_1) ∧ w'.cell? ⟨g, 2, none⟩ = some (.int .i64 s0_2) ∧ w'.cell? ⟨g, 3, none⟩ = some (.int .i64 s0_3) ∧ w'.cell? ⟨g, 4, none⟩ = some (.int .i64 s0_4) ∧ w'.cell? ⟨g, 6, none⟩ = some (.int .i64 s0_6) ∧ w'.cell? ⟨g, 7, none⟩ = some (.int .i64 s0_7) ∧ w'.cell? ⟨g, 8, none⟩ = some (.int .i64 s0_8) ∧ w'.cell? ⟨g, 9, none⟩ = some (.int .i64 s0_9) ∧ w'.cell? ⟨g, 10, none⟩ = some (.int .i64 s0_10)) (go_keep) (first | (go_at_call 24; (try simp only [i64l]); (with_reducible refine (limit_tally_cross.calls g s0_0 s0_1 s0_2 s0_3 s0_4 t140 s0_6 s0_7 s0_8 s0_9 s0_10 (decide ((ji7) > (wrap64 (s0_10 - s0_4)))) 5 false s0_0 s0_1 s0_2 s0_3 s0_4 t152 s0_6 s0_7 s0_8 s0_9 s0_10 w0 _ ?side1 ?side2 A20.out).mono ?_); (case side1 => repeat (first | (with_reducible first | exact HI0.out | apply IsS40.alloc | apply IsS40.drewN | apply IsS40.drew | apply IsS40.set_0 | apply IsS40.set_1 | apply IsS40.set_2 | apply IsS40.set_3 | apply IsS40.set_4 | apply IsS40.set_5 | apply IsS40.set_6 | apply IsS40.set_7 | apply IsS40.set_8 | apply IsS40.set_9 | apply IsS40.set_10) | exact HI0.out)); (case side2 => repeat (first | (with_reducible first | exact HB.out | apply below_alloc | apply pw_below_drewN | apply below_drew1 | refine below_set ?_ (IsS40.ge HI0.out)) | exact HB.out)); rintro e w36 ⟨rfl, hi, hb, hk⟩; have n0_ := Aside0.mk (KeepBut.trans (by repeat (first | (with_reducible first | exact HK.out | apply KeepBut.set_ | apply keep_drewN | apply keep_drew | apply keep_alloc) | exact HK.out)) hk (.inl rfl)); have n1_ := Aside0.mk (hb); have n2_ := Aside0.mk (hi); clear HK; clear HB; clear HI0; have HK := n0_; have HB := n1_; have HI0 := n2_; clear n0_ n1_ n2_; (try clear hb); (try clear hb2); (try clear hk); (try clear hi); obtain ⟨HGz37, hgz37⟩ := HI0.out; have hcz37_0 := cellS40_0 HGz37; have hcz37_1 := cellS40_1 HGz37; have hcz37_2 := cellS40_2 HGz37; have hcz37_3 := cellS40_3 HGz37; have hcz37_4 := cellS40_4 HGz37; have hcz37_5 := cellS40_5 HGz37; have hcz37_6 := cellS40_6 HGz37; have hcz37_7 := cellS40_7 HGz37; have hcz37_8 := cellS40_8 HGz37; have hcz37_9 := cellS40_9 HGz37; have hcz37_10 := cellS40_10 HGz37; have hfz37_0 := blk_frozen HGz37 0; have hfz37_1 := blk_frozen HGz37 1; have hfz37_2 := blk_frozen HGz37 2; have hfz37_3 := blk_frozen HGz37 3; have hfz37_4 := blk_frozen HGz37 4; have hfz37_5 := blk_frozen HGz37 5; have hfz37_6 := blk_frozen HGz37 6; have hfz37_7 := blk_frozen HGz37 7; have hfz37_8 := blk_frozen HGz37 8; have hfz37_9 := blk_frozen HGz37 9; have hfz37_10 := blk_frozen HGz37 10; clear HGz37 hgz37))
        all_goals go_wp2
        (try go_region)
        all_goals go_wp2
        go_ret
        exact ⟨by first | rfl | (simp [errW_none, errW_some] <;> rfl) | (simp only [← hji5, ← hji6, ← hji7, ← hji29, ← hji30]; first | rfl | (simp [errW_none, errW_some] <;> rfl)) | (simp [*, errW_none, errW_some] <;> rfl), by repeat (first | (with_reducible first | exact HI0.out | apply IsS40.alloc | apply IsS40.drewN | apply IsS40.drew | apply IsS40.set_0 | apply IsS40.set_1 | apply IsS40.set_2 | apply IsS40.set_3 | apply IsS40.set_4 | apply IsS40.set_5 | apply IsS40.set_6 | apply IsS40.set_7 | apply IsS40.set_8 | apply IsS40.set_9 | apply IsS40.set_10) | exact HI0.out), by repeat (first | (with_reducible first | exact HB.out | apply below_alloc | apply pw_below_drewN | apply below_drew1 | refine below_set ?_ (IsS40.ge HI0.out)) | exact HB.out), by repeat (first | (with_reducible first | exact HK.out | apply KeepBut.set_ | apply keep_drewN | apply keep_drew | apply keep_alloc) | exact HK.out)⟩

/-! ### limit_tally_Used: function 14 -/
def limit_tally_Used.f (s0_0 : Int) (s0_1 : Int) (s0_2 : Int) (s0_3 : Int) (s0_4 : Int) (s0_5 : Int) (s0_6 : Int) (s0_7 : Int) (s0_8 : Int) (s0_9 : Int) (s0_10 : Int) : Option (Int × Int × Int × Int × Int × Int × Int × Int × Int × Int × Int × Int × Int × Int × Int × Int) := some (s0_0, s0_1, s0_2, s0_3, s0_4, s0_0, s0_1, s0_2, s0_3, s0_4, s0_5, s0_6, s0_7, s0_8, s0_9, s0_10)
set_option maxHeartbeats 8000000 in
set_option maxRecDepth 100000 in
theorem limit_tally_Used.calls (g : Nat) (s0_0 : Int) (s0_1 : Int) (s0_2 : Int) (s0_3 : Int) (s0_4 : Int) (s0_5 : Int) (s0_6 : Int) (s0_7 : Int) (s0_8 : Int) (s0_9 : Int) (s0_10 : Int) (r1 : Int) (r2 : Int) (r3 : Int) (r4 : Int) (r5 : Int) (r6 : Int) (r7 : Int) (r8 : Int) (r9 : Int) (r10 : Int) (r11 : Int) (r12 : Int) (r13 : Int) (r14 : Int) (r15 : Int) (r16 : Int) (w0 w : World) (hI : IsS40 w0 w g s0_0 s0_1 s0_2 s0_3 s0_4 s0_5 s0_6 s0_7 s0_8 s0_9 s0_10) (hB : Below w0.heap.size w0 w) (h : limit_tally_Used.f s0_0 s0_1 s0_2 s0_3 s0_4 s0_5 s0_6 s0_7 s0_8 s0_9 s0_10 = some (r1, r2, r3, r4, r5, r6, r7, r8, r9, r10, r11, r12, r13, r14, r15, r16)) :
    Calls Try.prog 14 #[.pointer (some ⟨g, 0, none⟩)] w fun e w' => e = .returned (.agg #[.int .i64 r1, .int .i64 r2, .int .i64 r3, .int .i64 r4, .int .i64 r5]) ∧ IsS40 w0 w' g r6 r7 r8 r9 r10 r11 r12 r13 r14 r15 r16 ∧ Below w0.heap.size w0 w' ∧ KeepBut w w' g none := by
  have hu23 := Try.underlying23
  have HI0 := Aside0.mk hI
  have HK := Aside0.mk (KeepBut.refl w g none)
  have HL := Aside0.mk hB.size
  clear hI
  have HW0 := Aside0.mk hB.size
  have HB := Aside0.mk hB
  clear hB
  have H : (some (s0_0, s0_1, s0_2, s0_3, s0_4, s0_0, s0_1, s0_2, s0_3, s0_4, s0_5, s0_6, s0_7, s0_8, s0_9, s0_10)) = some (r1, r2, r3, r4, r5, r6, r7, r8, r9, r10, r11, r12, r13, r14, r15, r16) := h
  clear h
  simp only [Option.some.injEq, Prod.mk.injEq] at H
  obtain ⟨rfl, rfl, rfl, rfl, rfl, rfl, rfl, rfl, rfl, rfl, rfl, rfl, rfl, rfl, rfl, rfl⟩ := H
  go_enter Try.func14, Try.ntmps14
  go_wp2_with (first | ((with_reducible refine gate_dst (N := 2) rfl ?_); refine box_event ?hg (N := 2) ?hd (cs := #[.int .i64 0, .int .i64 0, .int .i64 0, .int .i64 0, .int .i64 0]) (t := 23) ?hr ?_; (case hd => rfl); (case hg => rfl); (case hr => first | (go_simp; done) | (go_simp; rfl)); intro gb158 hg w2 hbox hb; have n0_ := Aside0.mk (IsS40.below (by repeat (first | (with_reducible first | exact HI0.out | apply IsS40.alloc | apply IsS40.drewN | apply IsS40.drew | apply IsS40.set_0 | apply IsS40.set_1 | apply IsS40.set_2 | apply IsS40.set_3 | apply IsS40.set_4 | apply IsS40.set_5 | apply IsS40.set_6 | apply IsS40.set_7 | apply IsS40.set_8 | apply IsS40.set_9 | apply IsS40.set_10) | exact HI0.out)) hb); have n1_ := Aside0.mk (KeepBut.trans (by repeat (first | (with_reducible first | exact HK.out | apply KeepBut.set_ | apply keep_drewN | apply keep_drew | apply keep_alloc) | exact HK.out)) (KeepBut.of_below hb g none) (.inl rfl)); have n2_ := Aside0.mk (below_step (by repeat (first | (with_reducible first | exact HB.out | apply below_alloc | apply pw_below_drewN | apply below_drew1 | refine below_set ?_ (IsS40.ge HI0.out)) | exact HB.out)) hb); have n3_ := Aside0.mk (hbox); have n4_ := Aside0.mk ((by rw [hg]; exact (keep_size (w := w) (g := g) (row := none) (by repeat (first | (with_reducible first | exact HK.out | apply KeepBut.set_ | apply keep_drewN | apply keep_drew | apply keep_alloc) | exact HK.out))) : w.heap.size ≤ gb158)); have n5_ := Aside0.mk ((Nat.le_trans HW0.out (by rw [hg]; exact (keep_size (w := w) (g := g) (row := none) (by repeat (first | (with_reducible first | exact HK.out | apply KeepBut.set_ | apply keep_drewN | apply keep_drew | apply keep_alloc) | exact HK.out))) : w.heap.size ≤ gb158) : w0.heap.size ≤ gb158)); have n6_ := Aside0.mk ((by rw [hg]; exact Nat.ne_of_lt (IsS40.lt (show IsS40 w0 _ g s0_0 s0_1 s0_2 s0_3 s0_4 s0_5 s0_6 s0_7 s0_8 s0_9 s0_10 from by repeat (first | (with_reducible first | exact HI0.out | apply IsS40.alloc | apply IsS40.drewN | apply IsS40.drew | apply IsS40.set_0 | apply IsS40.set_1 | apply IsS40.set_2 | apply IsS40.set_3 | apply IsS40.set_4 | apply IsS40.set_5 | apply IsS40.set_6 | apply IsS40.set_7 | apply IsS40.set_8 | apply IsS40.set_9 | apply IsS40.set_10) | exact HI0.out))) : g ≠ gb158)); have n7_ := Aside0.mk ((by rw [hg]; exact Nat.ne_of_gt (IsS40.lt (show IsS40 w0 _ g s0_0 s0_1 s0_2 s0_3 s0_4 s0_5 s0_6 s0_7 s0_8 s0_9 s0_10 from by repeat (first | (with_reducible first | exact HI0.out | apply IsS40.alloc | apply IsS40.drewN | apply IsS40.drew | apply IsS40.set_0 | apply IsS40.set_1 | apply IsS40.set_2 | apply IsS40.set_3 | apply IsS40.set_4 | apply IsS40.set_5 | apply IsS40.set_6 | apply IsS40.set_7 | apply IsS40.set_8 | apply IsS40.set_9 | apply IsS40.set_10) | exact HI0.out))) : gb158 ≠ g)); clear HI0; clear HK; clear HB; have HI0 := n0_; have HK := n1_; have HB := n2_; have BK158 := n3_; have GW158 := n4_; have GE158 := n5_; have NB0_158 := n6_; have NB158_0 := n7_; clear n0_ n1_ n2_ n3_ n4_ n5_ n6_ n7_; clear hb hbox hg; obtain ⟨HGz3, hgz3⟩ := HI0.out; have hcz3_0 := cellS40_0 HGz3; have hcz3_1 := cellS40_1 HGz3; have hcz3_2 := cellS40_2 HGz3; have hcz3_3 := cellS40_3 HGz3; have hcz3_4 := cellS40_4 HGz3; have hcz3_5 := cellS40_5 HGz3; have hcz3_6 := cellS40_6 HGz3; have hcz3_7 := cellS40_7 HGz3; have hcz3_8 := cellS40_8 HGz3; have hcz3_9 := cellS40_9 HGz3; have hcz3_10 := cellS40_10 HGz3; have hfz3_0 := blk_frozen HGz3 0; have hfz3_1 := blk_frozen HGz3 1; have hfz3_2 := blk_frozen HGz3 2; have hfz3_3 := blk_frozen HGz3 3; have hfz3_4 := blk_frozen HGz3 4; have hfz3_5 := blk_frozen HGz3 5; have hfz3_6 := blk_frozen HGz3 6; have hfz3_7 := blk_frozen HGz3 7; have hfz3_8 := blk_frozen HGz3 8; have hfz3_9 := blk_frozen HGz3 9; have hfz3_10 := blk_frozen HGz3 10; clear HGz3 hgz3; have hnb4 := NB158_0.out; have hnc4 := NB0_158.out; have hcz5_0 : w2.cell? ⟨gb158, 0, none⟩ = some (.int .i64 0) := (blk_cell BK158.out 0).trans rfl; have hcz5_1 : w2.cell? ⟨gb158, 1, none⟩ = some (.int .i64 0) := (blk_cell BK158.out 1).trans rfl; have hcz5_2 : w2.cell? ⟨gb158, 2, none⟩ = some (.int .i64 0) := (blk_cell BK158.out 2).trans rfl; have hcz5_3 : w2.cell? ⟨gb158, 3, none⟩ = some (.int .i64 0) := (blk_cell BK158.out 3).trans rfl; have hcz5_4 : w2.cell? ⟨gb158, 4, none⟩ = some (.int .i64 0) := (blk_cell BK158.out 4).trans rfl; have hfz5_0 := blk_frozen BK158.out 0; have hfz5_1 := blk_frozen BK158.out 1; have hfz5_2 := blk_frozen BK158.out 2; have hfz5_3 := blk_frozen BK158.out 3; have hfz5_4 := blk_frozen BK158.out 4))
  refine bodyPost_ret (results_cell_row rfl _ _ gb158 23 #[.int .i64 s0_0, .int .i64 s0_1, .int .i64 s0_2, .int .i64 s0_3, .int .i64 s0_4] (0, 0) _ rfl (by (with_reducible repeat (first | refine blk_drewN ?_ _ | refine blk_drew ?_ | refine blk_alloc ?_ _)); refine blk_put (cs := #[.int .i64 s0_0, .int .i64 s0_1, .int .i64 s0_2, .int .i64 s0_3, .int .i64 0]) ?_ 4 _ rfl; (with_reducible repeat (first | refine blk_drewN ?_ _ | refine blk_drew ?_ | refine blk_alloc ?_ _)); refine blk_put (cs := #[.int .i64 s0_0, .int .i64 s0_1, .int .i64 s0_2, .int .i64 0, .int .i64 0]) ?_ 3 _ rfl; (with_reducible repeat (first | refine blk_drewN ?_ _ | refine blk_drew ?_ | refine blk_alloc ?_ _)); refine blk_put (cs := #[.int .i64 s0_0, .int .i64 s0_1, .int .i64 0, .int .i64 0, .int .i64 0]) ?_ 2 _ rfl; (with_reducible repeat (first | refine blk_drewN ?_ _ | refine blk_drew ?_ | refine blk_alloc ?_ _)); refine blk_put (cs := #[.int .i64 s0_0, .int .i64 0, .int .i64 0, .int .i64 0, .int .i64 0]) ?_ 1 _ rfl; (with_reducible repeat (first | refine blk_drewN ?_ _ | refine blk_drew ?_ | refine blk_alloc ?_ _)); refine blk_put (cs := #[.int .i64 0, .int .i64 0, .int .i64 0, .int .i64 0, .int .i64 0]) ?_ 0 _ rfl; (with_reducible repeat (first | refine blk_drewN ?_ _ | refine blk_drew ?_ | refine blk_alloc ?_ _)); exact BK158.out) Try.underlying23 rfl (by kernel_rfl)) rfl ?_
  exact ⟨by first | rfl | (simp [errW_none, errW_some] <;> rfl) | (simp [*, errW_none, errW_some] <;> rfl), by repeat (first | (with_reducible first | exact HI0.out | apply IsS40.alloc | apply IsS40.drewN | apply IsS40.drew | apply IsS40.set_0 | apply IsS40.set_1 | apply IsS40.set_2 | apply IsS40.set_3 | apply IsS40.set_4 | apply IsS40.set_5 | apply IsS40.set_6 | apply IsS40.set_7 | apply IsS40.set_8 | apply IsS40.set_9 | apply IsS40.set_10 | refine IsS40.far ?_ NB0_158.out _) | exact HI0.out), by repeat (first | (with_reducible first | exact HB.out | apply below_alloc | apply pw_below_drewN | apply below_drew1 | refine below_set ?_ (IsS40.ge HI0.out) | refine below_set ?_ GE158.out) | exact HB.out), by repeat (first | (with_reducible first | exact HK.out | apply KeepBut.set_ | apply keep_drewN | apply keep_drew | apply keep_alloc | refine keep_far ?_ GW158.out _) | exact HK.out)⟩

/-! ### limit_tally_Over: function 16 -/
def limit_tally_Over.f (s0_0 : Int) (s0_1 : Int) (s0_2 : Int) (s0_3 : Int) (s0_4 : Int) (s0_5 : Int) (s0_6 : Int) (s0_7 : Int) (s0_8 : Int) (s0_9 : Int) (s0_10 : Int) : Option (Int × Int × Int × Int × Int × Int × Int × Int × Int × Int × Int × Int) := some (s0_5, s0_0, s0_1, s0_2, s0_3, s0_4, s0_5, s0_6, s0_7, s0_8, s0_9, s0_10)
set_option maxHeartbeats 8000000 in
set_option maxRecDepth 100000 in
theorem limit_tally_Over.calls (g : Nat) (s0_0 : Int) (s0_1 : Int) (s0_2 : Int) (s0_3 : Int) (s0_4 : Int) (s0_5 : Int) (s0_6 : Int) (s0_7 : Int) (s0_8 : Int) (s0_9 : Int) (s0_10 : Int) (r1 : Int) (r2 : Int) (r3 : Int) (r4 : Int) (r5 : Int) (r6 : Int) (r7 : Int) (r8 : Int) (r9 : Int) (r10 : Int) (r11 : Int) (r12 : Int) (w0 w : World) (hI : IsS40 w0 w g s0_0 s0_1 s0_2 s0_3 s0_4 s0_5 s0_6 s0_7 s0_8 s0_9 s0_10) (hB : Below w0.heap.size w0 w) (h : limit_tally_Over.f s0_0 s0_1 s0_2 s0_3 s0_4 s0_5 s0_6 s0_7 s0_8 s0_9 s0_10 = some (r1, r2, r3, r4, r5, r6, r7, r8, r9, r10, r11, r12)) :
    Calls Try.prog 16 #[.pointer (some ⟨g, 0, none⟩)] w fun e w' => e = .returned (.int .i64 r1) ∧ IsS40 w0 w' g r2 r3 r4 r5 r6 r7 r8 r9 r10 r11 r12 ∧ Below w0.heap.size w0 w' ∧ KeepBut w w' g none := by
  have HI0 := Aside0.mk hI
  have HK := Aside0.mk (KeepBut.refl w g none)
  have HL := Aside0.mk hB.size
  clear hI
  have HW0 := Aside0.mk hB.size
  have HB := Aside0.mk hB
  clear hB
  have H : (some (s0_5, s0_0, s0_1, s0_2, s0_3, s0_4, s0_5, s0_6, s0_7, s0_8, s0_9, s0_10)) = some (r1, r2, r3, r4, r5, r6, r7, r8, r9, r10, r11, r12) := h
  clear h
  simp only [Option.some.injEq, Prod.mk.injEq] at H
  obtain ⟨rfl, rfl, rfl, rfl, rfl, rfl, rfl, rfl, rfl, rfl, rfl, rfl⟩ := H
  obtain ⟨HGz2, hgz2⟩ := HI0.out
  have hcz2_0 := cellS40_0 HGz2
  have hcz2_1 := cellS40_1 HGz2
  have hcz2_2 := cellS40_2 HGz2
  have hcz2_3 := cellS40_3 HGz2
  have hcz2_4 := cellS40_4 HGz2
  have hcz2_5 := cellS40_5 HGz2
  have hcz2_6 := cellS40_6 HGz2
  have hcz2_7 := cellS40_7 HGz2
  have hcz2_8 := cellS40_8 HGz2
  have hcz2_9 := cellS40_9 HGz2
  have hcz2_10 := cellS40_10 HGz2
  have hfz2_0 := blk_frozen HGz2 0
  have hfz2_1 := blk_frozen HGz2 1
  have hfz2_2 := blk_frozen HGz2 2
  have hfz2_3 := blk_frozen HGz2 3
  have hfz2_4 := blk_frozen HGz2 4
  have hfz2_5 := blk_frozen HGz2 5
  have hfz2_6 := blk_frozen HGz2 6
  have hfz2_7 := blk_frozen HGz2 7
  have hfz2_8 := blk_frozen HGz2 8
  have hfz2_9 := blk_frozen HGz2 9
  have hfz2_10 := blk_frozen HGz2 10
  clear HGz2 hgz2
  go_enter Try.func16, Try.ntmps16
  go_wp2
  go_ret
  exact ⟨by first | rfl | (simp [errW_none, errW_some] <;> rfl) | (simp [*, errW_none, errW_some] <;> rfl), by repeat (first | (with_reducible first | exact HI0.out | apply IsS40.alloc | apply IsS40.drewN | apply IsS40.drew | apply IsS40.set_0 | apply IsS40.set_1 | apply IsS40.set_2 | apply IsS40.set_3 | apply IsS40.set_4 | apply IsS40.set_5 | apply IsS40.set_6 | apply IsS40.set_7 | apply IsS40.set_8 | apply IsS40.set_9 | apply IsS40.set_10) | exact HI0.out), by repeat (first | (with_reducible first | exact HB.out | apply below_alloc | apply pw_below_drewN | apply below_drew1 | refine below_set ?_ (IsS40.ge HI0.out)) | exact HB.out), by repeat (first | (with_reducible first | exact HK.out | apply KeepBut.set_ | apply keep_drewN | apply keep_drew | apply keep_alloc) | exact HK.out)⟩

/-! ### limit_Meter_Nodes: function 18 -/
def limit_Meter_Nodes.l0 : Nat → List (S31) → Int → Int → Int → Int → Int → Int → Int → Int → Int → Int → Int → Int → Int → Option (Int × Int × Int × Int × Int × Int × Int × Int × Int × Int × Int × Int)
  | 0, _, _, _, _, _, _, _, _, _, _, _, _, _, _ => none
  | k + 1, x8, x9, x10, x1000, x1001, x1002, x1003, x1004, x1005, x1006, x1007, x1008, x1009, x1010 => if x10 < x9 then (if 0 ≤ x10 then (if x10 < (x8.length : Int) then ((limit_Meter_Node.f x1000 x1001 x1002 x1003 x1004 x1005 x1006 x1007 x1008 x1009 x1010 ((rd_T31 x8 x10).f0) ((rd_T31 x8 x10).f1) ((rd_T31 x8 x10).f2)).bind fun bt161 => (if bt161.1 = 0 then (limit_Meter_Nodes.l0 k x8 x9 (wrap64 (x10 + 1)) bt161.2.1 bt161.2.2.1 bt161.2.2.2.1 bt161.2.2.2.2.1 bt161.2.2.2.2.2.1 bt161.2.2.2.2.2.2.1 bt161.2.2.2.2.2.2.2.1 bt161.2.2.2.2.2.2.2.2.1 bt161.2.2.2.2.2.2.2.2.2.1 bt161.2.2.2.2.2.2.2.2.2.2.1 bt161.2.2.2.2.2.2.2.2.2.2.2) else (some (bt161.1, bt161.2.1, bt161.2.2.1, bt161.2.2.2.1, bt161.2.2.2.2.1, bt161.2.2.2.2.2.1, bt161.2.2.2.2.2.2.1, bt161.2.2.2.2.2.2.2.1, bt161.2.2.2.2.2.2.2.2.1, bt161.2.2.2.2.2.2.2.2.2.1, bt161.2.2.2.2.2.2.2.2.2.2.1, bt161.2.2.2.2.2.2.2.2.2.2.2)))) else (none)) else (none)) else (some (0, x1000, x1001, x1002, x1003, x1004, x1005, x1006, x1007, x1008, x1009, x1010))
def limit_Meter_Nodes.f (k : Nat) (s0_0 : Int) (s0_1 : Int) (s0_2 : Int) (s0_3 : Int) (s0_4 : Int) (s0_5 : Int) (s0_6 : Int) (s0_7 : Int) (s0_8 : Int) (s0_9 : Int) (s0_10 : Int) (l1 : List (S31)) : Option (Int × Int × Int × Int × Int × Int × Int × Int × Int × Int × Int × Int) := limit_Meter_Nodes.l0 k l1 (l1.length : Int) 0 s0_0 s0_1 s0_2 s0_3 s0_4 s0_5 s0_6 s0_7 s0_8 s0_9 s0_10
set_option maxHeartbeats 8000000 in
set_option maxRecDepth 100000 in
theorem limit_Meter_Nodes.calls (k : Nat) (g : Nat) (s0_0 : Int) (s0_1 : Int) (s0_2 : Int) (s0_3 : Int) (s0_4 : Int) (s0_5 : Int) (s0_6 : Int) (s0_7 : Int) (s0_8 : Int) (s0_9 : Int) (s0_10 : Int) (A1 : Option Addr) (c1 : Nat) (l1 : List (S31)) (r1 : Int) (r2 : Int) (r3 : Int) (r4 : Int) (r5 : Int) (r6 : Int) (r7 : Int) (r8 : Int) (r9 : Int) (r10 : Int) (r11 : Int) (r12 : Int) (w0 w : World) (hI : IsS40 w0 w g s0_0 s0_1 s0_2 s0_3 s0_4 s0_5 s0_6 s0_7 s0_8 s0_9 s0_10) (hB : Below w0.heap.size w0 w) (hr1 : ∀ W_, KeepBut w W_ g none → Kd.C k31 W_ A1 l1.length l1) (hc1 : l1.length ≤ c1) (h : limit_Meter_Nodes.f k s0_0 s0_1 s0_2 s0_3 s0_4 s0_5 s0_6 s0_7 s0_8 s0_9 s0_10 l1 = some (r1, r2, r3, r4, r5, r6, r7, r8, r9, r10, r11, r12)) :
    Calls Try.prog 18 #[.pointer (some ⟨g, 0, none⟩), .slice A1 l1.length c1] w fun e w' => e = .returned (.int .i64 r1) ∧ IsS40 w0 w' g r2 r3 r4 r5 r6 r7 r8 r9 r10 r11 r12 ∧ Below w0.heap.size w0 w' ∧ KeepBut w w' g none := by
  have hu31 := Try.underlying31
  have HR1 := Aside0.mk hr1
  have HC1 := Aside0.mk hc1
  clear hr1 hc1
  have HI0 := Aside0.mk hI
  have HK := Aside0.mk (KeepBut.refl w g none)
  have HL := Aside0.mk hB.size
  clear hI
  have HW0 := Aside0.mk hB.size
  have HB := Aside0.mk hB
  clear hB
  have H : (limit_Meter_Nodes.l0 k l1 (l1.length : Int) 0 s0_0 s0_1 s0_2 s0_3 s0_4 s0_5 s0_6 s0_7 s0_8 s0_9 s0_10) = some (r1, r2, r3, r4, r5, r6, r7, r8, r9, r10, r11, r12) := h
  clear h
  have H' := Aside0.mk H
  clear H
  go_enter Try.func18, Try.ntmps18
  go_wp2
  go_loopg [10] k (fun kq v10 w' => ∃ (x10_1 : Int) (x1000_1 : Int) (x1001_1 : Int) (x1002_1 : Int) (x1003_1 : Int) (x1004_1 : Int) (x1005_1 : Int) (x1006_1 : Int) (x1007_1 : Int) (x1008_1 : Int) (x1009_1 : Int) (x1010_1 : Int), v10 = .int .i64 x10_1 ∧ Aside0 (limit_Meter_Nodes.l0 kq l1 (l1.length : Int) x10_1 x1000_1 x1001_1 x1002_1 x1003_1 x1004_1 x1005_1 x1006_1 x1007_1 x1008_1 x1009_1 x1010_1 = some (r1, r2, r3, r4, r5, r6, r7, r8, r9, r10, r11, r12)) ∧ Aside0 (kq ≤ k) ∧ Aside0 (IsS40 w0 w' g x1000_1 x1001_1 x1002_1 x1003_1 x1004_1 x1005_1 x1006_1 x1007_1 x1008_1 x1009_1 x1010_1) ∧ Aside0 (KeepBut w w' g none) ∧ Aside0 (Below w0.heap.size w0 w'))
  case atStart => exact ⟨(0), (s0_0), (s0_1), (s0_2), (s0_3), (s0_4), (s0_5), (s0_6), (s0_7), (s0_8), (s0_9), (s0_10), (by first | rfl | (simp; done) | (simp [*]; done)), H', ⟨Nat.le_refl _⟩, ⟨by repeat (first | (with_reducible first | exact HI0.out | apply IsS40.alloc | apply IsS40.drewN | apply IsS40.drew | apply IsS40.set_0 | apply IsS40.set_1 | apply IsS40.set_2 | apply IsS40.set_3 | apply IsS40.set_4 | apply IsS40.set_5 | apply IsS40.set_6 | apply IsS40.set_7 | apply IsS40.set_8 | apply IsS40.set_9 | apply IsS40.set_10) | exact HI0.out)⟩, ⟨by repeat (first | (with_reducible first | exact HK.out | apply KeepBut.set_ | apply keep_drewN | apply keep_drew | apply keep_alloc) | exact HK.out)⟩, ⟨by repeat (first | (with_reducible first | exact HB.out | apply below_alloc | apply pw_below_drewN | apply below_drew1 | refine below_set ?_ (IsS40.ge HI0.out)) | exact HB.out)⟩⟩
  case round =>
    clear H'
    try clear c1
    try clear p2
    obtain ⟨x10_1, x1000_1, x1001_1, x1002_1, x1003_1, x1004_1, x1005_1, x1006_1, x1007_1, x1008_1, x1009_1, x1010_1, rfl, HA, HK1, HI0, HK, HB⟩ := hrel
    cases gk with
    | zero => exact absurd HA.out (by simp [limit_Meter_Nodes.l0])
    | succ k1 =>
      have H := HA.out
      clear HA
      simp only [limit_Meter_Nodes.l0] at H
      by_cases c3 : x10_1 < (l1.length : Int)
      · rw [if_pos c3] at H
        have c3b0 : decide (x10_1 < (l1.length : Int)) = true := decide_eq_true c3
        clear c3
        by_cases c4 : 0 ≤ x10_1
        · rw [if_pos c4] at H
          have c4b0 : decide (0 ≤ x10_1) = true := decide_eq_true c4
          clear c4
          by_cases c5 : x10_1 < (l1.length : Int)
          · rw [if_pos c5] at H
            have c5b0 : decide (x10_1 < (l1.length : Int)) = true := decide_eq_true c5
            clear c5
            replace H := Option.bind_eq_some_iff.mp H
            obtain ⟨⟨t161, t162, t163, t164, t165, t166, t167, t168, t169, t170, t171, t172⟩, A60, H⟩ := H
            replace H : (if t161 = 0 then (limit_Meter_Nodes.l0 k1 l1 (l1.length : Int) (wrap64 (x10_1 + 1)) t162 t163 t164 t165 t166 t167 t168 t169 t170 t171 t172) else (some (t161, t162, t163, t164, t165, t166, t167, t168, t169, t170, t171, t172))) = some (r1, r2, r3, r4, r5, r6, r7, r8, r9, r10, r11, r12) := H
            have A6 := Aside0.mk A60
            clear A60
            by_cases c7 : t161 = 0
            · rw [if_pos c7] at H
              have c7b0 : (t161 == 0) = true := beq_iff_eq.mpr c7
              have c7b1 : (t161 != 0) = false := bne_eq_false_iff_eq.mpr c7
              clear c7
              have H' := Aside0.mk H
              clear H
              have p159 : 0 ≤ (x10_1 : Int) := of_decide_eq_true (by first | (with_reducible assumption) | assumption)
              have q159 : x10_1 < (l1.length : Int) := of_decide_eq_true (by first | (with_reducible assumption) | assumption)
              obtain ⟨ad159, e159, hx159_0, hx159_1, hx159_2⟩ := at_T31 (Kd.C_foot_now HR1.out HK.out) x10_1 p159 q159
              cases e159
              replace p159 := eq_true p159
              replace q159 := eq_true q159
              go_wp2_with (first | ((with_reducible refine gate_dst (N := 6) rfl ?_); refine box_event ?hg (N := 6) ?hd (cs := #[.int .i64 0, .int .i64 0, .int .i64 0]) (t := 31) ?hr ?_; (case hd => rfl); (case hg => rfl); (case hr => first | (go_simp; done) | (go_simp; rfl)); intro gb160 hg w8 hbox hb; have n0_ := Aside0.mk (IsS40.below (by repeat (first | (with_reducible first | exact HI0.out | apply IsS40.alloc | apply IsS40.drewN | apply IsS40.drew | apply IsS40.set_0 | apply IsS40.set_1 | apply IsS40.set_2 | apply IsS40.set_3 | apply IsS40.set_4 | apply IsS40.set_5 | apply IsS40.set_6 | apply IsS40.set_7 | apply IsS40.set_8 | apply IsS40.set_9 | apply IsS40.set_10) | exact HI0.out)) hb); have n1_ := Aside0.mk (KeepBut.trans (by repeat (first | (with_reducible first | exact HK.out | apply KeepBut.set_ | apply keep_drewN | apply keep_drew | apply keep_alloc) | exact HK.out)) (KeepBut.of_below hb g none) (.inl rfl)); have n2_ := Aside0.mk (below_step (by repeat (first | (with_reducible first | exact HB.out | apply below_alloc | apply pw_below_drewN | apply below_drew1 | refine below_set ?_ (IsS40.ge HI0.out)) | exact HB.out)) hb); have n3_ := Aside0.mk (hbox); have n4_ := Aside0.mk ((by rw [hg]; exact (keep_size (w := w) (g := g) (row := none) (by repeat (first | (with_reducible first | exact HK.out | apply KeepBut.set_ | apply keep_drewN | apply keep_drew | apply keep_alloc) | exact HK.out))) : w.heap.size ≤ gb160)); have n5_ := Aside0.mk ((Nat.le_trans HW0.out (by rw [hg]; exact (keep_size (w := w) (g := g) (row := none) (by repeat (first | (with_reducible first | exact HK.out | apply KeepBut.set_ | apply keep_drewN | apply keep_drew | apply keep_alloc) | exact HK.out))) : w.heap.size ≤ gb160) : w0.heap.size ≤ gb160)); have n6_ := Aside0.mk ((by rw [hg]; exact Nat.ne_of_lt (IsS40.lt (show IsS40 w0 _ g x1000_1 x1001_1 x1002_1 x1003_1 x1004_1 x1005_1 x1006_1 x1007_1 x1008_1 x1009_1 x1010_1 from by repeat (first | (with_reducible first | exact HI0.out | apply IsS40.alloc | apply IsS40.drewN | apply IsS40.drew | apply IsS40.set_0 | apply IsS40.set_1 | apply IsS40.set_2 | apply IsS40.set_3 | apply IsS40.set_4 | apply IsS40.set_5 | apply IsS40.set_6 | apply IsS40.set_7 | apply IsS40.set_8 | apply IsS40.set_9 | apply IsS40.set_10) | exact HI0.out))) : g ≠ gb160)); have n7_ := Aside0.mk ((by rw [hg]; exact Nat.ne_of_gt (IsS40.lt (show IsS40 w0 _ g x1000_1 x1001_1 x1002_1 x1003_1 x1004_1 x1005_1 x1006_1 x1007_1 x1008_1 x1009_1 x1010_1 from by repeat (first | (with_reducible first | exact HI0.out | apply IsS40.alloc | apply IsS40.drewN | apply IsS40.drew | apply IsS40.set_0 | apply IsS40.set_1 | apply IsS40.set_2 | apply IsS40.set_3 | apply IsS40.set_4 | apply IsS40.set_5 | apply IsS40.set_6 | apply IsS40.set_7 | apply IsS40.set_8 | apply IsS40.set_9 | apply IsS40.set_10) | exact HI0.out))) : gb160 ≠ g)); clear HI0; clear HK; clear HB; have HI0 := n0_; have HK := n1_; have HB := n2_; have BK160 := n3_; have GW160 := n4_; have GE160 := n5_; have NB0_160 := n6_; have NB160_0 := n7_; clear n0_ n1_ n2_ n3_ n4_ n5_ n6_ n7_; clear hb hbox hg; have hnb9 := NB160_0.out; have hnc9 := NB0_160.out; have hcz10_0 : w8.cell? ⟨gb160, 0, none⟩ = some (.int .i64 0) := (blk_cell BK160.out 0).trans rfl; have hcz10_1 : w8.cell? ⟨gb160, 1, none⟩ = some (.int .i64 0) := (blk_cell BK160.out 1).trans rfl; have hcz10_2 : w8.cell? ⟨gb160, 2, none⟩ = some (.int .i64 0) := (blk_cell BK160.out 2).trans rfl; have hfz10_0 := blk_frozen BK160.out 0; have hfz10_1 := blk_frozen BK160.out 1; have hfz10_2 := blk_frozen BK160.out 2) | ((with_reducible refine gate_callee (f := 12) rfl ?_); refine goesL_ (some 21) rfl rfl Try.func12 (by kernel_rfl) rfl #[.pointer (some ⟨g, 0, none⟩), .int .i64 ((rd_T31 l1 x10_1).f0), .int .i64 ((rd_T31 l1 x10_1).f1), .int .i64 ((rd_T31 l1 x10_1).f2)] rfl (by (try simp only [List.map_toArray, List.map_cons, List.map_nil]); first | done | rfl | (simp only [List.length_drop, List.length_take]; rfl)) ?_; (with_reducible refine (limit_Meter_Node.calls g x1000_1 x1001_1 x1002_1 x1003_1 x1004_1 x1005_1 x1006_1 x1007_1 x1008_1 x1009_1 x1010_1 ((rd_T31 l1 x10_1).f0) ((rd_T31 l1 x10_1).f1) ((rd_T31 l1 x10_1).f2) t161 t162 t163 t164 t165 t166 t167 t168 t169 t170 t171 t172 w0 _ ?side1 ?side2 A6.out).mono ?_); (case side1 => repeat (first | (with_reducible first | exact HI0.out | apply IsS40.alloc | apply IsS40.drewN | apply IsS40.drew | apply IsS40.set_0 | apply IsS40.set_1 | apply IsS40.set_2 | apply IsS40.set_3 | apply IsS40.set_4 | apply IsS40.set_5 | apply IsS40.set_6 | apply IsS40.set_7 | apply IsS40.set_8 | apply IsS40.set_9 | apply IsS40.set_10 | refine IsS40.far ?_ NB0_160.out _) | exact HI0.out)); (case side2 => repeat (first | (with_reducible first | exact HB.out | apply below_alloc | apply pw_below_drewN | apply below_drew1 | refine below_set ?_ (IsS40.ge HI0.out) | refine below_set ?_ GE160.out) | exact HB.out)); rintro e w11 ⟨rfl, hi, hb, hk⟩; refine ⟨_, rfl, ?_⟩; have n0_ := Aside0.mk (KeepBut.blk hk (g' := gb160) (o := .cells #[.int .i64 ((rd_T31 l1 x10_1).f0), .int .i64 ((rd_T31 l1 x10_1).f1), .int .i64 ((rd_T31 l1 x10_1).f2)] 31 (0, 0)) (by (with_reducible repeat (first | refine blk_drewN ?_ _ | refine blk_drew ?_ | refine blk_alloc ?_ _)); refine blk_put (cs := #[.int .i64 ((rd_T31 l1 x10_1).f0), .int .i64 ((rd_T31 l1 x10_1).f1), .int .i64 0]) ?_ 2 _ rfl; (with_reducible repeat (first | refine blk_drewN ?_ _ | refine blk_drew ?_ | refine blk_alloc ?_ _)); refine blk_put (cs := #[.int .i64 ((rd_T31 l1 x10_1).f0), .int .i64 0, .int .i64 0]) ?_ 1 _ rfl; (with_reducible repeat (first | refine blk_drewN ?_ _ | refine blk_drew ?_ | refine blk_alloc ?_ _)); refine blk_put (cs := #[.int .i64 0, .int .i64 0, .int .i64 0]) ?_ 0 _ rfl; (with_reducible repeat (first | refine blk_drewN ?_ _ | refine blk_drew ?_ | refine blk_alloc ?_ _)); exact BK160.out) NB160_0.out (by simp)); have n1_ := Aside0.mk (KeepBut.trans (by repeat (first | (with_reducible first | exact HK.out | apply KeepBut.set_ | apply keep_drewN | apply keep_drew | apply keep_alloc | refine keep_far ?_ GW160.out _) | exact HK.out)) hk (.inl rfl)); have n2_ := Aside0.mk (hb); have n3_ := Aside0.mk (hi); clear BK160; clear HK; clear HB; clear HI0; have BK160 := n0_; have HK := n1_; have HB := n2_; have HI0 := n3_; clear n0_ n1_ n2_ n3_; (try clear hb); (try clear hb2); (try clear hk); (try clear hi)))
              go_roundg k1
              case measure => have := HK1.out; omega
              case rel => exact ⟨(wrap64 (x10_1 + 1)), (t162), (t163), (t164), (t165), (t166), (t167), (t168), (t169), (t170), (t171), (t172), (by first | rfl | (simp; done) | (simp [*]; done)), H', ⟨by have := HK1.out; omega⟩, ⟨by repeat (first | (with_reducible first | exact HI0.out | apply IsS40.alloc | apply IsS40.drewN | apply IsS40.drew | apply IsS40.set_0 | apply IsS40.set_1 | apply IsS40.set_2 | apply IsS40.set_3 | apply IsS40.set_4 | apply IsS40.set_5 | apply IsS40.set_6 | apply IsS40.set_7 | apply IsS40.set_8 | apply IsS40.set_9 | apply IsS40.set_10 | refine IsS40.far ?_ NB0_160.out _) | exact HI0.out)⟩, ⟨by repeat (first | (with_reducible first | exact HK.out | apply KeepBut.set_ | apply keep_drewN | apply keep_drew | apply keep_alloc | refine keep_far ?_ GW160.out _) | exact HK.out)⟩, ⟨by repeat (first | (with_reducible first | exact HB.out | apply below_alloc | apply pw_below_drewN | apply below_drew1 | refine below_set ?_ (IsS40.ge HI0.out) | refine below_set ?_ GE160.out) | exact HB.out)⟩⟩
            · rw [if_neg c7] at H
              have c7b0 : (t161 == 0) = false := beq_eq_false_iff_ne.mpr c7
              have c7b1 : (t161 != 0) = true := bne_iff_ne.mpr c7
              simp only [Option.some.injEq, Prod.mk.injEq] at H
              obtain ⟨rfl, rfl, rfl, rfl, rfl, rfl, rfl, rfl, rfl, rfl, rfl, rfl⟩ := H
              have p159 : 0 ≤ (x10_1 : Int) := of_decide_eq_true (by first | (with_reducible assumption) | assumption)
              have q159 : x10_1 < (l1.length : Int) := of_decide_eq_true (by first | (with_reducible assumption) | assumption)
              obtain ⟨ad159, e159, hx159_0, hx159_1, hx159_2⟩ := at_T31 (Kd.C_foot_now HR1.out HK.out) x10_1 p159 q159
              cases e159
              replace p159 := eq_true p159
              replace q159 := eq_true q159
              go_wp2_with (first | ((with_reducible refine gate_dst (N := 6) rfl ?_); refine box_event ?hg (N := 6) ?hd (cs := #[.int .i64 0, .int .i64 0, .int .i64 0]) (t := 31) ?hr ?_; (case hd => rfl); (case hg => rfl); (case hr => first | (go_simp; done) | (go_simp; rfl)); intro gb160 hg w12 hbox hb; have n0_ := Aside0.mk (IsS40.below (by repeat (first | (with_reducible first | exact HI0.out | apply IsS40.alloc | apply IsS40.drewN | apply IsS40.drew | apply IsS40.set_0 | apply IsS40.set_1 | apply IsS40.set_2 | apply IsS40.set_3 | apply IsS40.set_4 | apply IsS40.set_5 | apply IsS40.set_6 | apply IsS40.set_7 | apply IsS40.set_8 | apply IsS40.set_9 | apply IsS40.set_10) | exact HI0.out)) hb); have n1_ := Aside0.mk (KeepBut.trans (by repeat (first | (with_reducible first | exact HK.out | apply KeepBut.set_ | apply keep_drewN | apply keep_drew | apply keep_alloc) | exact HK.out)) (KeepBut.of_below hb g none) (.inl rfl)); have n2_ := Aside0.mk (below_step (by repeat (first | (with_reducible first | exact HB.out | apply below_alloc | apply pw_below_drewN | apply below_drew1 | refine below_set ?_ (IsS40.ge HI0.out)) | exact HB.out)) hb); have n3_ := Aside0.mk (hbox); have n4_ := Aside0.mk ((by rw [hg]; exact (keep_size (w := w) (g := g) (row := none) (by repeat (first | (with_reducible first | exact HK.out | apply KeepBut.set_ | apply keep_drewN | apply keep_drew | apply keep_alloc) | exact HK.out))) : w.heap.size ≤ gb160)); have n5_ := Aside0.mk ((Nat.le_trans HW0.out (by rw [hg]; exact (keep_size (w := w) (g := g) (row := none) (by repeat (first | (with_reducible first | exact HK.out | apply KeepBut.set_ | apply keep_drewN | apply keep_drew | apply keep_alloc) | exact HK.out))) : w.heap.size ≤ gb160) : w0.heap.size ≤ gb160)); have n6_ := Aside0.mk ((by rw [hg]; exact Nat.ne_of_lt (IsS40.lt (show IsS40 w0 _ g x1000_1 x1001_1 x1002_1 x1003_1 x1004_1 x1005_1 x1006_1 x1007_1 x1008_1 x1009_1 x1010_1 from by repeat (first | (with_reducible first | exact HI0.out | apply IsS40.alloc | apply IsS40.drewN | apply IsS40.drew | apply IsS40.set_0 | apply IsS40.set_1 | apply IsS40.set_2 | apply IsS40.set_3 | apply IsS40.set_4 | apply IsS40.set_5 | apply IsS40.set_6 | apply IsS40.set_7 | apply IsS40.set_8 | apply IsS40.set_9 | apply IsS40.set_10) | exact HI0.out))) : g ≠ gb160)); have n7_ := Aside0.mk ((by rw [hg]; exact Nat.ne_of_gt (IsS40.lt (show IsS40 w0 _ g x1000_1 x1001_1 x1002_1 x1003_1 x1004_1 x1005_1 x1006_1 x1007_1 x1008_1 x1009_1 x1010_1 from by repeat (first | (with_reducible first | exact HI0.out | apply IsS40.alloc | apply IsS40.drewN | apply IsS40.drew | apply IsS40.set_0 | apply IsS40.set_1 | apply IsS40.set_2 | apply IsS40.set_3 | apply IsS40.set_4 | apply IsS40.set_5 | apply IsS40.set_6 | apply IsS40.set_7 | apply IsS40.set_8 | apply IsS40.set_9 | apply IsS40.set_10) | exact HI0.out))) : gb160 ≠ g)); clear HI0; clear HK; clear HB; have HI0 := n0_; have HK := n1_; have HB := n2_; have BK160 := n3_; have GW160 := n4_; have GE160 := n5_; have NB0_160 := n6_; have NB160_0 := n7_; clear n0_ n1_ n2_ n3_ n4_ n5_ n6_ n7_; clear hb hbox hg; have hnb13 := NB160_0.out; have hnc13 := NB0_160.out; have hcz14_0 : w12.cell? ⟨gb160, 0, none⟩ = some (.int .i64 0) := (blk_cell BK160.out 0).trans rfl; have hcz14_1 : w12.cell? ⟨gb160, 1, none⟩ = some (.int .i64 0) := (blk_cell BK160.out 1).trans rfl; have hcz14_2 : w12.cell? ⟨gb160, 2, none⟩ = some (.int .i64 0) := (blk_cell BK160.out 2).trans rfl; have hfz14_0 := blk_frozen BK160.out 0; have hfz14_1 := blk_frozen BK160.out 1; have hfz14_2 := blk_frozen BK160.out 2) | ((with_reducible refine gate_callee (f := 12) rfl ?_); refine goesL_ (some 21) rfl rfl Try.func12 (by kernel_rfl) rfl #[.pointer (some ⟨g, 0, none⟩), .int .i64 ((rd_T31 l1 x10_1).f0), .int .i64 ((rd_T31 l1 x10_1).f1), .int .i64 ((rd_T31 l1 x10_1).f2)] rfl (by (try simp only [List.map_toArray, List.map_cons, List.map_nil]); first | done | rfl | (simp only [List.length_drop, List.length_take]; rfl)) ?_; (with_reducible refine (limit_Meter_Node.calls g x1000_1 x1001_1 x1002_1 x1003_1 x1004_1 x1005_1 x1006_1 x1007_1 x1008_1 x1009_1 x1010_1 ((rd_T31 l1 x10_1).f0) ((rd_T31 l1 x10_1).f1) ((rd_T31 l1 x10_1).f2) t161 t162 t163 t164 t165 t166 t167 t168 t169 t170 t171 t172 w0 _ ?side1 ?side2 A6.out).mono ?_); (case side1 => repeat (first | (with_reducible first | exact HI0.out | apply IsS40.alloc | apply IsS40.drewN | apply IsS40.drew | apply IsS40.set_0 | apply IsS40.set_1 | apply IsS40.set_2 | apply IsS40.set_3 | apply IsS40.set_4 | apply IsS40.set_5 | apply IsS40.set_6 | apply IsS40.set_7 | apply IsS40.set_8 | apply IsS40.set_9 | apply IsS40.set_10 | refine IsS40.far ?_ NB0_160.out _) | exact HI0.out)); (case side2 => repeat (first | (with_reducible first | exact HB.out | apply below_alloc | apply pw_below_drewN | apply below_drew1 | refine below_set ?_ (IsS40.ge HI0.out) | refine below_set ?_ GE160.out) | exact HB.out)); rintro e w15 ⟨rfl, hi, hb, hk⟩; refine ⟨_, rfl, ?_⟩; have n0_ := Aside0.mk (KeepBut.blk hk (g' := gb160) (o := .cells #[.int .i64 ((rd_T31 l1 x10_1).f0), .int .i64 ((rd_T31 l1 x10_1).f1), .int .i64 ((rd_T31 l1 x10_1).f2)] 31 (0, 0)) (by (with_reducible repeat (first | refine blk_drewN ?_ _ | refine blk_drew ?_ | refine blk_alloc ?_ _)); refine blk_put (cs := #[.int .i64 ((rd_T31 l1 x10_1).f0), .int .i64 ((rd_T31 l1 x10_1).f1), .int .i64 0]) ?_ 2 _ rfl; (with_reducible repeat (first | refine blk_drewN ?_ _ | refine blk_drew ?_ | refine blk_alloc ?_ _)); refine blk_put (cs := #[.int .i64 ((rd_T31 l1 x10_1).f0), .int .i64 0, .int .i64 0]) ?_ 1 _ rfl; (with_reducible repeat (first | refine blk_drewN ?_ _ | refine blk_drew ?_ | refine blk_alloc ?_ _)); refine blk_put (cs := #[.int .i64 0, .int .i64 0, .int .i64 0]) ?_ 0 _ rfl; (with_reducible repeat (first | refine blk_drewN ?_ _ | refine blk_drew ?_ | refine blk_alloc ?_ _)); exact BK160.out) NB160_0.out (by simp)); have n1_ := Aside0.mk (KeepBut.trans (by repeat (first | (with_reducible first | exact HK.out | apply KeepBut.set_ | apply keep_drewN | apply keep_drew | apply keep_alloc | refine keep_far ?_ GW160.out _) | exact HK.out)) hk (.inl rfl)); have n2_ := Aside0.mk (hb); have n3_ := Aside0.mk (hi); clear BK160; clear HK; clear HB; clear HI0; have BK160 := n0_; have HK := n1_; have HB := n2_; have HI0 := n3_; clear n0_ n1_ n2_ n3_; (try clear hb); (try clear hb2); (try clear hk); (try clear hi)))
              go_ret
              exact ⟨by first | rfl | (simp [errW_none, errW_some] <;> rfl) | (simp [*, errW_none, errW_some] <;> rfl), by repeat (first | (with_reducible first | exact HI0.out | apply IsS40.alloc | apply IsS40.drewN | apply IsS40.drew | apply IsS40.set_0 | apply IsS40.set_1 | apply IsS40.set_2 | apply IsS40.set_3 | apply IsS40.set_4 | apply IsS40.set_5 | apply IsS40.set_6 | apply IsS40.set_7 | apply IsS40.set_8 | apply IsS40.set_9 | apply IsS40.set_10 | refine IsS40.far ?_ NB0_160.out _) | exact HI0.out), by repeat (first | (with_reducible first | exact HB.out | apply below_alloc | apply pw_below_drewN | apply below_drew1 | refine below_set ?_ (IsS40.ge HI0.out) | refine below_set ?_ GE160.out) | exact HB.out), by repeat (first | (with_reducible first | exact HK.out | apply KeepBut.set_ | apply keep_drewN | apply keep_drew | apply keep_alloc | refine keep_far ?_ GW160.out _) | exact HK.out)⟩
          · rw [if_neg c5] at H
            exact absurd H (by simp)
        · rw [if_neg c4] at H
          exact absurd H (by simp)
      · rw [if_neg c3] at H
        have c3b0 : decide (x10_1 < (l1.length : Int)) = false := decide_eq_false c3
        clear c3
        simp only [Option.some.injEq, Prod.mk.injEq] at H
        obtain ⟨rfl, rfl, rfl, rfl, rfl, rfl, rfl, rfl, rfl, rfl, rfl, rfl⟩ := H
        go_wp2
        go_ret
        exact ⟨by first | rfl | (simp [errW_none, errW_some] <;> rfl) | (simp [*, errW_none, errW_some] <;> rfl), by repeat (first | (with_reducible first | exact HI0.out | apply IsS40.alloc | apply IsS40.drewN | apply IsS40.drew | apply IsS40.set_0 | apply IsS40.set_1 | apply IsS40.set_2 | apply IsS40.set_3 | apply IsS40.set_4 | apply IsS40.set_5 | apply IsS40.set_6 | apply IsS40.set_7 | apply IsS40.set_8 | apply IsS40.set_9 | apply IsS40.set_10) | exact HI0.out), by repeat (first | (with_reducible first | exact HB.out | apply below_alloc | apply pw_below_drewN | apply below_drew1 | refine below_set ?_ (IsS40.ge HI0.out)) | exact HB.out), by repeat (first | (with_reducible first | exact HK.out | apply KeepBut.set_ | apply keep_drewN | apply keep_drew | apply keep_alloc) | exact HK.out)⟩

end Go.Proofs.Ytaonclkhjcbgoaa.HLimitMeters
