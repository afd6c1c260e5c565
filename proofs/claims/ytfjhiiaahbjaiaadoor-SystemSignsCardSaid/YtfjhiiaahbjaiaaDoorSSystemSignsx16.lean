/- What the Go functions of this claim answer, told as functions of numbers and lists, and that other memory stays as it was: words and walks, shortened by a program. -/
import Derived.Test.YtfjhiiaahbjaiaaDoorSSystemSignsx0
import Derived.Test.YtfjhiiaahbjaiaaDoorSSystemSignsx13
namespace Go.Proofs.YtfjhiiaahbjaiaaDoor.HSystemSigns
open Go.RowKit Go.Proofs.YtfjhiiaahbjaiaaDoorW.PrintWords Go.Proofs.YtfjhiiaahbjaiaaDoorW.PrintLast Go.Proofs.YtfjhiiaahbjaiaaDoorW.PrintMore
attribute [local go_sem] max2_int min2_int max_two min_two max_three min_three max_four min_four
set_option linter.unusedVariables false
set_option linter.unusedSimpArgs false
def system_alone.f (k : Nat) (l0 : List (S32)) : Option (Int × Int × Bool) := if 0 < (l0.length : Int) then (if (((rd_T32 l0 0).f1).length : Int) > 0 then (some (0, 0, false)) else (if ((rd_T32 l0 0).f0) = 4 then (if 0 < (((rd_T32 l0 0).f3).length : Int) then (some ((rd_T40 ((rd_T32 l0 0).f3) 0).f0, (rd_T40 ((rd_T32 l0 0).f3) 0).f1, true)) else (none)) else (if ((rd_T32 l0 0).f0) = 1 then (if 0 < (((rd_T32 l0 0).f2).length : Int) then ((decimal_Of.f k (rd ((rd_T32 l0 0).f2) 0)).bind fun bt374 => (some (bt374.1, bt374.2, true))) else (none)) else (if ((rd_T32 l0 0).f0) = 2 then (if 0 < (((rd_T32 l0 0).f2).length : Int) then ((decimal_Of.f k (rd ((rd_T32 l0 0).f2) 0)).bind fun bt377 => (some (bt377.1, bt377.2, true))) else (none)) else (some (0, 0, false)))))) else (none)
theorem system_alone.mono : ∀ a0 k, LeO (system_alone.f k a0) (system_alone.f (k + 1) a0) := by
  intro a0 k
  unfold system_alone.f
  have im0 := @decimal_Of.mono
  exact mz3
set_option maxHeartbeats 8000000 in
set_option maxRecDepth 100000 in
theorem system_alone.calls (k : Nat) (A0 : Option Addr) (c0 : Nat) (l0 : List (S32)) (r1 : Int) (r2 : Int) (r3 : Bool) (w : World) (hr0 : Kd.C k32 w A0 l0.length l0) (hc0 : l0.length ≤ c0) (h : system_alone.f k l0 = some (r1, r2, r3)) :
    Calls Tryd.prog 17 #[.slice A0 l0.length c0] w fun e w' => e = .returned (.tuple #[.agg #[.int .i64 r1, .int .i64 r2], .bool r3]) ∧ Below w.heap.size w w' := by
  have hu40 := Tryd.underlying40
  have hu32 := Tryd.underlying32
  have HR0 := zq hr0
  have HC0 := zq hc0
  clear hr0 hc0
  have HB := zq (Below.refl w.heap.size w)
  have H : (if 0 < (l0.length : Int) then (if (((rd_T32 l0 0).f1).length : Int) > 0 then (some (0, 0, false)) else (if ((rd_T32 l0 0).f0) = 4 then (if 0 < (((rd_T32 l0 0).f3).length : Int) then (some ((rd_T40 ((rd_T32 l0 0).f3) 0).f0, (rd_T40 ((rd_T32 l0 0).f3) 0).f1, true)) else (none)) else (if ((rd_T32 l0 0).f0) = 1 then (if 0 < (((rd_T32 l0 0).f2).length : Int) then ((decimal_Of.f k (rd ((rd_T32 l0 0).f2) 0)).bind fun bt374 => (some (bt374.1, bt374.2, true))) else (none)) else (if ((rd_T32 l0 0).f0) = 2 then (if 0 < (((rd_T32 l0 0).f2).length : Int) then ((decimal_Of.f k (rd ((rd_T32 l0 0).f2) 0)).bind fun bt377 => (some (bt377.1, bt377.2, true))) else (none)) else (some (0, 0, false)))))) else (none)) = some (r1, r2, r3) := h
  clear h
  by_cases c2 : 0 < (l0.length : Int)
  rotate_left
  · rw [if_neg c2] at H
    exact absurd H J33
  rw [if_pos c2] at H
  have c2b0 := decide_eq_true c2
  have c2b1 : decide (0 < l0.length) = true := decide_eq_true J40
  clear c2
  by_cases c3 : (((rd_T32 l0 0).f1).length : Int) > 0
  · rw [if_pos c3] at H
    have c3b0 := decide_eq_true c3
    have c3b1 : decide (0 < ((rd_T32 l0 0).f1).length) = true := decide_eq_true J40
    clear c3
    simp only [Option.some.injEq, Prod.mk.injEq] at H
    obtain ⟨rfl, rfl, rfl⟩ := H
    go_enter Tryd.func17, Tryd.ntmps17
    go_wp2_with (first | ((with_reducible refine gate_dst (N := 2) rfl ?_); refine bxw 2 40 #[.int .i64 0, .int .i64 0] ?_; intro gb369 hg w4 hbox hb; have BK369 := zq (hbox); have GE369 := zq ((J10 : w.heap.size ≤ gb369)); replace HB := zq (below_step J0 hb); clear hb hbox hg; have p370 : 0 ≤ (0 : Int) := J40; have q370 : 0 < (l0.length : Int) := of_decide_eq_true J3; obtain ⟨ad370, A370_1, c370_1, A370_2, c370_2, A370_3, c370_3, e370, hx370_0, hx370_1, hx370_2, hx370_3, hl370_1, hi370_1, hl370_2, hi370_2, hl370_3, hi370_3⟩ := at_T32 HR0.out 0 p370 q370; cases e370; have qi370 : (0 < l0.length) = True := eq_true J40; (try rw [show ((0 : Int)).toNat = 0 from rfl] at hx370_0); (try rw [show 0 * 4 = 0 from rfl] at hx370_0); (try rw [Addr.add_zero'] at hx370_0); (try rw [show ((0 : Int)).toNat = 0 from rfl] at hx370_1); (try rw [show 0 * 4 = 0 from rfl] at hx370_1); (try rw [Addr.add_zero'] at hx370_1); (try rw [show ((0 : Int)).toNat = 0 from rfl] at hx370_2); (try rw [show 0 * 4 = 0 from rfl] at hx370_2); (try rw [Addr.add_zero'] at hx370_2); (try rw [show ((0 : Int)).toNat = 0 from rfl] at hx370_3); (try rw [show 0 * 4 = 0 from rfl] at hx370_3); (try rw [Addr.add_zero'] at hx370_3); replace hx370_0 := (HB.out.cell (World.block_lt_of_cell? w _ hx370_0)).trans hx370_0; replace hx370_1 := (HB.out.cell (World.block_lt_of_cell? w _ hx370_1)).trans hx370_1; replace hx370_2 := (HB.out.cell (World.block_lt_of_cell? w _ hx370_2)).trans hx370_2; replace hx370_3 := (HB.out.cell (World.block_lt_of_cell? w _ hx370_3)).trans hx370_3; have HR370_1 := zq hi370_1; have HC370_1 := zq hl370_1; clear hi370_1 hl370_1; have HR370_2 := zq hi370_2; have HC370_2 := zq hl370_2; clear hi370_2 hl370_2; have HR370_3 := zq hi370_3; have HC370_3 := zq hl370_3; clear hi370_3 hl370_3; replace p370 := eq_true p370; replace q370 := eq_true q370) | ((with_reducible refine gate_dst (N := 4) rfl ?_); refine bxw 4 32 #[.int .i64 0, .slice none 0 0, .slice none 0 0, .slice none 0 0] ?_; intro gb371 hg w5 hbox hb; have BK371 := zq (hbox); have GW371 := zq ((J75 : w.heap.size ≤ gb371)); have GE371 := zq ((J75 : w.heap.size ≤ gb371)); replace HB := zq (below_step (zs1 GE369.out) hb); have NB369_371 := zq ((J67 : gb369 ≠ gb371)); have NB371_369 := zq ((J68 : gb371 ≠ gb369)); replace BK369 := zq (blk_below (g := gb369) (o := .cells #[.int .i64 0, .int .i64 0] 40 (0, 0)) (zk BK369.out) hb); clear hb hbox hg; have hnb6 := NB371_369.out; have hnc6 := NB369_371.out; obtain ⟨hcz7_0, hcz7_1, hcz7_2, hcz7_3, hfz7_0, hfz7_1, hfz7_2, hfz7_3⟩ := cz4 BK371.out; obtain ⟨hcz8_0, hcz8_1, hfz8_0, hfz8_1⟩ := cz2 BK369.out))
    refine bodyPost_ret (results_ct rfl _ _ gb369 40 #[.int .i64 0, .int .i64 0] (0, 0) _ rfl J28 Tryd.underlying40 rfl J8) rfl ?_
    exact ⟨J2, J35⟩
  rw [if_neg c3] at H
  have c3b0 := decide_eq_false c3
  have c3b1 : decide (0 < ((rd_T32 l0 0).f1).length) = false := decide_eq_false J40
  clear c3
  by_cases c9 : ((rd_T32 l0 0).f0) = 4
  · rw [if_pos c9] at H
    have c9b0 : (((rd_T32 l0 0).f0) == 4) = true := beq_iff_eq.mpr c9
    have c9b1 : (((rd_T32 l0 0).f0) != 4) = false := bne_eq_false_iff_eq.mpr c9
    clear c9
    by_cases c10 : 0 < (((rd_T32 l0 0).f3).length : Int)
    · rw [if_pos c10] at H
      have c10b0 := decide_eq_true c10
      have c10b1 : decide (0 < ((rd_T32 l0 0).f3).length) = true := decide_eq_true J40
      clear c10
      simp only [Option.some.injEq, Prod.mk.injEq] at H
      obtain ⟨rfl, rfl, rfl⟩ := H
      go_enter Tryd.func17, Tryd.ntmps17
      go_wp2_with (first | ((with_reducible refine gate_dst (N := 2) rfl ?_); refine bxw 2 40 #[.int .i64 0, .int .i64 0] ?_; intro gb369 hg w11 hbox hb; have BK369 := zq (hbox); have GE369 := zq ((J10 : w.heap.size ≤ gb369)); replace HB := zq (below_step J0 hb); clear hb hbox hg; have p370 : 0 ≤ (0 : Int) := J40; have q370 : 0 < (l0.length : Int) := of_decide_eq_true J3; obtain ⟨ad370, A370_1, c370_1, A370_2, c370_2, A370_3, c370_3, e370, hx370_0, hx370_1, hx370_2, hx370_3, hl370_1, hi370_1, hl370_2, hi370_2, hl370_3, hi370_3⟩ := at_T32 HR0.out 0 p370 q370; cases e370; have qi370 : (0 < l0.length) = True := eq_true J40; (try rw [show ((0 : Int)).toNat = 0 from rfl] at hx370_0); (try rw [show 0 * 4 = 0 from rfl] at hx370_0); (try rw [Addr.add_zero'] at hx370_0); (try rw [show ((0 : Int)).toNat = 0 from rfl] at hx370_1); (try rw [show 0 * 4 = 0 from rfl] at hx370_1); (try rw [Addr.add_zero'] at hx370_1); (try rw [show ((0 : Int)).toNat = 0 from rfl] at hx370_2); (try rw [show 0 * 4 = 0 from rfl] at hx370_2); (try rw [Addr.add_zero'] at hx370_2); (try rw [show ((0 : Int)).toNat = 0 from rfl] at hx370_3); (try rw [show 0 * 4 = 0 from rfl] at hx370_3); (try rw [Addr.add_zero'] at hx370_3); replace hx370_0 := (HB.out.cell (World.block_lt_of_cell? w _ hx370_0)).trans hx370_0; replace hx370_1 := (HB.out.cell (World.block_lt_of_cell? w _ hx370_1)).trans hx370_1; replace hx370_2 := (HB.out.cell (World.block_lt_of_cell? w _ hx370_2)).trans hx370_2; replace hx370_3 := (HB.out.cell (World.block_lt_of_cell? w _ hx370_3)).trans hx370_3; have HR370_1 := zq hi370_1; have HC370_1 := zq hl370_1; clear hi370_1 hl370_1; have HR370_2 := zq hi370_2; have HC370_2 := zq hl370_2; clear hi370_2 hl370_2; have HR370_3 := zq hi370_3; have HC370_3 := zq hl370_3; clear hi370_3 hl370_3; replace p370 := eq_true p370; replace q370 := eq_true q370) | ((with_reducible refine gate_dst (N := 4) rfl ?_); refine bxw 4 32 #[.int .i64 0, .slice none 0 0, .slice none 0 0, .slice none 0 0] ?_; intro gb371 hg w12 hbox hb; have BK371 := zq (hbox); have GW371 := zq ((J75 : w.heap.size ≤ gb371)); have GE371 := zq ((J75 : w.heap.size ≤ gb371)); replace HB := zq (below_step (zs1 GE369.out) hb); have NB369_371 := zq ((J67 : gb369 ≠ gb371)); have NB371_369 := zq ((J68 : gb371 ≠ gb369)); replace BK369 := zq (blk_below (g := gb369) (o := .cells #[.int .i64 0, .int .i64 0] 40 (0, 0)) (zk BK369.out) hb); clear hb hbox hg; have hnb13 := NB371_369.out; have hnc13 := NB369_371.out; obtain ⟨hcz14_0, hcz14_1, hcz14_2, hcz14_3, hfz14_0, hfz14_1, hfz14_2, hfz14_3⟩ := cz4 BK371.out; have p372 : 0 ≤ (0 : Int) := J40; have q372 : 0 < (((rd_T32 l0 0).f3).length : Int) := of_decide_eq_true J3; obtain ⟨ad372, e372, hx372_0, hx372_1⟩ := at_T40 HR370_3.out 0 p372 q372; cases e372; have qi372 : (0 < ((rd_T32 l0 0).f3).length) = True := eq_true J40; (try rw [show ((0 : Int)).toNat = 0 from rfl] at hx372_0); (try rw [show 0 * 2 = 0 from rfl] at hx372_0); (try rw [Addr.add_zero'] at hx372_0); (try rw [show ((0 : Int)).toNat = 0 from rfl] at hx372_1); (try rw [show 0 * 2 = 0 from rfl] at hx372_1); (try rw [Addr.add_zero'] at hx372_1); have hn372_0 : ad372.block ≠ gb371 := Nat.ne_of_lt (Nat.lt_of_lt_of_le J84 GW371.out); have hn372_1 : ad372.block ≠ gb371 := Nat.ne_of_lt (Nat.lt_of_lt_of_le J84 GW371.out); have hn372_2 : ad372.block ≠ gb371 := Nat.ne_of_lt (Nat.lt_of_lt_of_le J84 GW371.out); have hn372_3 : ad372.block ≠ gb371 := Nat.ne_of_lt (Nat.lt_of_lt_of_le J84 GW371.out); replace hx372_0 := (HB.out.cell (World.block_lt_of_cell? w _ hx372_0)).trans hx372_0; replace hx372_1 := (HB.out.cell (World.block_lt_of_cell? w _ hx372_1)).trans hx372_1; replace hx372_0 := (cell_far (p := ⟨gb371, 0, none⟩) (zb hn372_0) (.int .i64 ((rd_T32 l0 0).f0))).trans hx372_0; replace hx372_1 := (cell_far (p := ⟨gb371, 0, none⟩) (zb hn372_0) (.int .i64 ((rd_T32 l0 0).f0))).trans hx372_1; replace hx372_0 := (cell_far (p := ⟨gb371, 1, none⟩) (zb hn372_1) (.slice A370_1 ((rd_T32 l0 0).f1).length c370_1)).trans hx372_0; replace hx372_1 := (cell_far (p := ⟨gb371, 1, none⟩) (zb hn372_1) (.slice A370_1 ((rd_T32 l0 0).f1).length c370_1)).trans hx372_1; replace hx372_0 := (cell_far (p := ⟨gb371, 2, none⟩) (zb hn372_2) (.slice A370_2 ((rd_T32 l0 0).f2).length c370_2)).trans hx372_0; replace hx372_1 := (cell_far (p := ⟨gb371, 2, none⟩) (zb hn372_2) (.slice A370_2 ((rd_T32 l0 0).f2).length c370_2)).trans hx372_1; replace hx372_0 := (cell_far (p := ⟨gb371, 3, none⟩) (zb hn372_3) (.slice (some ad372) ((rd_T32 l0 0).f3).length c370_3)).trans hx372_0; replace hx372_1 := (cell_far (p := ⟨gb371, 3, none⟩) (zb hn372_3) (.slice (some ad372) ((rd_T32 l0 0).f3).length c370_3)).trans hx372_1; clear hn372_0; clear hn372_1; clear hn372_2; clear hn372_3; replace p372 := eq_true p372; replace q372 := eq_true q372; obtain ⟨hcz15_0, hcz15_1, hfz15_0, hfz15_1⟩ := cz2 BK369.out))
      refine bodyPost_ret (results_ct rfl _ _ gb369 40 #[.int .i64 ((rd_T40 ((rd_T32 l0 0).f3) 0).f0), .int .i64 ((rd_T40 ((rd_T32 l0 0).f3) 0).f1)] (0, 0) _ rfl (by (with_reducible repeat (first | refine blk_drewN ?_ _ | refine blk_drew ?_ | refine blk_alloc ?_ _)); refine blk_put (cs := #[.int .i64 ((rd_T40 ((rd_T32 l0 0).f3) 0).f0), .int .i64 0]) ?_ 1 _ rfl; (with_reducible repeat (first | refine blk_drewN ?_ _ | refine blk_drew ?_ | refine blk_alloc ?_ _)); refine blk_put (cs := #[.int .i64 0, .int .i64 0]) ?_ 0 _ rfl; (with_reducible repeat (first | refine blk_drewN ?_ _ | refine blk_drew ?_ | refine blk_alloc ?_ _)); refine blk_far ?_ NB369_371.out _; (with_reducible repeat (first | refine blk_drewN ?_ _ | refine blk_drew ?_ | refine blk_alloc ?_ _)); refine blk_far ?_ NB369_371.out _; (with_reducible repeat (first | refine blk_drewN ?_ _ | refine blk_drew ?_ | refine blk_alloc ?_ _)); refine blk_far ?_ NB369_371.out _; (with_reducible repeat (first | refine blk_drewN ?_ _ | refine blk_drew ?_ | refine blk_alloc ?_ _)); refine blk_far ?_ NB369_371.out _; (with_reducible repeat (first | refine blk_drewN ?_ _ | refine blk_drew ?_ | refine blk_alloc ?_ _)); exact BK369.out) Tryd.underlying40 rfl J8) rfl ?_
      exact ⟨J2, J35⟩
    · rw [if_neg c10] at H
      exact absurd H J33
  rw [if_neg c9] at H
  have c9b0 : (((rd_T32 l0 0).f0) == 4) = false := beq_eq_false_iff_ne.mpr c9
  have c9b1 : (((rd_T32 l0 0).f0) != 4) = true := bne_iff_ne.mpr c9
  by_cases c16 : ((rd_T32 l0 0).f0) = 1
  · rw [if_pos c16] at H
    have c16b0 : (((rd_T32 l0 0).f0) == 1) = true := beq_iff_eq.mpr c16
    have c16b1 : (((rd_T32 l0 0).f0) != 1) = false := bne_eq_false_iff_eq.mpr c16
    clear c16
    by_cases c17 : 0 < (((rd_T32 l0 0).f2).length : Int)
    · rw [if_pos c17] at H
      have c17b0 := decide_eq_true c17
      have c17b1 : decide (0 < ((rd_T32 l0 0).f2).length) = true := decide_eq_true J40
      clear c17
      replace H := Option.bind_eq_some_iff.mp H
      obtain ⟨⟨t374, t375⟩, A180, H⟩ := H
      dsimp only at H
      have A18 := zq A180
      clear A180
      simp only [Option.some.injEq, Prod.mk.injEq] at H
      obtain ⟨rfl, rfl, rfl⟩ := H
      go_enter Tryd.func17, Tryd.ntmps17
      go_wp2_with (first | ((with_reducible refine gate_dst (N := 2) rfl ?_); refine bxw 2 40 #[.int .i64 0, .int .i64 0] ?_; intro gb369 hg w19 hbox hb; have BK369 := zq (hbox); have GE369 := zq ((J10 : w.heap.size ≤ gb369)); replace HB := zq (below_step J0 hb); clear hb hbox hg; have p370 : 0 ≤ (0 : Int) := J40; have q370 : 0 < (l0.length : Int) := of_decide_eq_true J3; obtain ⟨ad370, A370_1, c370_1, A370_2, c370_2, A370_3, c370_3, e370, hx370_0, hx370_1, hx370_2, hx370_3, hl370_1, hi370_1, hl370_2, hi370_2, hl370_3, hi370_3⟩ := at_T32 HR0.out 0 p370 q370; cases e370; have qi370 : (0 < l0.length) = True := eq_true J40; (try rw [show ((0 : Int)).toNat = 0 from rfl] at hx370_0); (try rw [show 0 * 4 = 0 from rfl] at hx370_0); (try rw [Addr.add_zero'] at hx370_0); (try rw [show ((0 : Int)).toNat = 0 from rfl] at hx370_1); (try rw [show 0 * 4 = 0 from rfl] at hx370_1); (try rw [Addr.add_zero'] at hx370_1); (try rw [show ((0 : Int)).toNat = 0 from rfl] at hx370_2); (try rw [show 0 * 4 = 0 from rfl] at hx370_2); (try rw [Addr.add_zero'] at hx370_2); (try rw [show ((0 : Int)).toNat = 0 from rfl] at hx370_3); (try rw [show 0 * 4 = 0 from rfl] at hx370_3); (try rw [Addr.add_zero'] at hx370_3); replace hx370_0 := (HB.out.cell (World.block_lt_of_cell? w _ hx370_0)).trans hx370_0; replace hx370_1 := (HB.out.cell (World.block_lt_of_cell? w _ hx370_1)).trans hx370_1; replace hx370_2 := (HB.out.cell (World.block_lt_of_cell? w _ hx370_2)).trans hx370_2; replace hx370_3 := (HB.out.cell (World.block_lt_of_cell? w _ hx370_3)).trans hx370_3; have HR370_1 := zq hi370_1; have HC370_1 := zq hl370_1; clear hi370_1 hl370_1; have HR370_2 := zq hi370_2; have HC370_2 := zq hl370_2; clear hi370_2 hl370_2; have HR370_3 := zq hi370_3; have HC370_3 := zq hl370_3; clear hi370_3 hl370_3; replace p370 := eq_true p370; replace q370 := eq_true q370) | ((with_reducible refine gate_dst (N := 4) rfl ?_); refine bxw 4 32 #[.int .i64 0, .slice none 0 0, .slice none 0 0, .slice none 0 0] ?_; intro gb371 hg w20 hbox hb; have BK371 := zq (hbox); have GW371 := zq ((J75 : w.heap.size ≤ gb371)); have GE371 := zq ((J75 : w.heap.size ≤ gb371)); replace HB := zq (below_step (zs1 GE369.out) hb); have NB369_371 := zq ((J67 : gb369 ≠ gb371)); have NB371_369 := zq ((J68 : gb371 ≠ gb369)); replace BK369 := zq (blk_below (g := gb369) (o := .cells #[.int .i64 0, .int .i64 0] 40 (0, 0)) (zk BK369.out) hb); clear hb hbox hg; have hnb21 := NB371_369.out; have hnc21 := NB369_371.out; obtain ⟨hcz22_0, hcz22_1, hcz22_2, hcz22_3, hfz22_0, hfz22_1, hfz22_2, hfz22_3⟩ := cz4 BK371.out; have p373 : 0 ≤ (0 : Int) := J40; have q373 : 0 < (((rd_T32 l0 0).f2).length : Int) := of_decide_eq_true J3; obtain ⟨ad373, e373, hx373_0⟩ := Kd.at_int HR370_2.out 0 p373 q373; cases e373; have qi373 : (0 < ((rd_T32 l0 0).f2).length) = True := eq_true J40; (try rw [show ((0 : Int)).toNat = 0 from rfl] at hx373_0); (try rw [Addr.add_zero'] at hx373_0); have hn373_0 : ad373.block ≠ gb371 := Nat.ne_of_lt (Nat.lt_of_lt_of_le J85 GW371.out); have hn373_1 : ad373.block ≠ gb371 := Nat.ne_of_lt (Nat.lt_of_lt_of_le J85 GW371.out); have hn373_2 : ad373.block ≠ gb371 := Nat.ne_of_lt (Nat.lt_of_lt_of_le J85 GW371.out); have hn373_3 : ad373.block ≠ gb371 := Nat.ne_of_lt (Nat.lt_of_lt_of_le J85 GW371.out); replace hx373_0 := (HB.out.cell (World.block_lt_of_cell? w _ hx373_0)).trans hx373_0; replace hx373_0 := (cell_far (p := ⟨gb371, 0, none⟩) (zb hn373_0) (.int .i64 ((rd_T32 l0 0).f0))).trans hx373_0; replace hx373_0 := (cell_far (p := ⟨gb371, 1, none⟩) (zb hn373_1) (.slice A370_1 ((rd_T32 l0 0).f1).length c370_1)).trans hx373_0; replace hx373_0 := (cell_far (p := ⟨gb371, 2, none⟩) (zb hn373_2) (.slice (some ad373) ((rd_T32 l0 0).f2).length c370_2)).trans hx373_0; replace hx373_0 := (cell_far (p := ⟨gb371, 3, none⟩) (zb hn373_3) (.slice A370_3 ((rd_T32 l0 0).f3).length c370_3)).trans hx373_0; clear hn373_0; clear hn373_1; clear hn373_2; clear hn373_3; replace p373 := eq_true p373; replace q373 := eq_true q373) | ((with_reducible refine gate_callee (f := 22) rfl ?_); refine goesL_ (some 33) rfl rfl Tryd.func22 J8 rfl #[.int .i64 (rd ((rd_T32 l0 0).f2) 0)] rfl J1 ?_; (with_reducible refine (decimal_Of.calls k (rd ((rd_T32 l0 0).f2) 0) t374 t375 _ A18.out).mono ?_); rintro e w23 ⟨rfl, hb⟩; refine ⟨_, rfl, ?_⟩; replace BK369 := zq (blk_below (g := gb369) (o := .cells #[.int .i64 0, .int .i64 0] 40 (0, 0)) J39 hb); replace BK371 := zq (blk_below (g := gb371) (o := .cells #[.int .i64 ((rd_T32 l0 0).f0), .slice A370_1 ((rd_T32 l0 0).f1).length c370_1, .slice (some ad373) ((rd_T32 l0 0).f2).length c370_2, .slice A370_3 ((rd_T32 l0 0).f3).length c370_3] 32 (0, 0)) (by (with_reducible repeat (first | refine blk_drewN ?_ _ | refine blk_drew ?_ | refine blk_alloc ?_ _)); refine blk_put (cs := #[.int .i64 ((rd_T32 l0 0).f0), .slice A370_1 ((rd_T32 l0 0).f1).length c370_1, .slice (some ad373) ((rd_T32 l0 0).f2).length c370_2, .slice none 0 0]) ?_ 3 _ rfl; (with_reducible repeat (first | refine blk_drewN ?_ _ | refine blk_drew ?_ | refine blk_alloc ?_ _)); refine blk_put (cs := #[.int .i64 ((rd_T32 l0 0).f0), .slice A370_1 ((rd_T32 l0 0).f1).length c370_1, .slice none 0 0, .slice none 0 0]) ?_ 2 _ rfl; (with_reducible repeat (first | refine blk_drewN ?_ _ | refine blk_drew ?_ | refine blk_alloc ?_ _)); refine blk_put (cs := #[.int .i64 ((rd_T32 l0 0).f0), .slice none 0 0, .slice none 0 0, .slice none 0 0]) ?_ 1 _ rfl; (with_reducible repeat (first | refine blk_drewN ?_ _ | refine blk_drew ?_ | refine blk_alloc ?_ _)); refine blk_put (cs := #[.int .i64 0, .slice none 0 0, .slice none 0 0, .slice none 0 0]) ?_ 0 _ rfl; (with_reducible repeat (first | refine blk_drewN ?_ _ | refine blk_drew ?_ | refine blk_alloc ?_ _)); exact BK371.out) hb); replace HB := zq (below_step (zs2 GE369.out GE371.out) hb); (try clear hb); obtain ⟨hcz24_0, hcz24_1, hfz24_0, hfz24_1⟩ := cz2 BK369.out))
      refine bodyPost_ret (results_ct rfl _ _ gb369 40 #[.int .i64 t374, .int .i64 t375] (0, 0) _ rfl (by (with_reducible repeat (first | refine blk_drewN ?_ _ | refine blk_drew ?_ | refine blk_alloc ?_ _)); refine blk_put (cs := #[.int .i64 t374, .int .i64 0]) ?_ 1 _ rfl; (with_reducible repeat (first | refine blk_drewN ?_ _ | refine blk_drew ?_ | refine blk_alloc ?_ _)); refine blk_put (cs := #[.int .i64 0, .int .i64 0]) ?_ 0 _ rfl; (with_reducible repeat (first | refine blk_drewN ?_ _ | refine blk_drew ?_ | refine blk_alloc ?_ _)); exact BK369.out) Tryd.underlying40 rfl J8) rfl ?_
      exact ⟨J2, J35⟩
    · rw [if_neg c17] at H
      exact absurd H J33
  rw [if_neg c16] at H
  have c16b0 : (((rd_T32 l0 0).f0) == 1) = false := beq_eq_false_iff_ne.mpr c16
  have c16b1 : (((rd_T32 l0 0).f0) != 1) = true := bne_iff_ne.mpr c16
  by_cases c25 : ((rd_T32 l0 0).f0) = 2
  rotate_left
  · rw [if_neg c25] at H
    have c25b0 : (((rd_T32 l0 0).f0) == 2) = false := beq_eq_false_iff_ne.mpr c25
    have c25b1 : (((rd_T32 l0 0).f0) != 2) = true := bne_iff_ne.mpr c25
    simp only [Option.some.injEq, Prod.mk.injEq] at H
    obtain ⟨rfl, rfl, rfl⟩ := H
    go_enter Tryd.func17, Tryd.ntmps17
    go_wp2_with (first | ((with_reducible refine gate_dst (N := 2) rfl ?_); refine bxw 2 40 #[.int .i64 0, .int .i64 0] ?_; intro gb369 hg w34 hbox hb; have BK369 := zq (hbox); have GE369 := zq ((J10 : w.heap.size ≤ gb369)); replace HB := zq (below_step J0 hb); clear hb hbox hg; have p370 : 0 ≤ (0 : Int) := J40; have q370 : 0 < (l0.length : Int) := of_decide_eq_true J3; obtain ⟨ad370, A370_1, c370_1, A370_2, c370_2, A370_3, c370_3, e370, hx370_0, hx370_1, hx370_2, hx370_3, hl370_1, hi370_1, hl370_2, hi370_2, hl370_3, hi370_3⟩ := at_T32 HR0.out 0 p370 q370; cases e370; have qi370 : (0 < l0.length) = True := eq_true J40; (try rw [show ((0 : Int)).toNat = 0 from rfl] at hx370_0); (try rw [show 0 * 4 = 0 from rfl] at hx370_0); (try rw [Addr.add_zero'] at hx370_0); (try rw [show ((0 : Int)).toNat = 0 from rfl] at hx370_1); (try rw [show 0 * 4 = 0 from rfl] at hx370_1); (try rw [Addr.add_zero'] at hx370_1); (try rw [show ((0 : Int)).toNat = 0 from rfl] at hx370_2); (try rw [show 0 * 4 = 0 from rfl] at hx370_2); (try rw [Addr.add_zero'] at hx370_2); (try rw [show ((0 : Int)).toNat = 0 from rfl] at hx370_3); (try rw [show 0 * 4 = 0 from rfl] at hx370_3); (try rw [Addr.add_zero'] at hx370_3); replace hx370_0 := (HB.out.cell (World.block_lt_of_cell? w _ hx370_0)).trans hx370_0; replace hx370_1 := (HB.out.cell (World.block_lt_of_cell? w _ hx370_1)).trans hx370_1; replace hx370_2 := (HB.out.cell (World.block_lt_of_cell? w _ hx370_2)).trans hx370_2; replace hx370_3 := (HB.out.cell (World.block_lt_of_cell? w _ hx370_3)).trans hx370_3; have HR370_1 := zq hi370_1; have HC370_1 := zq hl370_1; clear hi370_1 hl370_1; have HR370_2 := zq hi370_2; have HC370_2 := zq hl370_2; clear hi370_2 hl370_2; have HR370_3 := zq hi370_3; have HC370_3 := zq hl370_3; clear hi370_3 hl370_3; replace p370 := eq_true p370; replace q370 := eq_true q370) | ((with_reducible refine gate_dst (N := 4) rfl ?_); refine bxw 4 32 #[.int .i64 0, .slice none 0 0, .slice none 0 0, .slice none 0 0] ?_; intro gb371 hg w35 hbox hb; have BK371 := zq (hbox); have GE371 := zq ((J75 : w.heap.size ≤ gb371)); replace HB := zq (below_step (zs1 GE369.out) hb); have NB369_371 := zq ((J67 : gb369 ≠ gb371)); have NB371_369 := zq ((J68 : gb371 ≠ gb369)); replace BK369 := zq (blk_below (g := gb369) (o := .cells #[.int .i64 0, .int .i64 0] 40 (0, 0)) (zk BK369.out) hb); clear hb hbox hg; have hnb36 := NB371_369.out; have hnc36 := NB369_371.out; obtain ⟨hcz37_0, hcz37_1, hcz37_2, hcz37_3, hfz37_0, hfz37_1, hfz37_2, hfz37_3⟩ := cz4 BK371.out; obtain ⟨hcz38_0, hcz38_1, hfz38_0, hfz38_1⟩ := cz2 BK369.out))
    refine bodyPost_ret (results_ct rfl _ _ gb369 40 #[.int .i64 0, .int .i64 0] (0, 0) _ rfl J28 Tryd.underlying40 rfl J8) rfl ?_
    exact ⟨J2, J35⟩
  rw [if_pos c25] at H
  have c25b0 : (((rd_T32 l0 0).f0) == 2) = true := beq_iff_eq.mpr c25
  have c25b1 : (((rd_T32 l0 0).f0) != 2) = false := bne_eq_false_iff_eq.mpr c25
  clear c25
  by_cases c26 : 0 < (((rd_T32 l0 0).f2).length : Int)
  rotate_left
  · rw [if_neg c26] at H
    exact absurd H J33
  rw [if_pos c26] at H
  have c26b0 := decide_eq_true c26
  have c26b1 : decide (0 < ((rd_T32 l0 0).f2).length) = true := decide_eq_true J40
  clear c26
  replace H := Option.bind_eq_some_iff.mp H
  obtain ⟨⟨t377, t378⟩, A270, H⟩ := H
  dsimp only at H
  have A27 := zq A270
  clear A270
  simp only [Option.some.injEq, Prod.mk.injEq] at H
  obtain ⟨rfl, rfl, rfl⟩ := H
  go_enter Tryd.func17, Tryd.ntmps17
  go_wp2_with (first | ((with_reducible refine gate_dst (N := 2) rfl ?_); refine bxw 2 40 #[.int .i64 0, .int .i64 0] ?_; intro gb369 hg w28 hbox hb; have BK369 := zq (hbox); have GE369 := zq ((J10 : w.heap.size ≤ gb369)); replace HB := zq (below_step J0 hb); clear hb hbox hg; have p370 : 0 ≤ (0 : Int) := J40; have q370 : 0 < (l0.length : Int) := of_decide_eq_true J3; obtain ⟨ad370, A370_1, c370_1, A370_2, c370_2, A370_3, c370_3, e370, hx370_0, hx370_1, hx370_2, hx370_3, hl370_1, hi370_1, hl370_2, hi370_2, hl370_3, hi370_3⟩ := at_T32 HR0.out 0 p370 q370; cases e370; have qi370 : (0 < l0.length) = True := eq_true J40; (try rw [show ((0 : Int)).toNat = 0 from rfl] at hx370_0); (try rw [show 0 * 4 = 0 from rfl] at hx370_0); (try rw [Addr.add_zero'] at hx370_0); (try rw [show ((0 : Int)).toNat = 0 from rfl] at hx370_1); (try rw [show 0 * 4 = 0 from rfl] at hx370_1); (try rw [Addr.add_zero'] at hx370_1); (try rw [show ((0 : Int)).toNat = 0 from rfl] at hx370_2); (try rw [show 0 * 4 = 0 from rfl] at hx370_2); (try rw [Addr.add_zero'] at hx370_2); (try rw [show ((0 : Int)).toNat = 0 from rfl] at hx370_3); (try rw [show 0 * 4 = 0 from rfl] at hx370_3); (try rw [Addr.add_zero'] at hx370_3); replace hx370_0 := (HB.out.cell (World.block_lt_of_cell? w _ hx370_0)).trans hx370_0; replace hx370_1 := (HB.out.cell (World.block_lt_of_cell? w _ hx370_1)).trans hx370_1; replace hx370_2 := (HB.out.cell (World.block_lt_of_cell? w _ hx370_2)).trans hx370_2; replace hx370_3 := (HB.out.cell (World.block_lt_of_cell? w _ hx370_3)).trans hx370_3; have HR370_1 := zq hi370_1; have HC370_1 := zq hl370_1; clear hi370_1 hl370_1; have HR370_2 := zq hi370_2; have HC370_2 := zq hl370_2; clear hi370_2 hl370_2; have HR370_3 := zq hi370_3; have HC370_3 := zq hl370_3; clear hi370_3 hl370_3; replace p370 := eq_true p370; replace q370 := eq_true q370) | ((with_reducible refine gate_dst (N := 4) rfl ?_); refine bxw 4 32 #[.int .i64 0, .slice none 0 0, .slice none 0 0, .slice none 0 0] ?_; intro gb371 hg w29 hbox hb; have BK371 := zq (hbox); have GW371 := zq ((J75 : w.heap.size ≤ gb371)); have GE371 := zq ((J75 : w.heap.size ≤ gb371)); replace HB := zq (below_step (zs1 GE369.out) hb); have NB369_371 := zq ((J67 : gb369 ≠ gb371)); have NB371_369 := zq ((J68 : gb371 ≠ gb369)); replace BK369 := zq (blk_below (g := gb369) (o := .cells #[.int .i64 0, .int .i64 0] 40 (0, 0)) (zk BK369.out) hb); clear hb hbox hg; have hnb30 := NB371_369.out; have hnc30 := NB369_371.out; obtain ⟨hcz31_0, hcz31_1, hcz31_2, hcz31_3, hfz31_0, hfz31_1, hfz31_2, hfz31_3⟩ := cz4 BK371.out; have p376 : 0 ≤ (0 : Int) := J40; have q376 : 0 < (((rd_T32 l0 0).f2).length : Int) := of_decide_eq_true J3; obtain ⟨ad376, e376, hx376_0⟩ := Kd.at_int HR370_2.out 0 p376 q376; cases e376; have qi376 : (0 < ((rd_T32 l0 0).f2).length) = True := eq_true J40; (try rw [show ((0 : Int)).toNat = 0 from rfl] at hx376_0); (try rw [Addr.add_zero'] at hx376_0); have hn376_0 : ad376.block ≠ gb371 := Nat.ne_of_lt (Nat.lt_of_lt_of_le J86 GW371.out); have hn376_1 : ad376.block ≠ gb371 := Nat.ne_of_lt (Nat.lt_of_lt_of_le J86 GW371.out); have hn376_2 : ad376.block ≠ gb371 := Nat.ne_of_lt (Nat.lt_of_lt_of_le J86 GW371.out); have hn376_3 : ad376.block ≠ gb371 := Nat.ne_of_lt (Nat.lt_of_lt_of_le J86 GW371.out); replace hx376_0 := (HB.out.cell (World.block_lt_of_cell? w _ hx376_0)).trans hx376_0; replace hx376_0 := (cell_far (p := ⟨gb371, 0, none⟩) (zb hn376_0) (.int .i64 ((rd_T32 l0 0).f0))).trans hx376_0; replace hx376_0 := (cell_far (p := ⟨gb371, 1, none⟩) (zb hn376_1) (.slice A370_1 ((rd_T32 l0 0).f1).length c370_1)).trans hx376_0; replace hx376_0 := (cell_far (p := ⟨gb371, 2, none⟩) (zb hn376_2) (.slice (some ad376) ((rd_T32 l0 0).f2).length c370_2)).trans hx376_0; replace hx376_0 := (cell_far (p := ⟨gb371, 3, none⟩) (zb hn376_3) (.slice A370_3 ((rd_T32 l0 0).f3).length c370_3)).trans hx376_0; clear hn376_0; clear hn376_1; clear hn376_2; clear hn376_3; replace p376 := eq_true p376; replace q376 := eq_true q376) | ((with_reducible refine gate_callee (f := 22) rfl ?_); refine goesL_ (some 33) rfl rfl Tryd.func22 J8 rfl #[.int .i64 (rd ((rd_T32 l0 0).f2) 0)] rfl J1 ?_; (with_reducible refine (decimal_Of.calls k (rd ((rd_T32 l0 0).f2) 0) t377 t378 _ A27.out).mono ?_); rintro e w32 ⟨rfl, hb⟩; refine ⟨_, rfl, ?_⟩; replace BK369 := zq (blk_below (g := gb369) (o := .cells #[.int .i64 0, .int .i64 0] 40 (0, 0)) J39 hb); replace BK371 := zq (blk_below (g := gb371) (o := .cells #[.int .i64 ((rd_T32 l0 0).f0), .slice A370_1 ((rd_T32 l0 0).f1).length c370_1, .slice (some ad376) ((rd_T32 l0 0).f2).length c370_2, .slice A370_3 ((rd_T32 l0 0).f3).length c370_3] 32 (0, 0)) (by (with_reducible repeat (first | refine blk_drewN ?_ _ | refine blk_drew ?_ | refine blk_alloc ?_ _)); refine blk_put (cs := #[.int .i64 ((rd_T32 l0 0).f0), .slice A370_1 ((rd_T32 l0 0).f1).length c370_1, .slice (some ad376) ((rd_T32 l0 0).f2).length c370_2, .slice none 0 0]) ?_ 3 _ rfl; (with_reducible repeat (first | refine blk_drewN ?_ _ | refine blk_drew ?_ | refine blk_alloc ?_ _)); refine blk_put (cs := #[.int .i64 ((rd_T32 l0 0).f0), .slice A370_1 ((rd_T32 l0 0).f1).length c370_1, .slice none 0 0, .slice none 0 0]) ?_ 2 _ rfl; (with_reducible repeat (first | refine blk_drewN ?_ _ | refine blk_drew ?_ | refine blk_alloc ?_ _)); refine blk_put (cs := #[.int .i64 ((rd_T32 l0 0).f0), .slice none 0 0, .slice none 0 0, .slice none 0 0]) ?_ 1 _ rfl; (with_reducible repeat (first | refine blk_drewN ?_ _ | refine blk_drew ?_ | refine blk_alloc ?_ _)); refine blk_put (cs := #[.int .i64 0, .slice none 0 0, .slice none 0 0, .slice none 0 0]) ?_ 0 _ rfl; (with_reducible repeat (first | refine blk_drewN ?_ _ | refine blk_drew ?_ | refine blk_alloc ?_ _)); exact BK371.out) hb); replace HB := zq (below_step (zs2 GE369.out GE371.out) hb); (try clear hb); obtain ⟨hcz33_0, hcz33_1, hfz33_0, hfz33_1⟩ := cz2 BK369.out))
  refine bodyPost_ret (results_ct rfl _ _ gb369 40 #[.int .i64 t377, .int .i64 t378] (0, 0) _ rfl (by (with_reducible repeat (first | refine blk_drewN ?_ _ | refine blk_drew ?_ | refine blk_alloc ?_ _)); refine blk_put (cs := #[.int .i64 t377, .int .i64 0]) ?_ 1 _ rfl; (with_reducible repeat (first | refine blk_drewN ?_ _ | refine blk_drew ?_ | refine blk_alloc ?_ _)); refine blk_put (cs := #[.int .i64 0, .int .i64 0]) ?_ 0 _ rfl; (with_reducible repeat (first | refine blk_drewN ?_ _ | refine blk_drew ?_ | refine blk_alloc ?_ _)); exact BK369.out) Tryd.underlying40 rfl J8) rfl ?_
  exact ⟨J2, J35⟩
def cmp_isNaN_int.f (a0 : Int) : Option (Bool) := some (a0 != a0)
set_option maxHeartbeats 8000000 in
set_option maxRecDepth 100000 in
theorem cmp_isNaN_int.calls (a0 : Int) (r : Bool) (w : World) (h : cmp_isNaN_int.f a0 = some r) :
    Calls Tryd.prog 54 #[.int .i64 a0] w fun e w' => e = .returned (.bool r) ∧ Drawn0 w w' := by
  have H : (some (a0 != a0)) = some r := h
  clear h
  obtain rfl := Option.some.inj H
  go_enter Tryd.func54, Tryd.ntmps54
  go_wp2
  go_ret
  exact ⟨J4, J7⟩
def cmp_Compare_int.f (a0 : Int) (a1 : Int) : Option (Int) := (cmp_isNaN_int.f a0).bind fun t379 => ((cmp_isNaN_int.f a1).bind fun t380 => (if t379 = true then (if t380 = true then (some 0) else (some (-1))) else (if t380 = true then (some 1) else (if a0 < a1 then (some (-1)) else (if a0 > a1 then (some 1) else (some 0))))))
set_option maxHeartbeats 8000000 in
set_option maxRecDepth 100000 in
theorem cmp_Compare_int.calls (a0 : Int) (a1 : Int) (r : Int) (w : World) (h : cmp_Compare_int.f a0 a1 = some r) :
    Calls Tryd.prog 29 #[.int .i64 a0, .int .i64 a1] w fun e w' => e = .returned (.int .i64 r) ∧ Drawn0 w w' := by
  have H : ((cmp_isNaN_int.f a0).bind fun t379 => ((cmp_isNaN_int.f a1).bind fun t380 => (if t379 = true then (if t380 = true then (some 0) else (some (-1))) else (if t380 = true then (some 1) else (if a0 < a1 then (some (-1)) else (if a0 > a1 then (some 1) else (some 0))))))) = some r := h
  clear h
  replace H := Option.bind_eq_some_iff.mp H
  obtain ⟨t379, A30, H⟩ := H
  have A3 := zq A30
  clear A30
  replace H := Option.bind_eq_some_iff.mp H
  obtain ⟨t380, A40, H⟩ := H
  have A4 := zq A40
  clear A40
  by_cases c5 : t379 = true
  · subst c5
    rw [if_pos rfl] at H
    by_cases c6 : t380 = true
    · subst c6
      rw [if_pos rfl] at H
      obtain rfl := Option.some.inj H
      go_enter Tryd.func29, Tryd.ntmps29
      go_wp2_with (first | ((with_reducible refine gate_callee (f := 54) rfl ?_); refine goesL_ (some 8) rfl rfl Tryd.func54 J8 rfl #[.int .i64 a0] rfl J1 ?_; (with_reducible refine (cmp_isNaN_int.calls a0 true _ A3.out).mono ?_); rintro e w' ⟨rfl, ⟨nd, rfl⟩⟩; refine ⟨_, rfl, ?_⟩) | ((with_reducible refine gate_callee (f := 54) rfl ?_); refine goesL_ (some 10) rfl rfl Tryd.func54 J8 rfl #[.int .i64 a1] rfl J1 ?_; (with_reducible refine (cmp_isNaN_int.calls a1 true _ A4.out).mono ?_); rintro e w' ⟨rfl, ⟨nd, rfl⟩⟩; refine ⟨_, rfl, ?_⟩))
      go_ret
      exact ⟨J4, J7⟩
    · replace c6 := Bool.eq_false_iff.mpr c6
      subst c6
      rw [if_neg (show ¬ (false = true) by decide)] at H
      obtain rfl := Option.some.inj H
      go_enter Tryd.func29, Tryd.ntmps29
      go_wp2_with (first | ((with_reducible refine gate_callee (f := 54) rfl ?_); refine goesL_ (some 8) rfl rfl Tryd.func54 J8 rfl #[.int .i64 a0] rfl J1 ?_; (with_reducible refine (cmp_isNaN_int.calls a0 true _ A3.out).mono ?_); rintro e w' ⟨rfl, ⟨nd, rfl⟩⟩; refine ⟨_, rfl, ?_⟩) | ((with_reducible refine gate_callee (f := 54) rfl ?_); refine goesL_ (some 10) rfl rfl Tryd.func54 J8 rfl #[.int .i64 a1] rfl J1 ?_; (with_reducible refine (cmp_isNaN_int.calls a1 false _ A4.out).mono ?_); rintro e w' ⟨rfl, ⟨nd, rfl⟩⟩; refine ⟨_, rfl, ?_⟩))
      go_ret
      exact ⟨J4, J7⟩
  replace c5 := Bool.eq_false_iff.mpr c5
  subst c5
  rw [if_neg (show ¬ (false = true) by decide)] at H
  by_cases c7 : t380 = true
  · subst c7
    rw [if_pos rfl] at H
    obtain rfl := Option.some.inj H
    go_enter Tryd.func29, Tryd.ntmps29
    go_wp2_with (first | ((with_reducible refine gate_callee (f := 54) rfl ?_); refine goesL_ (some 8) rfl rfl Tryd.func54 J8 rfl #[.int .i64 a0] rfl J1 ?_; (with_reducible refine (cmp_isNaN_int.calls a0 false _ A3.out).mono ?_); rintro e w' ⟨rfl, ⟨nd, rfl⟩⟩; refine ⟨_, rfl, ?_⟩) | ((with_reducible refine gate_callee (f := 54) rfl ?_); refine goesL_ (some 10) rfl rfl Tryd.func54 J8 rfl #[.int .i64 a1] rfl J1 ?_; (with_reducible refine (cmp_isNaN_int.calls a1 true _ A4.out).mono ?_); rintro e w' ⟨rfl, ⟨nd, rfl⟩⟩; refine ⟨_, rfl, ?_⟩))
    go_ret
    exact ⟨J4, J7⟩
  replace c7 := Bool.eq_false_iff.mpr c7
  subst c7
  rw [if_neg (show ¬ (false = true) by decide)] at H
  by_cases c8 : a0 < a1
  · rw [if_pos c8] at H
    have c8b0 := decide_eq_true c8
    clear c8
    obtain rfl := Option.some.inj H
    go_enter Tryd.func29, Tryd.ntmps29
    go_wp2_with (first | ((with_reducible refine gate_callee (f := 54) rfl ?_); refine goesL_ (some 8) rfl rfl Tryd.func54 J8 rfl #[.int .i64 a0] rfl J1 ?_; (with_reducible refine (cmp_isNaN_int.calls a0 false _ A3.out).mono ?_); rintro e w' ⟨rfl, ⟨nd, rfl⟩⟩; refine ⟨_, rfl, ?_⟩) | ((with_reducible refine gate_callee (f := 54) rfl ?_); refine goesL_ (some 10) rfl rfl Tryd.func54 J8 rfl #[.int .i64 a1] rfl J1 ?_; (with_reducible refine (cmp_isNaN_int.calls a1 false _ A4.out).mono ?_); rintro e w' ⟨rfl, ⟨nd, rfl⟩⟩; refine ⟨_, rfl, ?_⟩))
    go_ret
    exact ⟨J4, J7⟩
  rw [if_neg c8] at H
  have c8b0 := decide_eq_false c8
  clear c8
  by_cases c9 : a0 > a1
  rotate_left
  · rw [if_neg c9] at H
    have c9b0 := decide_eq_false c9
    clear c9
    obtain rfl := Option.some.inj H
    go_enter Tryd.func29, Tryd.ntmps29
    go_wp2_with (first | ((with_reducible refine gate_callee (f := 54) rfl ?_); refine goesL_ (some 8) rfl rfl Tryd.func54 J8 rfl #[.int .i64 a0] rfl J1 ?_; (with_reducible refine (cmp_isNaN_int.calls a0 false _ A3.out).mono ?_); rintro e w' ⟨rfl, ⟨nd, rfl⟩⟩; refine ⟨_, rfl, ?_⟩) | ((with_reducible refine gate_callee (f := 54) rfl ?_); refine goesL_ (some 10) rfl rfl Tryd.func54 J8 rfl #[.int .i64 a1] rfl J1 ?_; (with_reducible refine (cmp_isNaN_int.calls a1 false _ A4.out).mono ?_); rintro e w' ⟨rfl, ⟨nd, rfl⟩⟩; refine ⟨_, rfl, ?_⟩))
    go_ret
    exact ⟨J4, J7⟩
  rw [if_pos c9] at H
  have c9b0 := decide_eq_true c9
  clear c9
  obtain rfl := Option.some.inj H
  go_enter Tryd.func29, Tryd.ntmps29
  go_wp2_with (first | ((with_reducible refine gate_callee (f := 54) rfl ?_); refine goesL_ (some 8) rfl rfl Tryd.func54 J8 rfl #[.int .i64 a0] rfl J1 ?_; (with_reducible refine (cmp_isNaN_int.calls a0 false _ A3.out).mono ?_); rintro e w' ⟨rfl, ⟨nd, rfl⟩⟩; refine ⟨_, rfl, ?_⟩) | ((with_reducible refine gate_callee (f := 54) rfl ?_); refine goesL_ (some 10) rfl rfl Tryd.func54 J8 rfl #[.int .i64 a1] rfl J1 ?_; (with_reducible refine (cmp_isNaN_int.calls a1 false _ A4.out).mono ?_); rintro e w' ⟨rfl, ⟨nd, rfl⟩⟩; refine ⟨_, rfl, ?_⟩))
  go_ret
  exact ⟨J4, J7⟩
def stringslite_HasPrefix.f (a0 : ByteArray) (a1 : ByteArray) : Option (Bool) := if (a0.size : Int) ≥ (a1.size : Int) then (if 0 ≤ (a1.size : Int) then (if (a1.size : Int) ≤ (a0.size : Int) then (some ((a0.extract 0 ((a1.size : Int) : Int).toNat).toList == a1.toList)) else (none)) else (none)) else (some false)
set_option maxHeartbeats 8000000 in
set_option maxRecDepth 100000 in
theorem stringslite_HasPrefix.calls (a0 : ByteArray) (a1 : ByteArray) (r : Bool) (w : World) (h : stringslite_HasPrefix.f a0 a1 = some r) :
    Calls Tryd.prog 68 #[.string a0, .string a1] w fun e w' => e = .returned (.bool r) ∧ Drawn0 w w' := by
  have H : (if (a0.size : Int) ≥ (a1.size : Int) then (if 0 ≤ (a1.size : Int) then (if (a1.size : Int) ≤ (a0.size : Int) then (some ((a0.extract 0 ((a1.size : Int) : Int).toNat).toList == a1.toList)) else (none)) else (none)) else (some false)) = some r := h
  clear h
  by_cases c3 : (a0.size : Int) ≥ (a1.size : Int)
  rotate_left
  · rw [if_neg c3] at H
    have c3b0 := decide_eq_false c3
    have c3b1 : decide (a1.size ≤ a0.size) = false := decide_eq_false (fun h => c3 (Int.ofNat_le.mpr h))
    clear c3
    obtain rfl := Option.some.inj H
    go_enter Tryd.func68, Tryd.ntmps68
    go_wp2
    go_ret
    exact ⟨J4, J7⟩
  rw [if_pos c3] at H
  have c3b0 := decide_eq_true c3
  have c3b1 : decide (a1.size ≤ a0.size) = true := decide_eq_true (Int.ofNat_le.mp c3)
  clear c3
  by_cases c4 : 0 ≤ (a1.size : Int)
  rotate_left
  · rw [if_neg c4] at H
    exact absurd H J33
  rw [if_pos c4] at H
  have c4b0 := eq_true c4
  have c4b1 := decide_eq_true c4
  clear c4
  by_cases c5 : (a1.size : Int) ≤ (a0.size : Int)
  rotate_left
  · rw [if_neg c5] at H
    exact absurd H J33
  rw [if_pos c5] at H
  have c5b0 := eq_true c5
  have c5b1 := decide_eq_true c5
  clear c5
  obtain rfl := Option.some.inj H
  go_enter Tryd.func68, Tryd.ntmps68
  go_wp2
  go_ret
  exact ⟨J4, J7⟩
def stringslite_TrimPrefix.f (a0 : ByteArray) (a1 : ByteArray) : Option (ByteArray) := (stringslite_HasPrefix.f a0 a1).bind fun t381 => (if t381 = true then (if 0 ≤ (a1.size : Int) then (if (a1.size : Int) ≤ (a0.size : Int) then (some (a0.extract ((a1.size : Int) : Int).toNat a0.size)) else (none)) else (none)) else (some a0))
set_option maxHeartbeats 8000000 in
set_option maxRecDepth 100000 in
theorem stringslite_TrimPrefix.calls (a0 : ByteArray) (a1 : ByteArray) (r : ByteArray) (w : World) (h : stringslite_TrimPrefix.f a0 a1 = some r) :
    Calls Tryd.prog 83 #[.string a0, .string a1] w fun e w' => e = .returned (.string r) ∧ Drawn0 w w' := by
  have H : ((stringslite_HasPrefix.f a0 a1).bind fun t381 => (if t381 = true then (if 0 ≤ (a1.size : Int) then (if (a1.size : Int) ≤ (a0.size : Int) then (some (a0.extract ((a1.size : Int) : Int).toNat a0.size)) else (none)) else (none)) else (some a0))) = some r := h
  clear h
  replace H := Option.bind_eq_some_iff.mp H
  obtain ⟨t381, A30, H⟩ := H
  have A3 := zq A30
  clear A30
  by_cases c4 : t381 = true
  rotate_left
  · replace c4 := Bool.eq_false_iff.mpr c4
    subst c4
    rw [if_neg (show ¬ (false = true) by decide)] at H
    obtain rfl := Option.some.inj H
    go_enter Tryd.func83, Tryd.ntmps83
    go_wp2_with (first | ((with_reducible refine gate_callee (f := 68) rfl ?_); refine goesL_ (some 7) rfl rfl Tryd.func68 J8 rfl #[.string a0, .string a1] rfl J1 ?_; (with_reducible refine (stringslite_HasPrefix.calls a0 a1 false _ A3.out).mono ?_); rintro e w' ⟨rfl, ⟨nd, rfl⟩⟩; refine ⟨_, rfl, ?_⟩))
    go_ret
    exact ⟨J4, J7⟩
  subst c4
  rw [if_pos rfl] at H
  by_cases c5 : 0 ≤ (a1.size : Int)
  rotate_left
  · rw [if_neg c5] at H
    exact absurd H J33
  rw [if_pos c5] at H
  have c5b0 := eq_true c5
  have c5b1 := decide_eq_true c5
  clear c5
  by_cases c6 : (a1.size : Int) ≤ (a0.size : Int)
  rotate_left
  · rw [if_neg c6] at H
    exact absurd H J33
  rw [if_pos c6] at H
  have c6b0 := eq_true c6
  have c6b1 := decide_eq_true c6
  clear c6
  obtain rfl := Option.some.inj H
  go_enter Tryd.func83, Tryd.ntmps83
  go_wp2_with (first | ((with_reducible refine gate_callee (f := 68) rfl ?_); refine goesL_ (some 7) rfl rfl Tryd.func68 J8 rfl #[.string a0, .string a1] rfl J1 ?_; (with_reducible refine (stringslite_HasPrefix.calls a0 a1 true _ A3.out).mono ?_); rintro e w' ⟨rfl, ⟨nd, rfl⟩⟩; refine ⟨_, rfl, ?_⟩))
  go_ret
  exact ⟨J4, J7⟩
def strings_TrimPrefix.f (a0 : ByteArray) (a1 : ByteArray) : Option (ByteArray) := (stringslite_TrimPrefix.f a0 a1).bind fun t382 => (some t382)
set_option maxHeartbeats 8000000 in
set_option maxRecDepth 100000 in
theorem strings_TrimPrefix.calls (a0 : ByteArray) (a1 : ByteArray) (r : ByteArray) (w : World) (h : strings_TrimPrefix.f a0 a1 = some r) :
    Calls Tryd.prog 74 #[.string a0, .string a1] w fun e w' => e = .returned (.string r) ∧ Drawn0 w w' := by
  have H : ((stringslite_TrimPrefix.f a0 a1).bind fun t382 => (some t382)) = some r := h
  clear h
  replace H := Option.bind_eq_some_iff.mp H
  obtain ⟨t382, A30, H⟩ := H
  have A3 := zq A30
  clear A30
  obtain rfl := Option.some.inj H
  go_enter Tryd.func74, Tryd.ntmps74
  go_wp2_with (first | ((with_reducible refine gate_callee (f := 83) rfl ?_); refine goesL_ (some 7) rfl rfl Tryd.func83 J8 rfl #[.string a0, .string a1] rfl J1 ?_; (with_reducible refine (stringslite_TrimPrefix.calls a0 a1 t382 _ A3.out).mono ?_); rintro e w' ⟨rfl, ⟨nd, rfl⟩⟩; refine ⟨_, rfl, ?_⟩))
  go_ret
  exact ⟨J4, J7⟩
def strconv_small.f (a0 : Int) : Option (ByteArray) := if a0 < 10 then (if 0 ≤ a0 then (if a0 ≤ (wrap64 (a0 + 1)) then (if (wrap64 (a0 + 1)) ≤ 36 then (some ((⟨#[48, 49, 50, 51, 52, 53, 54, 55, 56, 57, 97, 98, 99, 100, 101, 102, 103, 104, 105, 106, 107, 108, 109, 110, 111, 112, 113, 114, 115, 116, 117, 118, 119, 120, 121, 122]⟩ : ByteArray).extract (a0 : Int).toNat ((wrap64 (a0 + 1)) : Int).toNat)) else (none)) else (none)) else (none)) else (none)
set_option maxHeartbeats 8000000 in
set_option maxRecDepth 100000 in
theorem strconv_small.calls (a0 : Int) (r : ByteArray) (w : World) (h : strconv_small.f a0 = some r) :
    Calls Tryd.prog 92 #[.int .i64 a0] w fun e w' => e = .returned (.string r) ∧ Drawn0 w w' := by
  have H : (if a0 < 10 then (if 0 ≤ a0 then (if a0 ≤ (wrap64 (a0 + 1)) then (if (wrap64 (a0 + 1)) ≤ 36 then (some ((⟨#[48, 49, 50, 51, 52, 53, 54, 55, 56, 57, 97, 98, 99, 100, 101, 102, 103, 104, 105, 106, 107, 108, 109, 110, 111, 112, 113, 114, 115, 116, 117, 118, 119, 120, 121, 122]⟩ : ByteArray).extract (a0 : Int).toNat ((wrap64 (a0 + 1)) : Int).toNat)) else (none)) else (none)) else (none)) else (none)) = some r := h
  clear h
  by_cases c2 : a0 < 10
  rotate_left
  · rw [if_neg c2] at H
    exact absurd H J33
  rw [if_pos c2] at H
  have c2b0 := decide_eq_true c2
  clear c2
  by_cases c3 : 0 ≤ a0
  rotate_left
  · rw [if_neg c3] at H
    exact absurd H J33
  rw [if_pos c3] at H
  have c3b0 := eq_true c3
  have c3b1 := decide_eq_true c3
  clear c3
  by_cases c4 : a0 ≤ (wrap64 (a0 + 1))
  rotate_left
  · rw [if_neg c4] at H
    exact absurd H J33
  rw [if_pos c4] at H
  have c4b0 := eq_true c4
  have c4b1 := decide_eq_true c4
  by_cases c5 : (wrap64 (a0 + 1)) ≤ 36
  rotate_left
  · rw [if_neg c5] at H
    exact absurd H J33
  rw [if_pos c5] at H
  have c5b0 := eq_true c5
  have c5b1 := decide_eq_true c5
  obtain rfl := Option.some.inj H
  go_enter Tryd.func92, Tryd.ntmps92
  go_wp2
  go_ret
  exact ⟨J4, J7⟩
def strconv_FormatInt.f (a0 : Int) (a1 : Int) : Option (ByteArray) := if a1 = 10 then (if 0 ≤ a0 then (if a0 < 100 then ((strconv_small.f a0).bind fun t383 => (some t383)) else (none)) else (none)) else (none)
set_option maxHeartbeats 8000000 in
set_option maxRecDepth 100000 in
theorem strconv_FormatInt.calls (a0 : Int) (a1 : Int) (r : ByteArray) (w : World) (h : strconv_FormatInt.f a0 a1 = some r) :
    Calls Tryd.prog 87 #[.int .i64 a0, .int .i64 a1] w fun e w' => e = .returned (.string r) ∧ Drawn0 w w' := by
  have H : (if a1 = 10 then (if 0 ≤ a0 then (if a0 < 100 then ((strconv_small.f a0).bind fun t383 => (some t383)) else (none)) else (none)) else (none)) = some r := h
  clear h
  by_cases c3 : a1 = 10
  rotate_left
  · rw [if_neg c3] at H
    exact absurd H J33
  rw [if_pos c3] at H
  have c3b0 : (a1 == 10) = true := beq_iff_eq.mpr c3
  have c3b1 : (a1 != 10) = false := bne_eq_false_iff_eq.mpr c3
  clear c3
  by_cases c4 : 0 ≤ a0
  rotate_left
  · rw [if_neg c4] at H
    exact absurd H J33
  rw [if_pos c4] at H
  have c4b0 := decide_eq_true c4
  clear c4
  by_cases c5 : a0 < 100
  rotate_left
  · rw [if_neg c5] at H
    exact absurd H J33
  rw [if_pos c5] at H
  have c5b0 := decide_eq_true c5
  clear c5
  replace H := Option.bind_eq_some_iff.mp H
  obtain ⟨t383, A60, H⟩ := H
  have A6 := zq A60
  clear A60
  obtain rfl := Option.some.inj H
  go_enter Tryd.func87, Tryd.ntmps87
  go_wp2_with (first | ((with_reducible refine gate_callee (f := 92) rfl ?_); refine goesL_ (some 19) rfl rfl Tryd.func92 J8 rfl #[.int .i64 a0] rfl J1 ?_; (with_reducible refine (strconv_small.calls a0 t383 _ A6.out).mono ?_); rintro e w' ⟨rfl, ⟨nd, rfl⟩⟩; refine ⟨_, rfl, ?_⟩))
  go_ret
  exact ⟨J4, J7⟩
def strconv_Itoa_84.f (a0 : Int) : Option (ByteArray) := (strconv_FormatInt.f a0 10).bind fun t384 => (some t384)
set_option maxHeartbeats 8000000 in
set_option maxRecDepth 100000 in
theorem strconv_Itoa_84.calls (a0 : Int) (r : ByteArray) (w : World) (h : strconv_Itoa_84.f a0 = some r) :
    Calls Tryd.prog 84 #[.int .i64 a0] w fun e w' => e = .returned (.string r) ∧ Drawn0 w w' := by
  have H : ((strconv_FormatInt.f a0 10).bind fun t384 => (some t384)) = some r := h
  clear h
  replace H := Option.bind_eq_some_iff.mp H
  obtain ⟨t384, A20, H⟩ := H
  have A2 := zq A20
  clear A20
  obtain rfl := Option.some.inj H
  go_enter Tryd.func84, Tryd.ntmps84
  go_wp2_with (first | ((with_reducible refine gate_callee (f := 87) rfl ?_); refine goesL_ (some 4) rfl rfl Tryd.func87 J8 rfl #[.int .i64 a0, .int .i64 10] rfl J1 ?_; (with_reducible refine (strconv_FormatInt.calls a0 10 t384 _ A2.out).mono ?_); rintro e w' ⟨rfl, ⟨nd, rfl⟩⟩; refine ⟨_, rfl, ?_⟩))
  go_ret
  exact ⟨J4, J7⟩
def strconv_Itoa_75.f (a0 : Int) : Option (ByteArray) := (strconv_Itoa_84.f a0).bind fun t385 => (some t385)
set_option maxHeartbeats 8000000 in
set_option maxRecDepth 100000 in
theorem strconv_Itoa_75.calls (a0 : Int) (r : ByteArray) (w : World) (h : strconv_Itoa_75.f a0 = some r) :
    Calls Tryd.prog 75 #[.int .i64 a0] w fun e w' => e = .returned (.string r) ∧ Drawn0 w w' := by
  have H : ((strconv_Itoa_84.f a0).bind fun t385 => (some t385)) = some r := h
  clear h
  replace H := Option.bind_eq_some_iff.mp H
  obtain ⟨t385, A20, H⟩ := H
  have A2 := zq A20
  clear A20
  obtain rfl := Option.some.inj H
  go_enter Tryd.func75, Tryd.ntmps75
  go_wp2_with (first | ((with_reducible refine gate_callee (f := 84) rfl ?_); refine goesL_ (some 4) rfl rfl Tryd.func84 J8 rfl #[.int .i64 a0] rfl J1 ?_; (with_reducible refine (strconv_Itoa_84.calls a0 t385 _ A2.out).mono ?_); rintro e w' ⟨rfl, ⟨nd, rfl⟩⟩; refine ⟨_, rfl, ?_⟩))
  go_ret
  exact ⟨J4, J7⟩
def decimal_digits.f (a0 : Int) : Option (ByteArray) := (strconv_Itoa_75.f a0).bind fun t386 => ((strings_TrimPrefix.f t386 (⟨#[45]⟩ : ByteArray)).bind fun t387 => (some t387))
set_option maxHeartbeats 8000000 in
set_option maxRecDepth 100000 in
theorem decimal_digits.calls (a0 : Int) (r : ByteArray) (w : World) (h : decimal_digits.f a0 = some r) :
    Calls Tryd.prog 55 #[.int .i64 a0] w fun e w' => e = .returned (.string r) ∧ Drawn0 w w' := by
  have H : ((strconv_Itoa_75.f a0).bind fun t386 => ((strings_TrimPrefix.f t386 (⟨#[45]⟩ : ByteArray)).bind fun t387 => (some t387))) = some r := h
  clear h
  replace H := Option.bind_eq_some_iff.mp H
  obtain ⟨t386, A20, H⟩ := H
  have A2 := zq A20
  clear A20
  replace H := Option.bind_eq_some_iff.mp H
  obtain ⟨t387, A30, H⟩ := H
  have A3 := zq A30
  clear A30
  obtain rfl := Option.some.inj H
  go_enter Tryd.func55, Tryd.ntmps55
  go_wp2_with (first | ((with_reducible refine gate_callee (f := 75) rfl ?_); refine goesL_ (some 4) rfl rfl Tryd.func75 J8 rfl #[.int .i64 a0] rfl J1 ?_; (with_reducible refine (strconv_Itoa_75.calls a0 t386 _ A2.out).mono ?_); rintro e w' ⟨rfl, ⟨nd, rfl⟩⟩; refine ⟨_, rfl, ?_⟩) | ((with_reducible refine gate_callee (f := 74) rfl ?_); refine goesL_ (some 5) rfl rfl Tryd.func74 J8 rfl #[.string t386, .string (⟨#[45]⟩ : ByteArray)] rfl J1 ?_; (with_reducible refine (strings_TrimPrefix.calls t386 (⟨#[45]⟩ : ByteArray) t387 _ A3.out).mono ?_); rintro e w' ⟨rfl, ⟨nd, rfl⟩⟩; refine ⟨_, rfl, ?_⟩))
  go_ret
  exact ⟨J4, J7⟩
def cmp_Or_int.l0 : Nat → Int → List Int → Int → Int → Option (Int)
  | 0, _, _, _, _ => none
  | k + 1, x3, x6, x7, x8 => if x8 < x7 then (if 0 ≤ x8 then (if x8 < (x6.length : Int) then (if (rd x6 x8) = x3 then (cmp_Or_int.l0 k x3 x6 x7 (wrap64 (x8 + 1))) else (some (rd x6 x8))) else (none)) else (none)) else (some x3)
def cmp_Or_int.f (k : Nat) (l0 : List Int) : Option (Int) := cmp_Or_int.l0 k 0 l0 (l0.length : Int) 0
theorem cmp_Or_int.mono_l : ∀ k, (∀ y0 y1 y2 y3, LeO (cmp_Or_int.l0 k y0 y1 y2 y3) (cmp_Or_int.l0 (k + 1) y0 y1 y2 y3))
  | 0 => fun _ _ _ _ r h => by simp [cmp_Or_int.l0] at h
  | k + 1 => by
    have ih0 := cmp_Or_int.mono_l k
    · intro y0 y1 y2 y3
      unfold cmp_Or_int.l0
      exact mz0
theorem cmp_Or_int.mono : ∀ a0 k, LeO (cmp_Or_int.f k a0) (cmp_Or_int.f (k + 1) a0) := by
  intro a0 k
  have ih0 := cmp_Or_int.mono_l k
  unfold cmp_Or_int.f
  exact mz0
set_option maxHeartbeats 8000000 in
set_option maxRecDepth 100000 in
theorem cmp_Or_int.calls (k : Nat) (A0 : Option Addr) (c0 : Nat) (l0 : List Int) (r : Int) (w : World) (hr0 : Kd.C (Kd.int .i64) w A0 l0.length l0) (hc0 : l0.length ≤ c0) (h : cmp_Or_int.f k l0 = some r) :
    Calls Tryd.prog 56 #[.slice A0 l0.length c0] w fun e w' => e = .returned (.int .i64 r) ∧ Drawn0 w w' := by
  have HR0 := zq hr0
  have HC0 := zq hc0
  clear hr0 hc0
  have H : (cmp_Or_int.l0 k 0 l0 (l0.length : Int) 0) = some r := h
  clear h
  have H' := zq H
  clear H
  go_enter Tryd.func56, Tryd.ntmps56
  go_wp2
  go_loopg [8] k (fun kq v8 w' => ∃ (x8_1 : Int), v8 = .int .i64 x8_1 ∧ Aside0 (cmp_Or_int.l0 kq 0 l0 (l0.length : Int) x8_1 = some r) ∧ Aside0 (kq ≤ k) ∧ Drawn0 w w')
  case atStart => exact ⟨(0), J4, H', ⟨Nat.le_refl _⟩, J7⟩
  case round =>
    clear H'
    obtain ⟨x8_1, rfl, HA, HK1, ⟨m1, rfl⟩⟩ := hrel
    cases gk with
    | zero => exact absurd HA.out (by simp [cmp_Or_int.l0])
    | succ k1 =>
      have H := HA.out
      clear HA
      simp only [cmp_Or_int.l0] at H
      by_cases c2 : x8_1 < (l0.length : Int)
      rotate_left
      · rw [if_neg c2] at H
        have c2b0 := decide_eq_false c2
        clear c2
        obtain rfl := Option.some.inj H
        go_wp2
        go_ret
        exact ⟨J4, J7⟩
      rw [if_pos c2] at H
      have c2b0 := decide_eq_true c2
      clear c2
      by_cases c3 : 0 ≤ x8_1
      rotate_left
      · rw [if_neg c3] at H
        exact absurd H J33
      rw [if_pos c3] at H
      have c3b0 := decide_eq_true c3
      clear c3
      by_cases c4 : x8_1 < (l0.length : Int)
      rotate_left
      · rw [if_neg c4] at H
        exact absurd H J33
      rw [if_pos c4] at H
      have c4b0 := decide_eq_true c4
      clear c4
      by_cases c5 : (rd l0 x8_1) = 0
      rotate_left
      · rw [if_neg c5] at H
        have c5b0 : ((rd l0 x8_1) == 0) = false := beq_eq_false_iff_ne.mpr c5
        have c5b1 : ((rd l0 x8_1) != 0) = true := bne_iff_ne.mpr c5
        obtain rfl := Option.some.inj H
        have p388 : 0 ≤ (x8_1 : Int) := of_decide_eq_true J3
        have q388 : x8_1 < (l0.length : Int) := of_decide_eq_true J3
        obtain ⟨ad388, e388, hx388_0⟩ := Kd.at_int HR0.out x8_1 p388 q388
        cases e388
        replace p388 := eq_true p388
        replace q388 := eq_true q388
        go_wp2
        go_ret
        exact ⟨J4, J7⟩
      rw [if_pos c5] at H
      have c5b0 : ((rd l0 x8_1) == 0) = true := beq_iff_eq.mpr c5
      have c5b1 : ((rd l0 x8_1) != 0) = false := bne_eq_false_iff_eq.mpr c5
      clear c5
      have H' := zq H
      clear H
      have p388 : 0 ≤ (x8_1 : Int) := of_decide_eq_true J3
      have q388 : x8_1 < (l0.length : Int) := of_decide_eq_true J3
      obtain ⟨ad388, e388, hx388_0⟩ := Kd.at_int HR0.out x8_1 p388 q388
      cases e388
      replace p388 := eq_true p388
      replace q388 := eq_true q388
      go_wp2
      go_roundg k1
      case measure => have := HK1.out; omega
      case rel => exact ⟨(wrap64 (x8_1 + 1)), J4, H', ⟨J73⟩, J7⟩
def bytealg_CompareString.f (a0 : ByteArray) (a1 : ByteArray) : Option (Int) := some (Lib.compareBytes a0.data.toList a1.data.toList)
set_option maxHeartbeats 1000000 in
set_option maxRecDepth 100000 in
theorem bytealg_CompareString.calls (a0 : ByteArray) (a1 : ByteArray) (r : Int) (w : World) (h : bytealg_CompareString.f a0 a1 = some r) :
    Calls Tryd.prog 76 #[.string a0, .string a1] w fun e w' => e = .returned (.int .i64 r) ∧ Drawn0 w w' := by
  obtain rfl := Option.some.inj h
  refine Calls.mono (R := fun e w' => e = .returned (.int .i64 (Lib.compareBytes a0.data.toList a1.data.toList)) ∧ w' = w) ?_ (fun e w' hh => ⟨hh.1, by rw [hh.2]; exact Drawn0.refl w⟩)
  go_enter Tryd.func76, Tryd.ntmps76
  go_wp2
  rw [run_callFunc_extern Tryd.func85 J8 J8 J8 (e := Extern.BytealgCompare.compare) J8, Lib.run_compareString]
  simp only [Result.andThen]
  rw [Oper.upon_value]
  go_wp2
  go_ret
  exact ⟨rfl, rfl⟩
def strings_Compare.f (a0 : ByteArray) (a1 : ByteArray) : Option (Int) := (bytealg_CompareString.f a0 a1).bind fun t389 => (some t389)
set_option maxHeartbeats 8000000 in
set_option maxRecDepth 100000 in
theorem strings_Compare.calls (a0 : ByteArray) (a1 : ByteArray) (r : Int) (w : World) (h : strings_Compare.f a0 a1 = some r) :
    Calls Tryd.prog 57 #[.string a0, .string a1] w fun e w' => e = .returned (.int .i64 r) ∧ Drawn0 w w' := by
  have H : ((bytealg_CompareString.f a0 a1).bind fun t389 => (some t389)) = some r := h
  clear h
  replace H := Option.bind_eq_some_iff.mp H
  obtain ⟨t389, A30, H⟩ := H
  have A3 := zq A30
  clear A30
  obtain rfl := Option.some.inj H
  go_enter Tryd.func57, Tryd.ntmps57
  go_wp2_with (first | ((with_reducible refine gate_callee (f := 76) rfl ?_); refine goesL_ (some 7) rfl rfl Tryd.func76 J8 rfl #[.string a0, .string a1] rfl J1 ?_; (with_reducible refine (bytealg_CompareString.calls a0 a1 t389 _ A3.out).mono ?_); rintro e w' ⟨rfl, ⟨nd, rfl⟩⟩; refine ⟨_, rfl, ?_⟩))
  go_ret
  exact ⟨J4, J7⟩
def decimal_above.f (k : Nat) (a0_0 : Int) (a0_1 : Int) (a1_0 : Int) (a1_1 : Int) : Option (Int) := (decimal_digits.f a0_0).bind fun t392 => ((decimal_digits.f a1_0).bind fun t393 => ((cmp_Compare_int.f (wrap64 ((t392.size : Int) + a0_1)) (wrap64 ((t393.size : Int) + a1_1))).bind fun t394 => ((strings_Compare.f t392 t393).bind fun t395 => ((cmp_Or_int.f k (([t394, t395] : List Int))).bind fun t399 => (some t399)))))
theorem decimal_above.mono : ∀ a0 a1 a2 a3 k, LeO (decimal_above.f k a0 a1 a2 a3) (decimal_above.f (k + 1) a0 a1 a2 a3) := by
  intro a0 a1 a2 a3 k
  unfold decimal_above.f
  have im0 := @cmp_Or_int.mono
  exact mz3
set_option maxHeartbeats 8000000 in
set_option maxRecDepth 100000 in
theorem decimal_above.calls (k : Nat) (a0_0 : Int) (a0_1 : Int) (a1_0 : Int) (a1_1 : Int) (r : Int) (w : World) (h : decimal_above.f k a0_0 a0_1 a1_0 a1_1 = some r) :
    Calls Tryd.prog 30 #[.agg #[.int .i64 a0_0, .int .i64 a0_1], .agg #[.int .i64 a1_0, .int .i64 a1_1]] w fun e w' => e = .returned (.int .i64 r) ∧ Below w.heap.size w w' := by
  have hu40 := Tryd.underlying40
  have HB := zq (Below.refl w.heap.size w)
  have H : ((decimal_digits.f a0_0).bind fun t392 => ((decimal_digits.f a1_0).bind fun t393 => ((cmp_Compare_int.f (wrap64 ((t392.size : Int) + a0_1)) (wrap64 ((t393.size : Int) + a1_1))).bind fun t394 => ((strings_Compare.f t392 t393).bind fun t395 => ((cmp_Or_int.f k (([t394, t395] : List Int))).bind fun t399 => (some t399)))))) = some r := h
  clear h
  replace H := Option.bind_eq_some_iff.mp H
  obtain ⟨t392, A30, H⟩ := H
  have A3 := zq A30
  clear A30
  replace H := Option.bind_eq_some_iff.mp H
  obtain ⟨t393, A40, H⟩ := H
  have A4 := zq A40
  clear A40
  replace H := Option.bind_eq_some_iff.mp H
  obtain ⟨t394, A50, H⟩ := H
  have A5 := zq A50
  clear A50
  replace H := Option.bind_eq_some_iff.mp H
  obtain ⟨t395, A60, H⟩ := H
  have A6 := zq A60
  clear A60
  obtain ⟨y396, hy396⟩ : ∃ y_ : List Int, y_ = (([t394, t395] : List Int)) := ⟨_, rfl⟩
  rw (occs := .pos [1]) [← hy396] at H
  have Ny396 := zq hy396
  clear hy396
  replace H := Option.bind_eq_some_iff.mp H
  obtain ⟨t399, A70, H⟩ := H
  have A7 := zq A70
  clear A70
  obtain rfl := Option.some.inj H
  go_enter Tryd.func30, Tryd.ntmps30
  go_wp2_with (first | ((with_reducible refine gate_dst (N := 2) rfl ?_); refine bxw 2 40 #[.int .i64 a0_0, .int .i64 a0_1] ?_; intro gb390 hg w8 hbox hb; have BK390 := zq (hbox); have GW390 := zq ((J10 : w.heap.size ≤ gb390)); have GE390 := zq ((J10 : w.heap.size ≤ gb390)); replace HB := zq (below_step J0 hb); clear hb hbox hg) | ((with_reducible refine gate_dst (N := 3) rfl ?_); refine bxw 3 40 #[.int .i64 a1_0, .int .i64 a1_1] ?_; intro gb391 hg w9 hbox hb; have BK391 := zq (hbox); have GW391 := zq ((J104 : w.heap.size ≤ gb391)); have GE391 := zq ((J104 : w.heap.size ≤ gb391)); replace HB := zq (below_step (zs1 GE390.out) hb); have NB390_391 := zq ((J91 : gb390 ≠ gb391)); have NB391_390 := zq ((J92 : gb391 ≠ gb390)); replace BK390 := zq (blk_below (g := gb390) (o := .cells #[.int .i64 a0_0, .int .i64 a0_1] 40 (0, 0)) (zk BK390.out) hb); clear hb hbox hg; have hnb10 := NB390_391.out; have hnc10 := NB391_390.out; obtain ⟨hcz11_0, hcz11_1, hfz11_0, hfz11_1⟩ := cz2 BK390.out) | (go_at_call 55; (with_reducible refine (decimal_digits.calls a0_0 t392 _ A3.out).mono ?_); rintro e w' ⟨rfl, ⟨nd, rfl⟩⟩; (try first | exact ⟨rfl, _, World.drewN_drewN _ _ _⟩ | exact ⟨rfl, _, Eq.trans (World.drewN_drewN _ _ _) (congrArg (World.drewN _) (Nat.add_assoc _ _ _))⟩); obtain ⟨hcz12_0, hcz12_1, hfz12_0, hfz12_1⟩ := cz2 BK391.out) | (go_at_call 55; (with_reducible refine (decimal_digits.calls a1_0 t393 _ A4.out).mono ?_); rintro e w' ⟨rfl, ⟨nd, rfl⟩⟩; (try first | exact ⟨rfl, _, World.drewN_drewN _ _ _⟩ | exact ⟨rfl, _, Eq.trans (World.drewN_drewN _ _ _) (congrArg (World.drewN _) (Nat.add_assoc _ _ _))⟩)) | (go_at_call 29; (with_reducible refine (cmp_Compare_int.calls (wrap64 ((t392.size : Int) + a0_1)) (wrap64 ((t393.size : Int) + a1_1)) t394 _ A5.out).mono ?_); rintro e w' ⟨rfl, ⟨nd, rfl⟩⟩; (try first | exact ⟨rfl, _, World.drewN_drewN _ _ _⟩ | exact ⟨rfl, _, Eq.trans (World.drewN_drewN _ _ _) (congrArg (World.drewN _) (Nat.add_assoc _ _ _))⟩)) | (go_at_call 57; (with_reducible refine (strings_Compare.calls t392 t393 t395 _ A6.out).mono ?_); rintro e w' ⟨rfl, ⟨nd, rfl⟩⟩; (try first | exact ⟨rfl, _, World.drewN_drewN _ _ _⟩ | exact ⟨rfl, _, Eq.trans (World.drewN_drewN _ _ _) (congrArg (World.drewN _) (Nat.add_assoc _ _ _))⟩)) | ((with_reducible refine gate_dst (N := 27) rfl ?_); refine lwR (Kd.int .i64) 3 27 (xs := ([t394, t395] : List Int)) [.int .i64 t394, .int .i64 t395] Ny396 (Reps.one (show Kd.M (Kd.int .i64) _ _ _ t394 [.int .i64 t394] from rfl) (Reps.one (show Kd.M (Kd.int .i64) _ _ _ t395 [.int .i64 t395] from rfl) (Reps.none _ _))) ?_; intro v397 w13 ho14 hb; have HO398 := zq (Kd.R_lower ho14 (below_size (zs2 GE390.out GE391.out))); replace BK390 := zq (blk_below (g := gb390) (o := .cells #[.int .i64 a0_0, .int .i64 a0_1] 40 (0, 0)) (zk BK390.out) hb); replace BK391 := zq (blk_below (g := gb391) (o := .cells #[.int .i64 a1_0, .int .i64 a1_1] 40 (0, 0)) (zk BK391.out) hb); replace HB := zq (below_step (zs2 GE390.out GE391.out) hb); clear hb ho14; obtain ⟨Ao15, co15, eo15⟩ := Kd.R_slice HO398.out; subst eo15) | (go_at_call 56; (with_reducible refine (cmp_Or_int.calls k _ _ y396 t399 _ ?side1 ?side2 A7.out).mono ?_); (case side1 => exact zc ((Kd.R_reads' HO398.out).2.2)); (case side2 => exact (Kd.R_reads' HO398.out).2.1); rintro e w' ⟨rfl, ⟨nd, rfl⟩⟩; (try first | exact ⟨rfl, _, World.drewN_drewN _ _ _⟩ | exact ⟨rfl, _, Eq.trans (World.drewN_drewN _ _ _) (congrArg (World.drewN _) (Nat.add_assoc _ _ _))⟩)))
  repeat (go_quiet (first | ((with_reducible refine gate_dst (N := 2) rfl ?_); refine box_event ?hg (N := 2) ?hd (cs := #[.int .i64 a0_0, .int .i64 a0_1]) (t := 40) ?hr ?_; (case hd => rfl); (case hg => rfl); (case hr => first | (go_simp; done) | (go_simp; rfl)); intro gb390 hg w8 hbox hb; have n0_ := zq (below_step J0 hb); have n1_ := zq (hbox); have n2_ := zq ((J10 : w.heap.size ≤ gb390)); have n3_ := zq ((J10 : w.heap.size ≤ gb390)); clear HB; have HB := n0_; have BK390 := n1_; have GW390 := n2_; have GE390 := n3_; clear n0_ n1_ n2_ n3_; clear hb hbox hg) | ((with_reducible refine gate_dst (N := 3) rfl ?_); refine box_event ?hg (N := 3) ?hd (cs := #[.int .i64 a1_0, .int .i64 a1_1]) (t := 40) ?hr ?_; (case hd => rfl); (case hg => rfl); (case hr => first | (go_simp; done) | (go_simp; rfl)); intro gb391 hg w9 hbox hb; have n0_ := zq (blk_below (g := gb390) (o := .cells #[.int .i64 a0_0, .int .i64 a0_1] 40 (0, 0)) (zk BK390.out) hb); have n1_ := zq (below_step (zs1 GE390.out) hb); have n2_ := zq (hbox); have n3_ := zq ((J104 : w.heap.size ≤ gb391)); have n4_ := zq ((J104 : w.heap.size ≤ gb391)); have n5_ := zq ((J91 : gb390 ≠ gb391)); have n6_ := zq ((J92 : gb391 ≠ gb390)); clear BK390; clear HB; have BK390 := n0_; have HB := n1_; have BK391 := n2_; have GW391 := n3_; have GE391 := n4_; have NB390_391 := n5_; have NB391_390 := n6_; clear n0_ n1_ n2_ n3_ n4_ n5_ n6_; clear hb hbox hg; have hnb10 := NB390_391.out; have hnc10 := NB391_390.out; have hcz11_0 : w9.cell? ⟨gb390, 0, none⟩ = some (.int .i64 a0_0) := (blk_cell BK390.out 0).trans rfl; have hcz11_1 : w9.cell? ⟨gb390, 1, none⟩ = some (.int .i64 a0_1) := (blk_cell BK390.out 1).trans rfl; have hfz11_0 := blk_frozen BK390.out 0; have hfz11_1 := blk_frozen BK390.out 1) | (go_at_call 55; (with_reducible refine (decimal_digits.calls a0_0 t392 _ A3.out).mono ?_); rintro e w' ⟨rfl, ⟨nd, rfl⟩⟩; (try first | exact ⟨rfl, _, World.drewN_drewN _ _ _⟩ | exact ⟨rfl, _, Eq.trans (World.drewN_drewN _ _ _) (congrArg (World.drewN _) (Nat.add_assoc _ _ _))⟩); have hcz12_0 : w9.cell? ⟨gb391, 0, none⟩ = some (.int .i64 a1_0) := (blk_cell BK391.out 0).trans rfl; have hcz12_1 : w9.cell? ⟨gb391, 1, none⟩ = some (.int .i64 a1_1) := (blk_cell BK391.out 1).trans rfl; have hfz12_0 := blk_frozen BK391.out 0; have hfz12_1 := blk_frozen BK391.out 1) | (go_at_call 55; (with_reducible refine (decimal_digits.calls a1_0 t393 _ A4.out).mono ?_); rintro e w' ⟨rfl, ⟨nd, rfl⟩⟩; (try first | exact ⟨rfl, _, World.drewN_drewN _ _ _⟩ | exact ⟨rfl, _, Eq.trans (World.drewN_drewN _ _ _) (congrArg (World.drewN _) (Nat.add_assoc _ _ _))⟩)) | (go_at_call 29; (with_reducible refine (cmp_Compare_int.calls (wrap64 ((t392.size : Int) + a0_1)) (wrap64 ((t393.size : Int) + a1_1)) t394 _ A5.out).mono ?_); rintro e w' ⟨rfl, ⟨nd, rfl⟩⟩; (try first | exact ⟨rfl, _, World.drewN_drewN _ _ _⟩ | exact ⟨rfl, _, Eq.trans (World.drewN_drewN _ _ _) (congrArg (World.drewN _) (Nat.add_assoc _ _ _))⟩)) | (go_at_call 57; (with_reducible refine (strings_Compare.calls t392 t393 t395 _ A6.out).mono ?_); rintro e w' ⟨rfl, ⟨nd, rfl⟩⟩; (try first | exact ⟨rfl, _, World.drewN_drewN _ _ _⟩ | exact ⟨rfl, _, Eq.trans (World.drewN_drewN _ _ _) (congrArg (World.drewN _) (Nat.add_assoc _ _ _))⟩)) | ((with_reducible refine gate_dst (N := 27) rfl ?_); refine Kd.R_lit (Kd.int .i64) _ 3 ?hg (N := 27) ?hd (xs := ([t394, t395] : List Int)) (inner := [.int .i64 t394, .int .i64 t395]) (ok := fun _ => True) (okp := fun _ => True) ?hr ?hp (fun _ hk => hk) trivial (Below.refl _ _) (Nat.le_refl _) J33 ?_; (case hd => rfl); (case hg => rfl); (case hr => first | (go_simp; done) | (go_simp; rfl)); (case hp => exact (Reps.one (show Kd.M (Kd.int .i64) _ _ _ t394 [.int .i64 t394] from rfl) (Reps.one (show Kd.M (Kd.int .i64) _ _ _ t395 [.int .i64 t395] from rfl) (Reps.none _ _)))); intro v397 w13 ho14 hb hg_ hnew_; clear hg_ hnew_; (first | rw [← Ny396.out] at ho14 | (simp only [Int.reduceToNat] at ho14; rw [← Ny396.out] at ho14)); have n0_ := zq (Kd.R_lower ho14 (below_size (zs2 GE390.out GE391.out))); have n1_ := zq (blk_below (g := gb390) (o := .cells #[.int .i64 a0_0, .int .i64 a0_1] 40 (0, 0)) (zk BK390.out) hb); have n2_ := zq (blk_below (g := gb391) (o := .cells #[.int .i64 a1_0, .int .i64 a1_1] 40 (0, 0)) (zk BK391.out) hb); have n3_ := zq (below_step (zs2 GE390.out GE391.out) hb); clear BK390; clear BK391; clear HB; have HO398 := n0_; have BK390 := n1_; have BK391 := n2_; have HB := n3_; clear n0_ n1_ n2_ n3_; clear hb ho14; obtain ⟨Ao15, co15, eo15⟩ := Kd.R_slice HO398.out; subst eo15) | (go_at_call 56; (with_reducible refine (cmp_Or_int.calls k _ _ y396 t399 _ ?side1 ?side2 A7.out).mono ?_); (case side1 => exact zc ((Kd.R_reads' HO398.out).2.2)); (case side2 => exact (Kd.R_reads' HO398.out).2.1); rintro e w' ⟨rfl, ⟨nd, rfl⟩⟩; (try first | exact ⟨rfl, _, World.drewN_drewN _ _ _⟩ | exact ⟨rfl, _, Eq.trans (World.drewN_drewN _ _ _) (congrArg (World.drewN _) (Nat.add_assoc _ _ _))⟩))); try go_wp2_with (first | ((with_reducible refine gate_dst (N := 2) rfl ?_); refine box_event ?hg (N := 2) ?hd (cs := #[.int .i64 a0_0, .int .i64 a0_1]) (t := 40) ?hr ?_; (case hd => rfl); (case hg => rfl); (case hr => first | (go_simp; done) | (go_simp; rfl)); intro gb390 hg w8 hbox hb; have n0_ := zq (below_step J0 hb); have n1_ := zq (hbox); have n2_ := zq ((J10 : w.heap.size ≤ gb390)); have n3_ := zq ((J10 : w.heap.size ≤ gb390)); clear HB; have HB := n0_; have BK390 := n1_; have GW390 := n2_; have GE390 := n3_; clear n0_ n1_ n2_ n3_; clear hb hbox hg) | ((with_reducible refine gate_dst (N := 3) rfl ?_); refine box_event ?hg (N := 3) ?hd (cs := #[.int .i64 a1_0, .int .i64 a1_1]) (t := 40) ?hr ?_; (case hd => rfl); (case hg => rfl); (case hr => first | (go_simp; done) | (go_simp; rfl)); intro gb391 hg w9 hbox hb; have n0_ := zq (blk_below (g := gb390) (o := .cells #[.int .i64 a0_0, .int .i64 a0_1] 40 (0, 0)) (zk BK390.out) hb); have n1_ := zq (below_step (zs1 GE390.out) hb); have n2_ := zq (hbox); have n3_ := zq ((J104 : w.heap.size ≤ gb391)); have n4_ := zq ((J104 : w.heap.size ≤ gb391)); have n5_ := zq ((J91 : gb390 ≠ gb391)); have n6_ := zq ((J92 : gb391 ≠ gb390)); clear BK390; clear HB; have BK390 := n0_; have HB := n1_; have BK391 := n2_; have GW391 := n3_; have GE391 := n4_; have NB390_391 := n5_; have NB391_390 := n6_; clear n0_ n1_ n2_ n3_ n4_ n5_ n6_; clear hb hbox hg; have hnb10 := NB390_391.out; have hnc10 := NB391_390.out; have hcz11_0 : w9.cell? ⟨gb390, 0, none⟩ = some (.int .i64 a0_0) := (blk_cell BK390.out 0).trans rfl; have hcz11_1 : w9.cell? ⟨gb390, 1, none⟩ = some (.int .i64 a0_1) := (blk_cell BK390.out 1).trans rfl; have hfz11_0 := blk_frozen BK390.out 0; have hfz11_1 := blk_frozen BK390.out 1) | (go_at_call 55; (with_reducible refine (decimal_digits.calls a0_0 t392 _ A3.out).mono ?_); rintro e w' ⟨rfl, ⟨nd, rfl⟩⟩; (try first | exact ⟨rfl, _, World.drewN_drewN _ _ _⟩ | exact ⟨rfl, _, Eq.trans (World.drewN_drewN _ _ _) (congrArg (World.drewN _) (Nat.add_assoc _ _ _))⟩); have hcz12_0 : w9.cell? ⟨gb391, 0, none⟩ = some (.int .i64 a1_0) := (blk_cell BK391.out 0).trans rfl; have hcz12_1 : w9.cell? ⟨gb391, 1, none⟩ = some (.int .i64 a1_1) := (blk_cell BK391.out 1).trans rfl; have hfz12_0 := blk_frozen BK391.out 0; have hfz12_1 := blk_frozen BK391.out 1) | (go_at_call 55; (with_reducible refine (decimal_digits.calls a1_0 t393 _ A4.out).mono ?_); rintro e w' ⟨rfl, ⟨nd, rfl⟩⟩; (try first | exact ⟨rfl, _, World.drewN_drewN _ _ _⟩ | exact ⟨rfl, _, Eq.trans (World.drewN_drewN _ _ _) (congrArg (World.drewN _) (Nat.add_assoc _ _ _))⟩)) | (go_at_call 29; (with_reducible refine (cmp_Compare_int.calls (wrap64 ((t392.size : Int) + a0_1)) (wrap64 ((t393.size : Int) + a1_1)) t394 _ A5.out).mono ?_); rintro e w' ⟨rfl, ⟨nd, rfl⟩⟩; (try first | exact ⟨rfl, _, World.drewN_drewN _ _ _⟩ | exact ⟨rfl, _, Eq.trans (World.drewN_drewN _ _ _) (congrArg (World.drewN _) (Nat.add_assoc _ _ _))⟩)) | (go_at_call 57; (with_reducible refine (strings_Compare.calls t392 t393 t395 _ A6.out).mono ?_); rintro e w' ⟨rfl, ⟨nd, rfl⟩⟩; (try first | exact ⟨rfl, _, World.drewN_drewN _ _ _⟩ | exact ⟨rfl, _, Eq.trans (World.drewN_drewN _ _ _) (congrArg (World.drewN _) (Nat.add_assoc _ _ _))⟩)) | ((with_reducible refine gate_dst (N := 27) rfl ?_); refine Kd.R_lit (Kd.int .i64) _ 3 ?hg (N := 27) ?hd (xs := ([t394, t395] : List Int)) (inner := [.int .i64 t394, .int .i64 t395]) (ok := fun _ => True) (okp := fun _ => True) ?hr ?hp (fun _ hk => hk) trivial (Below.refl _ _) (Nat.le_refl _) J33 ?_; (case hd => rfl); (case hg => rfl); (case hr => first | (go_simp; done) | (go_simp; rfl)); (case hp => exact (Reps.one (show Kd.M (Kd.int .i64) _ _ _ t394 [.int .i64 t394] from rfl) (Reps.one (show Kd.M (Kd.int .i64) _ _ _ t395 [.int .i64 t395] from rfl) (Reps.none _ _)))); intro v397 w13 ho14 hb hg_ hnew_; clear hg_ hnew_; (first | rw [← Ny396.out] at ho14 | (simp only [Int.reduceToNat] at ho14; rw [← Ny396.out] at ho14)); have n0_ := zq (Kd.R_lower ho14 (below_size (zs2 GE390.out GE391.out))); have n1_ := zq (blk_below (g := gb390) (o := .cells #[.int .i64 a0_0, .int .i64 a0_1] 40 (0, 0)) (zk BK390.out) hb); have n2_ := zq (blk_below (g := gb391) (o := .cells #[.int .i64 a1_0, .int .i64 a1_1] 40 (0, 0)) (zk BK391.out) hb); have n3_ := zq (below_step (zs2 GE390.out GE391.out) hb); clear BK390; clear BK391; clear HB; have HO398 := n0_; have BK390 := n1_; have BK391 := n2_; have HB := n3_; clear n0_ n1_ n2_ n3_; clear hb ho14; obtain ⟨Ao15, co15, eo15⟩ := Kd.R_slice HO398.out; subst eo15) | (go_at_call 56; (with_reducible refine (cmp_Or_int.calls k _ _ y396 t399 _ ?side1 ?side2 A7.out).mono ?_); (case side1 => exact zc ((Kd.R_reads' HO398.out).2.2)); (case side2 => exact (Kd.R_reads' HO398.out).2.1); rintro e w' ⟨rfl, ⟨nd, rfl⟩⟩; (try first | exact ⟨rfl, _, World.drewN_drewN _ _ _⟩ | exact ⟨rfl, _, Eq.trans (World.drewN_drewN _ _ _) (congrArg (World.drewN _) (Nat.add_assoc _ _ _))⟩))))
  go_ret
  exact ⟨J2, by repeat (first | (with_reducible first | exact HB.out | apply below_alloc | apply pw_below_drewN | apply below_drew1 | refine below_set ?_ GE390.out | refine below_set ?_ GE391.out) | exact HB.out)⟩
end Go.Proofs.YtfjhiiaahbjaiaaDoor.HSystemSigns
