/- What the Go functions of this claim answer, told as functions of numbers and lists, and that other memory stays as it was: words and walks, shortened by a program. -/
import Derived.Shelf.LaysM
import Derived.Shelf.Strconv.Itoa3
import Derived.Lib.AppendIntMem
import Derived.Test.YtfjhiiaahbjaiaaDoorRows
import Derived.Test.YtfjhiiaahbjaiaaDoorSSystemNumbersx0
import Derived.Test.YtfjhiiaahbjaiaaDoorSSystemNumbersx13
namespace Go.Proofs.YtfjhiiaahbjaiaaDoor.HSystemSigns
open Go.RowKit Go.Proofs.YtfjhiiaahbjaiaaDoorW.PrintWords Go.Proofs.YtfjhiiaahbjaiaaDoorW.PrintLast Go.Proofs.YtfjhiiaahbjaiaaDoorW.PrintMore
attribute [local go_sem] max2_int min2_int max_two min_two max_three min_three max_four min_four
set_option linter.unusedVariables false
set_option linter.unusedSimpArgs false
def system_alone.f (k : Nat) (l0 : List (S32)) : Option (Int × Int × Bool) := if 0 < (l0.length : Int) then (if (((rd_T32 l0 0).f1).length : Int) > 0 then (some (0, 0, false)) else (if ((rd_T32 l0 0).f0) = 4 then (if 0 < (((rd_T32 l0 0).f3).length : Int) then (some ((rd_T40 ((rd_T32 l0 0).f3) 0).f0, (rd_T40 ((rd_T32 l0 0).f3) 0).f1, true)) else (none)) else (if ((rd_T32 l0 0).f0) = 1 then (if 0 < (((rd_T32 l0 0).f2).length : Int) then ((decimal_Of.f k (rd ((rd_T32 l0 0).f2) 0)).bind fun bt374 => (some (bt374.1, bt374.2, true))) else (none)) else (if ((rd_T32 l0 0).f0) = 2 then (if 0 < (((rd_T32 l0 0).f2).length : Int) then ((decimal_Of.f k (rd ((rd_T32 l0 0).f2) 0)).bind fun bt377 => (some (bt377.1, bt377.2, true))) else (none)) else (some (0, 0, false)))))) else (none)
theorem system_alone.mono : ∀ a0 k, LeO (system_alone.f k a0) (system_alone.f (k + 1) a0) := by
  intro a0 k
  unfold system_alone.f
  have im0 := @decimal_Of.mono
  exact mz3
set_option maxHeartbeats 8000000 in
set_option maxRecDepth 100000 in
theorem system_alone.calls (k : Nat) (A0 : Option Addr) (c0 : Nat) (l0 : List (S32)) (r1 : Int) (r2 : Int) (r3 : Bool) (w : World) (hr0 : Kd.C k32 w A0 l0.length l0) (hc0 : l0.length ≤ c0) (h : system_alone.f k l0 = some (r1, r2, r3)) :
    Calls Tryd.prog 17 #[.slice A0 l0.length c0] w fun e w' => e = .returned (.tuple #[.agg #[.int .i64 r1, .int .i64 r2], .bool r3]) ∧ Below w.heap.size w w' := by
  have hu40 := Tryd.underlying40
  have hu32 := Tryd.underlying32
  have HR0 := zq hr0
  have HC0 := zq hc0
  clear hr0 hc0
  have HB := zq (Below.refl w.heap.size w)
  have H : (if 0 < (l0.length : Int) then (if (((rd_T32 l0 0).f1).length : Int) > 0 then (some (0, 0, false)) else (if ((rd_T32 l0 0).f0) = 4 then (if 0 < (((rd_T32 l0 0).f3).length : Int) then (some ((rd_T40 ((rd_T32 l0 0).f3) 0).f0, (rd_T40 ((rd_T32 l0 0).f3) 0).f1, true)) else (none)) else (if ((rd_T32 l0 0).f0) = 1 then (if 0 < (((rd_T32 l0 0).f2).length : Int) then ((decimal_Of.f k (rd ((rd_T32 l0 0).f2) 0)).bind fun bt374 => (some (bt374.1, bt374.2, true))) else (none)) else (if ((rd_T32 l0 0).f0) = 2 then (if 0 < (((rd_T32 l0 0).f2).length : Int) then ((decimal_Of.f k (rd ((rd_T32 l0 0).f2) 0)).bind fun bt377 => (some (bt377.1, bt377.2, true))) else (none)) else (some (0, 0, false)))))) else (none)) = some (r1, r2, r3) := h
  clear h
  by_cases c2 : 0 < (l0.length : Int)
  rotate_left
  · rw [if_neg c2] at H
    exact absurd H J32
  rw [if_pos c2] at H
  have c2b0 := decide_eq_true c2
  have c2b1 : decide (0 < l0.length) = true := decide_eq_true J26
  clear c2
  by_cases c3 : (((rd_T32 l0 0).f1).length : Int) > 0
  · rw [if_pos c3] at H
    have c3b0 := decide_eq_true c3
    have c3b1 : decide (0 < ((rd_T32 l0 0).f1).length) = true := decide_eq_true J26
    clear c3
    simp only [Option.some.injEq, Prod.mk.injEq] at H
    obtain ⟨rfl, rfl, rfl⟩ := H
    go_enter Tryd.func17, Tryd.ntmps17
    go_wp2_with (first | ((with_reducible refine gate_dst (N := 2) rfl ?_); refine bxw 2 40 #[.int .i64 0, .int .i64 0] ?_; intro gb369 hg w4 hbox hb; have BK369 := zq (hbox); have GE369 := zq ((J12 : w.heap.size ≤ gb369)); replace HB := zq (below_step J0 hb); clear hb hbox hg; have p370 : 0 ≤ (0 : Int) := J26; have q370 : 0 < (l0.length : Int) := of_decide_eq_true J3; obtain ⟨ad370, A370_1, c370_1, A370_2, c370_2, A370_3, c370_3, e370, hx370_0, hx370_1, hx370_2, hx370_3, hl370_1, hi370_1, hl370_2, hi370_2, hl370_3, hi370_3⟩ := at_T32 HR0.out 0 p370 q370; cases e370; have qi370 : (0 < l0.length) = True := eq_true J26; (try rw [show ((0 : Int)).toNat = 0 from rfl] at hx370_0); (try rw [show 0 * 4 = 0 from rfl] at hx370_0); (try rw [Addr.add_zero'] at hx370_0); (try rw [show ((0 : Int)).toNat = 0 from rfl] at hx370_1); (try rw [show 0 * 4 = 0 from rfl] at hx370_1); (try rw [Addr.add_zero'] at hx370_1); (try rw [show ((0 : Int)).toNat = 0 from rfl] at hx370_2); (try rw [show 0 * 4 = 0 from rfl] at hx370_2); (try rw [Addr.add_zero'] at hx370_2); (try rw [show ((0 : Int)).toNat = 0 from rfl] at hx370_3); (try rw [show 0 * 4 = 0 from rfl] at hx370_3); (try rw [Addr.add_zero'] at hx370_3); replace hx370_0 := (HB.out.cell (World.block_lt_of_cell? w _ hx370_0)).trans hx370_0; replace hx370_1 := (HB.out.cell (World.block_lt_of_cell? w _ hx370_1)).trans hx370_1; replace hx370_2 := (HB.out.cell (World.block_lt_of_cell? w _ hx370_2)).trans hx370_2; replace hx370_3 := (HB.out.cell (World.block_lt_of_cell? w _ hx370_3)).trans hx370_3; have HR370_1 := zq hi370_1; have HC370_1 := zq hl370_1; clear hi370_1 hl370_1; have HR370_2 := zq hi370_2; have HC370_2 := zq hl370_2; clear hi370_2 hl370_2; have HR370_3 := zq hi370_3; have HC370_3 := zq hl370_3; clear hi370_3 hl370_3; replace p370 := eq_true p370; replace q370 := eq_true q370) | ((with_reducible refine gate_dst (N := 4) rfl ?_); refine bxw 4 32 #[.int .i64 0, .slice none 0 0, .slice none 0 0, .slice none 0 0] ?_; intro gb371 hg w5 hbox hb; have BK371 := zq (hbox); have GW371 := zq ((J75 : w.heap.size ≤ gb371)); have GE371 := zq ((J75 : w.heap.size ≤ gb371)); replace HB := zq (below_step (zs1 GE369.out) hb); have NB369_371 := zq ((J67 : gb369 ≠ gb371)); have NB371_369 := zq ((J68 : gb371 ≠ gb369)); replace BK369 := zq (blk_below (g := gb369) (o := .cells #[.int .i64 0, .int .i64 0] 40 (0, 0)) (zk BK369.out) hb); clear hb hbox hg; have hnb6 := NB371_369.out; have hnc6 := NB369_371.out; obtain ⟨hcz7_0, hcz7_1, hcz7_2, hcz7_3, hfz7_0, hfz7_1, hfz7_2, hfz7_3⟩ := cz4 BK371.out; obtain ⟨hcz8_0, hcz8_1, hfz8_0, hfz8_1⟩ := cz2 BK369.out))
    refine bodyPost_ret (results_ct rfl _ _ gb369 40 #[.int .i64 0, .int .i64 0] (0, 0) _ rfl J29 Tryd.underlying40 rfl J8) rfl ?_
    exact ⟨J2, J36⟩
  rw [if_neg c3] at H
  have c3b0 := decide_eq_false c3
  have c3b1 : decide (0 < ((rd_T32 l0 0).f1).length) = false := decide_eq_false J26
  clear c3
  by_cases c9 : ((rd_T32 l0 0).f0) = 4
  · rw [if_pos c9] at H
    have c9b0 : (((rd_T32 l0 0).f0) == 4) = true := beq_iff_eq.mpr c9
    have c9b1 : (((rd_T32 l0 0).f0) != 4) = false := bne_eq_false_iff_eq.mpr c9
    clear c9
    by_cases c10 : 0 < (((rd_T32 l0 0).f3).length : Int)
    · rw [if_pos c10] at H
      have c10b0 := decide_eq_true c10
      have c10b1 : decide (0 < ((rd_T32 l0 0).f3).length) = true := decide_eq_true J26
      clear c10
      simp only [Option.some.injEq, Prod.mk.injEq] at H
      obtain ⟨rfl, rfl, rfl⟩ := H
      go_enter Tryd.func17, Tryd.ntmps17
      go_wp2_with (first | ((with_reducible refine gate_dst (N := 2) rfl ?_); refine bxw 2 40 #[.int .i64 0, .int .i64 0] ?_; intro gb369 hg w11 hbox hb; have BK369 := zq (hbox); have GE369 := zq ((J12 : w.heap.size ≤ gb369)); replace HB := zq (below_step J0 hb); clear hb hbox hg; have p370 : 0 ≤ (0 : Int) := J26; have q370 : 0 < (l0.length : Int) := of_decide_eq_true J3; obtain ⟨ad370, A370_1, c370_1, A370_2, c370_2, A370_3, c370_3, e370, hx370_0, hx370_1, hx370_2, hx370_3, hl370_1, hi370_1, hl370_2, hi370_2, hl370_3, hi370_3⟩ := at_T32 HR0.out 0 p370 q370; cases e370; have qi370 : (0 < l0.length) = True := eq_true J26; (try rw [show ((0 : Int)).toNat = 0 from rfl] at hx370_0); (try rw [show 0 * 4 = 0 from rfl] at hx370_0); (try rw [Addr.add_zero'] at hx370_0); (try rw [show ((0 : Int)).toNat = 0 from rfl] at hx370_1); (try rw [show 0 * 4 = 0 from rfl] at hx370_1); (try rw [Addr.add_zero'] at hx370_1); (try rw [show ((0 : Int)).toNat = 0 from rfl] at hx370_2); (try rw [show 0 * 4 = 0 from rfl] at hx370_2); (try rw [Addr.add_zero'] at hx370_2); (try rw [show ((0 : Int)).toNat = 0 from rfl] at hx370_3); (try rw [show 0 * 4 = 0 from rfl] at hx370_3); (try rw [Addr.add_zero'] at hx370_3); replace hx370_0 := (HB.out.cell (World.block_lt_of_cell? w _ hx370_0)).trans hx370_0; replace hx370_1 := (HB.out.cell (World.block_lt_of_cell? w _ hx370_1)).trans hx370_1; replace hx370_2 := (HB.out.cell (World.block_lt_of_cell? w _ hx370_2)).trans hx370_2; replace hx370_3 := (HB.out.cell (World.block_lt_of_cell? w _ hx370_3)).trans hx370_3; have HR370_1 := zq hi370_1; have HC370_1 := zq hl370_1; clear hi370_1 hl370_1; have HR370_2 := zq hi370_2; have HC370_2 := zq hl370_2; clear hi370_2 hl370_2; have HR370_3 := zq hi370_3; have HC370_3 := zq hl370_3; clear hi370_3 hl370_3; replace p370 := eq_true p370; replace q370 := eq_true q370) | ((with_reducible refine gate_dst (N := 4) rfl ?_); refine bxw 4 32 #[.int .i64 0, .slice none 0 0, .slice none 0 0, .slice none 0 0] ?_; intro gb371 hg w12 hbox hb; have BK371 := zq (hbox); have GW371 := zq ((J75 : w.heap.size ≤ gb371)); have GE371 := zq ((J75 : w.heap.size ≤ gb371)); replace HB := zq (below_step (zs1 GE369.out) hb); have NB369_371 := zq ((J67 : gb369 ≠ gb371)); have NB371_369 := zq ((J68 : gb371 ≠ gb369)); replace BK369 := zq (blk_below (g := gb369) (o := .cells #[.int .i64 0, .int .i64 0] 40 (0, 0)) (zk BK369.out) hb); clear hb hbox hg; have hnb13 := NB371_369.out; have hnc13 := NB369_371.out; obtain ⟨hcz14_0, hcz14_1, hcz14_2, hcz14_3, hfz14_0, hfz14_1, hfz14_2, hfz14_3⟩ := cz4 BK371.out; have p372 : 0 ≤ (0 : Int) := J26; have q372 : 0 < (((rd_T32 l0 0).f3).length : Int) := of_decide_eq_true J3; obtain ⟨ad372, e372, hx372_0, hx372_1⟩ := at_T40 HR370_3.out 0 p372 q372; cases e372; have qi372 : (0 < ((rd_T32 l0 0).f3).length) = True := eq_true J26; (try rw [show ((0 : Int)).toNat = 0 from rfl] at hx372_0); (try rw [show 0 * 2 = 0 from rfl] at hx372_0); (try rw [Addr.add_zero'] at hx372_0); (try rw [show ((0 : Int)).toNat = 0 from rfl] at hx372_1); (try rw [show 0 * 2 = 0 from rfl] at hx372_1); (try rw [Addr.add_zero'] at hx372_1); have hn372_0 : ad372.block ≠ gb371 := Nat.ne_of_lt (Nat.lt_of_lt_of_le J84 GW371.out); have hn372_1 : ad372.block ≠ gb371 := Nat.ne_of_lt (Nat.lt_of_lt_of_le J84 GW371.out); have hn372_2 : ad372.block ≠ gb371 := Nat.ne_of_lt (Nat.lt_of_lt_of_le J84 GW371.out); have hn372_3 : ad372.block ≠ gb371 := Nat.ne_of_lt (Nat.lt_of_lt_of_le J84 GW371.out); replace hx372_0 := (HB.out.cell (World.block_lt_of_cell? w _ hx372_0)).trans hx372_0; replace hx372_1 := (HB.out.cell (World.block_lt_of_cell? w _ hx372_1)).trans hx372_1; replace hx372_0 := (cell_far (p := ⟨gb371, 0, none⟩) (zb hn372_0) (.int .i64 ((rd_T32 l0 0).f0))).trans hx372_0; replace hx372_1 := (cell_far (p := ⟨gb371, 0, none⟩) (zb hn372_0) (.int .i64 ((rd_T32 l0 0).f0))).trans hx372_1; replace hx372_0 := (cell_far (p := ⟨gb371, 1, none⟩) (zb hn372_1) (.slice A370_1 ((rd_T32 l0 0).f1).length c370_1)).trans hx372_0; replace hx372_1 := (cell_far (p := ⟨gb371, 1, none⟩) (zb hn372_1) (.slice A370_1 ((rd_T32 l0 0).f1).length c370_1)).trans hx372_1; replace hx372_0 := (cell_far (p := ⟨gb371, 2, none⟩) (zb hn372_2) (.slice A370_2 ((rd_T32 l0 0).f2).length c370_2)).trans hx372_0; replace hx372_1 := (cell_far (p := ⟨gb371, 2, none⟩) (zb hn372_2) (.slice A370_2 ((rd_T32 l0 0).f2).length c370_2)).trans hx372_1; replace hx372_0 := (cell_far (p := ⟨gb371, 3, none⟩) (zb hn372_3) (.slice (some ad372) ((rd_T32 l0 0).f3).length c370_3)).trans hx372_0; replace hx372_1 := (cell_far (p := ⟨gb371, 3, none⟩) (zb hn372_3) (.slice (some ad372) ((rd_T32 l0 0).f3).length c370_3)).trans hx372_1; clear hn372_0; clear hn372_1; clear hn372_2; clear hn372_3; replace p372 := eq_true p372; replace q372 := eq_true q372; obtain ⟨hcz15_0, hcz15_1, hfz15_0, hfz15_1⟩ := cz2 BK369.out))
      refine bodyPost_ret (results_ct rfl _ _ gb369 40 #[.int .i64 ((rd_T40 ((rd_T32 l0 0).f3) 0).f0), .int .i64 ((rd_T40 ((rd_T32 l0 0).f3) 0).f1)] (0, 0) _ rfl (by (with_reducible repeat (first | refine blk_drewN ?_ _ | refine blk_drew ?_ | refine blk_alloc ?_ _)); refine blk_put (cs := #[.int .i64 ((rd_T40 ((rd_T32 l0 0).f3) 0).f0), .int .i64 0]) ?_ 1 _ rfl; (with_reducible repeat (first | refine blk_drewN ?_ _ | refine blk_drew ?_ | refine blk_alloc ?_ _)); refine blk_put (cs := #[.int .i64 0, .int .i64 0]) ?_ 0 _ rfl; (with_reducible repeat (first | refine blk_drewN ?_ _ | refine blk_drew ?_ | refine blk_alloc ?_ _)); refine blk_far ?_ NB369_371.out _; (with_reducible repeat (first | refine blk_drewN ?_ _ | refine blk_drew ?_ | refine blk_alloc ?_ _)); refine blk_far ?_ NB369_371.out _; (with_reducible repeat (first | refine blk_drewN ?_ _ | refine blk_drew ?_ | refine blk_alloc ?_ _)); refine blk_far ?_ NB369_371.out _; (with_reducible repeat (first | refine blk_drewN ?_ _ | refine blk_drew ?_ | refine blk_alloc ?_ _)); refine blk_far ?_ NB369_371.out _; (with_reducible repeat (first | refine blk_drewN ?_ _ | refine blk_drew ?_ | refine blk_alloc ?_ _)); exact BK369.out) Tryd.underlying40 rfl J8) rfl ?_
      exact ⟨J2, J36⟩
    · rw [if_neg c10] at H
      exact absurd H J32
  rw [if_neg c9] at H
  have c9b0 : (((rd_T32 l0 0).f0) == 4) = false := beq_eq_false_iff_ne.mpr c9
  have c9b1 : (((rd_T32 l0 0).f0) != 4) = true := bne_iff_ne.mpr c9
  by_cases c16 : ((rd_T32 l0 0).f0) = 1
  · rw [if_pos c16] at H
    have c16b0 : (((rd_T32 l0 0).f0) == 1) = true := beq_iff_eq.mpr c16
    have c16b1 : (((rd_T32 l0 0).f0) != 1) = false := bne_eq_false_iff_eq.mpr c16
    clear c16
    by_cases c17 : 0 < (((rd_T32 l0 0).f2).length : Int)
    · rw [if_pos c17] at H
      have c17b0 := decide_eq_true c17
      have c17b1 : decide (0 < ((rd_T32 l0 0).f2).length) = true := decide_eq_true J26
      clear c17
      replace H := Option.bind_eq_some_iff.mp H
      obtain ⟨⟨t374, t375⟩, A180, H⟩ := H
      dsimp only at H
      have A18 := zq A180
      clear A180
      simp only [Option.some.injEq, Prod.mk.injEq] at H
      obtain ⟨rfl, rfl, rfl⟩ := H
      go_enter Tryd.func17, Tryd.ntmps17
      go_wp2_with (first | ((with_reducible refine gate_dst (N := 2) rfl ?_); refine bxw 2 40 #[.int .i64 0, .int .i64 0] ?_; intro gb369 hg w19 hbox hb; have BK369 := zq (hbox); have GE369 := zq ((J12 : w.heap.size ≤ gb369)); replace HB := zq (below_step J0 hb); clear hb hbox hg; have p370 : 0 ≤ (0 : Int) := J26; have q370 : 0 < (l0.length : Int) := of_decide_eq_true J3; obtain ⟨ad370, A370_1, c370_1, A370_2, c370_2, A370_3, c370_3, e370, hx370_0, hx370_1, hx370_2, hx370_3, hl370_1, hi370_1, hl370_2, hi370_2, hl370_3, hi370_3⟩ := at_T32 HR0.out 0 p370 q370; cases e370; have qi370 : (0 < l0.length) = True := eq_true J26; (try rw [show ((0 : Int)).toNat = 0 from rfl] at hx370_0); (try rw [show 0 * 4 = 0 from rfl] at hx370_0); (try rw [Addr.add_zero'] at hx370_0); (try rw [show ((0 : Int)).toNat = 0 from rfl] at hx370_1); (try rw [show 0 * 4 = 0 from rfl] at hx370_1); (try rw [Addr.add_zero'] at hx370_1); (try rw [show ((0 : Int)).toNat = 0 from rfl] at hx370_2); (try rw [show 0 * 4 = 0 from rfl] at hx370_2); (try rw [Addr.add_zero'] at hx370_2); (try rw [show ((0 : Int)).toNat = 0 from rfl] at hx370_3); (try rw [show 0 * 4 = 0 from rfl] at hx370_3); (try rw [Addr.add_zero'] at hx370_3); replace hx370_0 := (HB.out.cell (World.block_lt_of_cell? w _ hx370_0)).trans hx370_0; replace hx370_1 := (HB.out.cell (World.block_lt_of_cell? w _ hx370_1)).trans hx370_1; replace hx370_2 := (HB.out.cell (World.block_lt_of_cell? w _ hx370_2)).trans hx370_2; replace hx370_3 := (HB.out.cell (World.block_lt_of_cell? w _ hx370_3)).trans hx370_3; have HR370_1 := zq hi370_1; have HC370_1 := zq hl370_1; clear hi370_1 hl370_1; have HR370_2 := zq hi370_2; have HC370_2 := zq hl370_2; clear hi370_2 hl370_2; have HR370_3 := zq hi370_3; have HC370_3 := zq hl370_3; clear hi370_3 hl370_3; replace p370 := eq_true p370; replace q370 := eq_true q370) | ((with_reducible refine gate_dst (N := 4) rfl ?_); refine bxw 4 32 #[.int .i64 0, .slice none 0 0, .slice none 0 0, .slice none 0 0] ?_; intro gb371 hg w20 hbox hb; have BK371 := zq (hbox); have GW371 := zq ((J75 : w.heap.size ≤ gb371)); have GE371 := zq ((J75 : w.heap.size ≤ gb371)); replace HB := zq (below_step (zs1 GE369.out) hb); have NB369_371 := zq ((J67 : gb369 ≠ gb371)); have NB371_369 := zq ((J68 : gb371 ≠ gb369)); replace BK369 := zq (blk_below (g := gb369) (o := .cells #[.int .i64 0, .int .i64 0] 40 (0, 0)) (zk BK369.out) hb); clear hb hbox hg; have hnb21 := NB371_369.out; have hnc21 := NB369_371.out; obtain ⟨hcz22_0, hcz22_1, hcz22_2, hcz22_3, hfz22_0, hfz22_1, hfz22_2, hfz22_3⟩ := cz4 BK371.out; have p373 : 0 ≤ (0 : Int) := J26; have q373 : 0 < (((rd_T32 l0 0).f2).length : Int) := of_decide_eq_true J3; obtain ⟨ad373, e373, hx373_0⟩ := Kd.at_int HR370_2.out 0 p373 q373; cases e373; have qi373 : (0 < ((rd_T32 l0 0).f2).length) = True := eq_true J26; (try rw [show ((0 : Int)).toNat = 0 from rfl] at hx373_0); (try rw [Addr.add_zero'] at hx373_0); have hn373_0 : ad373.block ≠ gb371 := Nat.ne_of_lt (Nat.lt_of_lt_of_le J85 GW371.out); have hn373_1 : ad373.block ≠ gb371 := Nat.ne_of_lt (Nat.lt_of_lt_of_le J85 GW371.out); have hn373_2 : ad373.block ≠ gb371 := Nat.ne_of_lt (Nat.lt_of_lt_of_le J85 GW371.out); have hn373_3 : ad373.block ≠ gb371 := Nat.ne_of_lt (Nat.lt_of_lt_of_le J85 GW371.out); replace hx373_0 := (HB.out.cell (World.block_lt_of_cell? w _ hx373_0)).trans hx373_0; replace hx373_0 := (cell_far (p := ⟨gb371, 0, none⟩) (zb hn373_0) (.int .i64 ((rd_T32 l0 0).f0))).trans hx373_0; replace hx373_0 := (cell_far (p := ⟨gb371, 1, none⟩) (zb hn373_1) (.slice A370_1 ((rd_T32 l0 0).f1).length c370_1)).trans hx373_0; replace hx373_0 := (cell_far (p := ⟨gb371, 2, none⟩) (zb hn373_2) (.slice (some ad373) ((rd_T32 l0 0).f2).length c370_2)).trans hx373_0; replace hx373_0 := (cell_far (p := ⟨gb371, 3, none⟩) (zb hn373_3) (.slice A370_3 ((rd_T32 l0 0).f3).length c370_3)).trans hx373_0; clear hn373_0; clear hn373_1; clear hn373_2; clear hn373_3; replace p373 := eq_true p373; replace q373 := eq_true q373) | ((with_reducible refine gate_callee (f := 22) rfl ?_); refine goesL_ (some 33) rfl rfl Tryd.func22 J8 rfl #[.int .i64 (rd ((rd_T32 l0 0).f2) 0)] rfl J1 ?_; (with_reducible refine (decimal_Of.calls k (rd ((rd_T32 l0 0).f2) 0) t374 t375 _ A18.out).mono ?_); rintro e w23 ⟨rfl, hb⟩; refine ⟨_, rfl, ?_⟩; replace BK369 := zq (blk_below (g := gb369) (o := .cells #[.int .i64 0, .int .i64 0] 40 (0, 0)) J40 hb); replace BK371 := zq (blk_below (g := gb371) (o := .cells #[.int .i64 ((rd_T32 l0 0).f0), .slice A370_1 ((rd_T32 l0 0).f1).length c370_1, .slice (some ad373) ((rd_T32 l0 0).f2).length c370_2, .slice A370_3 ((rd_T32 l0 0).f3).length c370_3] 32 (0, 0)) (by (with_reducible repeat (first | refine blk_drewN ?_ _ | refine blk_drew ?_ | refine blk_alloc ?_ _)); refine blk_put (cs := #[.int .i64 ((rd_T32 l0 0).f0), .slice A370_1 ((rd_T32 l0 0).f1).length c370_1, .slice (some ad373) ((rd_T32 l0 0).f2).length c370_2, .slice none 0 0]) ?_ 3 _ rfl; (with_reducible repeat (first | refine blk_drewN ?_ _ | refine blk_drew ?_ | refine blk_alloc ?_ _)); refine blk_put (cs := #[.int .i64 ((rd_T32 l0 0).f0), .slice A370_1 ((rd_T32 l0 0).f1).length c370_1, .slice none 0 0, .slice none 0 0]) ?_ 2 _ rfl; (with_reducible repeat (first | refine blk_drewN ?_ _ | refine blk_drew ?_ | refine blk_alloc ?_ _)); refine blk_put (cs := #[.int .i64 ((rd_T32 l0 0).f0), .slice none 0 0, .slice none 0 0, .slice none 0 0]) ?_ 1 _ rfl; (with_reducible repeat (first | refine blk_drewN ?_ _ | refine blk_drew ?_ | refine blk_alloc ?_ _)); refine blk_put (cs := #[.int .i64 0, .slice none 0 0, .slice none 0 0, .slice none 0 0]) ?_ 0 _ rfl; (with_reducible repeat (first | refine blk_drewN ?_ _ | refine blk_drew ?_ | refine blk_alloc ?_ _)); exact BK371.out) hb); replace HB := zq (below_step (zs2 GE369.out GE371.out) hb); (try clear hb); obtain ⟨hcz24_0, hcz24_1, hfz24_0, hfz24_1⟩ := cz2 BK369.out))
      refine bodyPost_ret (results_ct rfl _ _ gb369 40 #[.int .i64 t374, .int .i64 t375] (0, 0) _ rfl (by (with_reducible repeat (first | refine blk_drewN ?_ _ | refine blk_drew ?_ | refine blk_alloc ?_ _)); refine blk_put (cs := #[.int .i64 t374, .int .i64 0]) ?_ 1 _ rfl; (with_reducible repeat (first | refine blk_drewN ?_ _ | refine blk_drew ?_ | refine blk_alloc ?_ _)); refine blk_put (cs := #[.int .i64 0, .int .i64 0]) ?_ 0 _ rfl; (with_reducible repeat (first | refine blk_drewN ?_ _ | refine blk_drew ?_ | refine blk_alloc ?_ _)); exact BK369.out) Tryd.underlying40 rfl J8) rfl ?_
      exact ⟨J2, J36⟩
    · rw [if_neg c17] at H
      exact absurd H J32
  rw [if_neg c16] at H
  have c16b0 : (((rd_T32 l0 0).f0) == 1) = false := beq_eq_false_iff_ne.mpr c16
  have c16b1 : (((rd_T32 l0 0).f0) != 1) = true := bne_iff_ne.mpr c16
  by_cases c25 : ((rd_T32 l0 0).f0) = 2
  rotate_left
  · rw [if_neg c25] at H
    have c25b0 : (((rd_T32 l0 0).f0) == 2) = false := beq_eq_false_iff_ne.mpr c25
    have c25b1 : (((rd_T32 l0 0).f0) != 2) = true := bne_iff_ne.mpr c25
    simp only [Option.some.injEq, Prod.mk.injEq] at H
    obtain ⟨rfl, rfl, rfl⟩ := H
    go_enter Tryd.func17, Tryd.ntmps17
    go_wp2_with (first | ((with_reducible refine gate_dst (N := 2) rfl ?_); refine bxw 2 40 #[.int .i64 0, .int .i64 0] ?_; intro gb369 hg w34 hbox hb; have BK369 := zq (hbox); have GE369 := zq ((J12 : w.heap.size ≤ gb369)); replace HB := zq (below_step J0 hb); clear hb hbox hg; have p370 : 0 ≤ (0 : Int) := J26; have q370 : 0 < (l0.length : Int) := of_decide_eq_true J3; obtain ⟨ad370, A370_1, c370_1, A370_2, c370_2, A370_3, c370_3, e370, hx370_0, hx370_1, hx370_2, hx370_3, hl370_1, hi370_1, hl370_2, hi370_2, hl370_3, hi370_3⟩ := at_T32 HR0.out 0 p370 q370; cases e370; have qi370 : (0 < l0.length) = True := eq_true J26; (try rw [show ((0 : Int)).toNat = 0 from rfl] at hx370_0); (try rw [show 0 * 4 = 0 from rfl] at hx370_0); (try rw [Addr.add_zero'] at hx370_0); (try rw [show ((0 : Int)).toNat = 0 from rfl] at hx370_1); (try rw [show 0 * 4 = 0 from rfl] at hx370_1); (try rw [Addr.add_zero'] at hx370_1); (try rw [show ((0 : Int)).toNat = 0 from rfl] at hx370_2); (try rw [show 0 * 4 = 0 from rfl] at hx370_2); (try rw [Addr.add_zero'] at hx370_2); (try rw [show ((0 : Int)).toNat = 0 from rfl] at hx370_3); (try rw [show 0 * 4 = 0 from rfl] at hx370_3); (try rw [Addr.add_zero'] at hx370_3); replace hx370_0 := (HB.out.cell (World.block_lt_of_cell? w _ hx370_0)).trans hx370_0; replace hx370_1 := (HB.out.cell (World.block_lt_of_cell? w _ hx370_1)).trans hx370_1; replace hx370_2 := (HB.out.cell (World.block_lt_of_cell? w _ hx370_2)).trans hx370_2; replace hx370_3 := (HB.out.cell (World.block_lt_of_cell? w _ hx370_3)).trans hx370_3; have HR370_1 := zq hi370_1; have HC370_1 := zq hl370_1; clear hi370_1 hl370_1; have HR370_2 := zq hi370_2; have HC370_2 := zq hl370_2; clear hi370_2 hl370_2; have HR370_3 := zq hi370_3; have HC370_3 := zq hl370_3; clear hi370_3 hl370_3; replace p370 := eq_true p370; replace q370 := eq_true q370) | ((with_reducible refine gate_dst (N := 4) rfl ?_); refine bxw 4 32 #[.int .i64 0, .slice none 0 0, .slice none 0 0, .slice none 0 0] ?_; intro gb371 hg w35 hbox hb; have BK371 := zq (hbox); have GE371 := zq ((J75 : w.heap.size ≤ gb371)); replace HB := zq (below_step (zs1 GE369.out) hb); have NB369_371 := zq ((J67 : gb369 ≠ gb371)); have NB371_369 := zq ((J68 : gb371 ≠ gb369)); replace BK369 := zq (blk_below (g := gb369) (o := .cells #[.int .i64 0, .int .i64 0] 40 (0, 0)) (zk BK369.out) hb); clear hb hbox hg; have hnb36 := NB371_369.out; have hnc36 := NB369_371.out; obtain ⟨hcz37_0, hcz37_1, hcz37_2, hcz37_3, hfz37_0, hfz37_1, hfz37_2, hfz37_3⟩ := cz4 BK371.out; obtain ⟨hcz38_0, hcz38_1, hfz38_0, hfz38_1⟩ := cz2 BK369.out))
    refine bodyPost_ret (results_ct rfl _ _ gb369 40 #[.int .i64 0, .int .i64 0] (0, 0) _ rfl J29 Tryd.underlying40 rfl J8) rfl ?_
    exact ⟨J2, J36⟩
  rw [if_pos c25] at H
  have c25b0 : (((rd_T32 l0 0).f0) == 2) = true := beq_iff_eq.mpr c25
  have c25b1 : (((rd_T32 l0 0).f0) != 2) = false := bne_eq_false_iff_eq.mpr c25
  clear c25
  by_cases c26 : 0 < (((rd_T32 l0 0).f2).length : Int)
  rotate_left
  · rw [if_neg c26] at H
    exact absurd H J32
  rw [if_pos c26] at H
  have c26b0 := decide_eq_true c26
  have c26b1 : decide (0 < ((rd_T32 l0 0).f2).length) = true := decide_eq_true J26
  clear c26
  replace H := Option.bind_eq_some_iff.mp H
  obtain ⟨⟨t377, t378⟩, A270, H⟩ := H
  dsimp only at H
  have A27 := zq A270
  clear A270
  simp only [Option.some.injEq, Prod.mk.injEq] at H
  obtain ⟨rfl, rfl, rfl⟩ := H
  go_enter Tryd.func17, Tryd.ntmps17
  go_wp2_with (first | ((with_reducible refine gate_dst (N := 2) rfl ?_); refine bxw 2 40 #[.int .i64 0, .int .i64 0] ?_; intro gb369 hg w28 hbox hb; have BK369 := zq (hbox); have GE369 := zq ((J12 : w.heap.size ≤ gb369)); replace HB := zq (below_step J0 hb); clear hb hbox hg; have p370 : 0 ≤ (0 : Int) := J26; have q370 : 0 < (l0.length : Int) := of_decide_eq_true J3; obtain ⟨ad370, A370_1, c370_1, A370_2, c370_2, A370_3, c370_3, e370, hx370_0, hx370_1, hx370_2, hx370_3, hl370_1, hi370_1, hl370_2, hi370_2, hl370_3, hi370_3⟩ := at_T32 HR0.out 0 p370 q370; cases e370; have qi370 : (0 < l0.length) = True := eq_true J26; (try rw [show ((0 : Int)).toNat = 0 from rfl] at hx370_0); (try rw [show 0 * 4 = 0 from rfl] at hx370_0); (try rw [Addr.add_zero'] at hx370_0); (try rw [show ((0 : Int)).toNat = 0 from rfl] at hx370_1); (try rw [show 0 * 4 = 0 from rfl] at hx370_1); (try rw [Addr.add_zero'] at hx370_1); (try rw [show ((0 : Int)).toNat = 0 from rfl] at hx370_2); (try rw [show 0 * 4 = 0 from rfl] at hx370_2); (try rw [Addr.add_zero'] at hx370_2); (try rw [show ((0 : Int)).toNat = 0 from rfl] at hx370_3); (try rw [show 0 * 4 = 0 from rfl] at hx370_3); (try rw [Addr.add_zero'] at hx370_3); replace hx370_0 := (HB.out.cell (World.block_lt_of_cell? w _ hx370_0)).trans hx370_0; replace hx370_1 := (HB.out.cell (World.block_lt_of_cell? w _ hx370_1)).trans hx370_1; replace hx370_2 := (HB.out.cell (World.block_lt_of_cell? w _ hx370_2)).trans hx370_2; replace hx370_3 := (HB.out.cell (World.block_lt_of_cell? w _ hx370_3)).trans hx370_3; have HR370_1 := zq hi370_1; have HC370_1 := zq hl370_1; clear hi370_1 hl370_1; have HR370_2 := zq hi370_2; have HC370_2 := zq hl370_2; clear hi370_2 hl370_2; have HR370_3 := zq hi370_3; have HC370_3 := zq hl370_3; clear hi370_3 hl370_3; replace p370 := eq_true p370; replace q370 := eq_true q370) | ((with_reducible refine gate_dst (N := 4) rfl ?_); refine bxw 4 32 #[.int .i64 0, .slice none 0 0, .slice none 0 0, .slice none 0 0] ?_; intro gb371 hg w29 hbox hb; have BK371 := zq (hbox); have GW371 := zq ((J75 : w.heap.size ≤ gb371)); have GE371 := zq ((J75 : w.heap.size ≤ gb371)); replace HB := zq (below_step (zs1 GE369.out) hb); have NB369_371 := zq ((J67 : gb369 ≠ gb371)); have NB371_369 := zq ((J68 : gb371 ≠ gb369)); replace BK369 := zq (blk_below (g := gb369) (o := .cells #[.int .i64 0, .int .i64 0] 40 (0, 0)) (zk BK369.out) hb); clear hb hbox hg; have hnb30 := NB371_369.out; have hnc30 := NB369_371.out; obtain ⟨hcz31_0, hcz31_1, hcz31_2, hcz31_3, hfz31_0, hfz31_1, hfz31_2, hfz31_3⟩ := cz4 BK371.out; have p376 : 0 ≤ (0 : Int) := J26; have q376 : 0 < (((rd_T32 l0 0).f2).length : Int) := of_decide_eq_true J3; obtain ⟨ad376, e376, hx376_0⟩ := Kd.at_int HR370_2.out 0 p376 q376; cases e376; have qi376 : (0 < ((rd_T32 l0 0).f2).length) = True := eq_true J26; (try rw [show ((0 : Int)).toNat = 0 from rfl] at hx376_0); (try rw [Addr.add_zero'] at hx376_0); have hn376_0 : ad376.block ≠ gb371 := Nat.ne_of_lt (Nat.lt_of_lt_of_le J86 GW371.out); have hn376_1 : ad376.block ≠ gb371 := Nat.ne_of_lt (Nat.lt_of_lt_of_le J86 GW371.out); have hn376_2 : ad376.block ≠ gb371 := Nat.ne_of_lt (Nat.lt_of_lt_of_le J86 GW371.out); have hn376_3 : ad376.block ≠ gb371 := Nat.ne_of_lt (Nat.lt_of_lt_of_le J86 GW371.out); replace hx376_0 := (HB.out.cell (World.block_lt_of_cell? w _ hx376_0)).trans hx376_0; replace hx376_0 := (cell_far (p := ⟨gb371, 0, none⟩) (zb hn376_0) (.int .i64 ((rd_T32 l0 0).f0))).trans hx376_0; replace hx376_0 := (cell_far (p := ⟨gb371, 1, none⟩) (zb hn376_1) (.slice A370_1 ((rd_T32 l0 0).f1).length c370_1)).trans hx376_0; replace hx376_0 := (cell_far (p := ⟨gb371, 2, none⟩) (zb hn376_2) (.slice (some ad376) ((rd_T32 l0 0).f2).length c370_2)).trans hx376_0; replace hx376_0 := (cell_far (p := ⟨gb371, 3, none⟩) (zb hn376_3) (.slice A370_3 ((rd_T32 l0 0).f3).length c370_3)).trans hx376_0; clear hn376_0; clear hn376_1; clear hn376_2; clear hn376_3; replace p376 := eq_true p376; replace q376 := eq_true q376) | ((with_reducible refine gate_callee (f := 22) rfl ?_); refine goesL_ (some 33) rfl rfl Tryd.func22 J8 rfl #[.int .i64 (rd ((rd_T32 l0 0).f2) 0)] rfl J1 ?_; (with_reducible refine (decimal_Of.calls k (rd ((rd_T32 l0 0).f2) 0) t377 t378 _ A27.out).mono ?_); rintro e w32 ⟨rfl, hb⟩; refine ⟨_, rfl, ?_⟩; replace BK369 := zq (blk_below (g := gb369) (o := .cells #[.int .i64 0, .int .i64 0] 40 (0, 0)) J40 hb); replace BK371 := zq (blk_below (g := gb371) (o := .cells #[.int .i64 ((rd_T32 l0 0).f0), .slice A370_1 ((rd_T32 l0 0).f1).length c370_1, .slice (some ad376) ((rd_T32 l0 0).f2).length c370_2, .slice A370_3 ((rd_T32 l0 0).f3).length c370_3] 32 (0, 0)) (by (with_reducible repeat (first | refine blk_drewN ?_ _ | refine blk_drew ?_ | refine blk_alloc ?_ _)); refine blk_put (cs := #[.int .i64 ((rd_T32 l0 0).f0), .slice A370_1 ((rd_T32 l0 0).f1).length c370_1, .slice (some ad376) ((rd_T32 l0 0).f2).length c370_2, .slice none 0 0]) ?_ 3 _ rfl; (with_reducible repeat (first | refine blk_drewN ?_ _ | refine blk_drew ?_ | refine blk_alloc ?_ _)); refine blk_put (cs := #[.int .i64 ((rd_T32 l0 0).f0), .slice A370_1 ((rd_T32 l0 0).f1).length c370_1, .slice none 0 0, .slice none 0 0]) ?_ 2 _ rfl; (with_reducible repeat (first | refine blk_drewN ?_ _ | refine blk_drew ?_ | refine blk_alloc ?_ _)); refine blk_put (cs := #[.int .i64 ((rd_T32 l0 0).f0), .slice none 0 0, .slice none 0 0, .slice none 0 0]) ?_ 1 _ rfl; (with_reducible repeat (first | refine blk_drewN ?_ _ | refine blk_drew ?_ | refine blk_alloc ?_ _)); refine blk_put (cs := #[.int .i64 0, .slice none 0 0, .slice none 0 0, .slice none 0 0]) ?_ 0 _ rfl; (with_reducible repeat (first | refine blk_drewN ?_ _ | refine blk_drew ?_ | refine blk_alloc ?_ _)); exact BK371.out) hb); replace HB := zq (below_step (zs2 GE369.out GE371.out) hb); (try clear hb); obtain ⟨hcz33_0, hcz33_1, hfz33_0, hfz33_1⟩ := cz2 BK369.out))
  refine bodyPost_ret (results_ct rfl _ _ gb369 40 #[.int .i64 t377, .int .i64 t378] (0, 0) _ rfl (by (with_reducible repeat (first | refine blk_drewN ?_ _ | refine blk_drew ?_ | refine blk_alloc ?_ _)); refine blk_put (cs := #[.int .i64 t377, .int .i64 0]) ?_ 1 _ rfl; (with_reducible repeat (first | refine blk_drewN ?_ _ | refine blk_drew ?_ | refine blk_alloc ?_ _)); refine blk_put (cs := #[.int .i64 0, .int .i64 0]) ?_ 0 _ rfl; (with_reducible repeat (first | refine blk_drewN ?_ _ | refine blk_drew ?_ | refine blk_alloc ?_ _)); exact BK369.out) Tryd.underlying40 rfl J8) rfl ?_
  exact ⟨J2, J36⟩
def cmp_isNaN_int.f (a0 : Int) : Option (Bool) := some (a0 != a0)
set_option maxHeartbeats 8000000 in
set_option maxRecDepth 100000 in
theorem cmp_isNaN_int.calls (a0 : Int) (r : Bool) (w : World) (h : cmp_isNaN_int.f a0 = some r) :
    Calls Tryd.prog 54 #[.int .i64 a0] w fun e w' => e = .returned (.bool r) ∧ Drawn0 w w' := by
  have H : (some (a0 != a0)) = some r := h
  clear h
  obtain rfl := Option.some.inj H
  go_enter Tryd.func54, Tryd.ntmps54
  go_wp2
  go_ret
  exact ⟨J4, J7⟩
def cmp_Compare_int.f (a0 : Int) (a1 : Int) : Option (Int) := (cmp_isNaN_int.f a0).bind fun t379 => ((cmp_isNaN_int.f a1).bind fun t380 => (if t379 = true then (if t380 = true then (some 0) else (some (-1))) else (if t380 = true then (some 1) else (if a0 < a1 then (some (-1)) else (if a0 > a1 then (some 1) else (some 0))))))
set_option maxHeartbeats 8000000 in
set_option maxRecDepth 100000 in
theorem cmp_Compare_int.calls (a0 : Int) (a1 : Int) (r : Int) (w : World) (h : cmp_Compare_int.f a0 a1 = some r) :
    Calls Tryd.prog 29 #[.int .i64 a0, .int .i64 a1] w fun e w' => e = .returned (.int .i64 r) ∧ Drawn0 w w' := by
  have H : ((cmp_isNaN_int.f a0).bind fun t379 => ((cmp_isNaN_int.f a1).bind fun t380 => (if t379 = true then (if t380 = true then (some 0) else (some (-1))) else (if t380 = true then (some 1) else (if a0 < a1 then (some (-1)) else (if a0 > a1 then (some 1) else (some 0))))))) = some r := h
  clear h
  replace H := Option.bind_eq_some_iff.mp H
  obtain ⟨t379, A30, H⟩ := H
  have A3 := zq A30
  clear A30
  replace H := Option.bind_eq_some_iff.mp H
  obtain ⟨t380, A40, H⟩ := H
  have A4 := zq A40
  clear A40
  by_cases c5 : t379 = true
  · subst c5
    rw [if_pos rfl] at H
    by_cases c6 : t380 = true
    · subst c6
      rw [if_pos rfl] at H
      obtain rfl := Option.some.inj H
      go_enter Tryd.func29, Tryd.ntmps29
      go_wp2_with (first | ((with_reducible refine gate_callee (f := 54) rfl ?_); refine goesL_ (some 8) rfl rfl Tryd.func54 J8 rfl #[.int .i64 a0] rfl J1 ?_; (with_reducible refine (cmp_isNaN_int.calls a0 true _ A3.out).mono ?_); rintro e w' ⟨rfl, ⟨nd, rfl⟩⟩; refine ⟨_, rfl, ?_⟩) | ((with_reducible refine gate_callee (f := 54) rfl ?_); refine goesL_ (some 10) rfl rfl Tryd.func54 J8 rfl #[.int .i64 a1] rfl J1 ?_; (with_reducible refine (cmp_isNaN_int.calls a1 true _ A4.out).mono ?_); rintro e w' ⟨rfl, ⟨nd, rfl⟩⟩; refine ⟨_, rfl, ?_⟩))
      go_ret
      exact ⟨J4, J7⟩
    · replace c6 := Bool.eq_false_iff.mpr c6
      subst c6
      rw [if_neg (show ¬ (false = true) by decide)] at H
      obtain rfl := Option.some.inj H
      go_enter Tryd.func29, Tryd.ntmps29
      go_wp2_with (first | ((with_reducible refine gate_callee (f := 54) rfl ?_); refine goesL_ (some 8) rfl rfl Tryd.func54 J8 rfl #[.int .i64 a0] rfl J1 ?_; (with_reducible refine (cmp_isNaN_int.calls a0 true _ A3.out).mono ?_); rintro e w' ⟨rfl, ⟨nd, rfl⟩⟩; refine ⟨_, rfl, ?_⟩) | ((with_reducible refine gate_callee (f := 54) rfl ?_); refine goesL_ (some 10) rfl rfl Tryd.func54 J8 rfl #[.int .i64 a1] rfl J1 ?_; (with_reducible refine (cmp_isNaN_int.calls a1 false _ A4.out).mono ?_); rintro e w' ⟨rfl, ⟨nd, rfl⟩⟩; refine ⟨_, rfl, ?_⟩))
      go_ret
      exact ⟨J4, J7⟩
  replace c5 := Bool.eq_false_iff.mpr c5
  subst c5
  rw [if_neg (show ¬ (false = true) by decide)] at H
  by_cases c7 : t380 = true
  · subst c7
    rw [if_pos rfl] at H
    obtain rfl := Option.some.inj H
    go_enter Tryd.func29, Tryd.ntmps29
    go_wp2_with (first | ((with_reducible refine gate_callee (f := 54) rfl ?_); refine goesL_ (some 8) rfl rfl Tryd.func54 J8 rfl #[.int .i64 a0] rfl J1 ?_; (with_reducible refine (cmp_isNaN_int.calls a0 false _ A3.out).mono ?_); rintro e w' ⟨rfl, ⟨nd, rfl⟩⟩; refine ⟨_, rfl, ?_⟩) | ((with_reducible refine gate_callee (f := 54) rfl ?_); refine goesL_ (some 10) rfl rfl Tryd.func54 J8 rfl #[.int .i64 a1] rfl J1 ?_; (with_reducible refine (cmp_isNaN_int.calls a1 true _ A4.out).mono ?_); rintro e w' ⟨rfl, ⟨nd, rfl⟩⟩; refine ⟨_, rfl, ?_⟩))
    go_ret
    exact ⟨J4, J7⟩
  replace c7 := Bool.eq_false_iff.mpr c7
  subst c7
  rw [if_neg (show ¬ (false = true) by decide)] at H
  by_cases c8 : a0 < a1
  · rw [if_pos c8] at H
    have c8b0 := decide_eq_true c8
    clear c8
    obtain rfl := Option.some.inj H
    go_enter Tryd.func29, Tryd.ntmps29
    go_wp2_with (first | ((with_reducible refine gate_callee (f := 54) rfl ?_); refine goesL_ (some 8) rfl rfl Tryd.func54 J8 rfl #[.int .i64 a0] rfl J1 ?_; (with_reducible refine (cmp_isNaN_int.calls a0 false _ A3.out).mono ?_); rintro e w' ⟨rfl, ⟨nd, rfl⟩⟩; refine ⟨_, rfl, ?_⟩) | ((with_reducible refine gate_callee (f := 54) rfl ?_); refine goesL_ (some 10) rfl rfl Tryd.func54 J8 rfl #[.int .i64 a1] rfl J1 ?_; (with_reducible refine (cmp_isNaN_int.calls a1 false _ A4.out).mono ?_); rintro e w' ⟨rfl, ⟨nd, rfl⟩⟩; refine ⟨_, rfl, ?_⟩))
    go_ret
    exact ⟨J4, J7⟩
  rw [if_neg c8] at H
  have c8b0 := decide_eq_false c8
  clear c8
  by_cases c9 : a0 > a1
  rotate_left
  · rw [if_neg c9] at H
    have c9b0 := decide_eq_false c9
    clear c9
    obtain rfl := Option.some.inj H
    go_enter Tryd.func29, Tryd.ntmps29
    go_wp2_with (first | ((with_reducible refine gate_callee (f := 54) rfl ?_); refine goesL_ (some 8) rfl rfl Tryd.func54 J8 rfl #[.int .i64 a0] rfl J1 ?_; (with_reducible refine (cmp_isNaN_int.calls a0 false _ A3.out).mono ?_); rintro e w' ⟨rfl, ⟨nd, rfl⟩⟩; refine ⟨_, rfl, ?_⟩) | ((with_reducible refine gate_callee (f := 54) rfl ?_); refine goesL_ (some 10) rfl rfl Tryd.func54 J8 rfl #[.int .i64 a1] rfl J1 ?_; (with_reducible refine (cmp_isNaN_int.calls a1 false _ A4.out).mono ?_); rintro e w' ⟨rfl, ⟨nd, rfl⟩⟩; refine ⟨_, rfl, ?_⟩))
    go_ret
    exact ⟨J4, J7⟩
  rw [if_pos c9] at H
  have c9b0 := decide_eq_true c9
  clear c9
  obtain rfl := Option.some.inj H
  go_enter Tryd.func29, Tryd.ntmps29
  go_wp2_with (first | ((with_reducible refine gate_callee (f := 54) rfl ?_); refine goesL_ (some 8) rfl rfl Tryd.func54 J8 rfl #[.int .i64 a0] rfl J1 ?_; (with_reducible refine (cmp_isNaN_int.calls a0 false _ A3.out).mono ?_); rintro e w' ⟨rfl, ⟨nd, rfl⟩⟩; refine ⟨_, rfl, ?_⟩) | ((with_reducible refine gate_callee (f := 54) rfl ?_); refine goesL_ (some 10) rfl rfl Tryd.func54 J8 rfl #[.int .i64 a1] rfl J1 ?_; (with_reducible refine (cmp_isNaN_int.calls a1 false _ A4.out).mono ?_); rintro e w' ⟨rfl, ⟨nd, rfl⟩⟩; refine ⟨_, rfl, ?_⟩))
  go_ret
  exact ⟨J4, J7⟩
def stringslite_HasPrefix.f (a0 : ByteArray) (a1 : ByteArray) : Option (Bool) := if (a0.size : Int) ≥ (a1.size : Int) then (if 0 ≤ (a1.size : Int) then (if (a1.size : Int) ≤ (a0.size : Int) then (some ((a0.extract 0 ((a1.size : Int) : Int).toNat).toList == a1.toList)) else (none)) else (none)) else (some false)
set_option maxHeartbeats 8000000 in
set_option maxRecDepth 100000 in
theorem stringslite_HasPrefix.calls (a0 : ByteArray) (a1 : ByteArray) (r : Bool) (w : World) (h : stringslite_HasPrefix.f a0 a1 = some r) :
    Calls Tryd.prog 68 #[.string a0, .string a1] w fun e w' => e = .returned (.bool r) ∧ Drawn0 w w' := by
  have H : (if (a0.size : Int) ≥ (a1.size : Int) then (if 0 ≤ (a1.size : Int) then (if (a1.size : Int) ≤ (a0.size : Int) then (some ((a0.extract 0 ((a1.size : Int) : Int).toNat).toList == a1.toList)) else (none)) else (none)) else (some false)) = some r := h
  clear h
  by_cases c3 : (a0.size : Int) ≥ (a1.size : Int)
  rotate_left
  · rw [if_neg c3] at H
    have c3b0 := decide_eq_false c3
    have c3b1 : decide (a1.size ≤ a0.size) = false := decide_eq_false (fun h => c3 (Int.ofNat_le.mpr h))
    clear c3
    obtain rfl := Option.some.inj H
    go_enter Tryd.func68, Tryd.ntmps68
    go_wp2
    go_ret
    exact ⟨J4, J7⟩
  rw [if_pos c3] at H
  have c3b0 := decide_eq_true c3
  have c3b1 : decide (a1.size ≤ a0.size) = true := decide_eq_true (Int.ofNat_le.mp c3)
  clear c3
  by_cases c4 : 0 ≤ (a1.size : Int)
  rotate_left
  · rw [if_neg c4] at H
    exact absurd H J32
  rw [if_pos c4] at H
  have c4b0 := eq_true c4
  have c4b1 := decide_eq_true c4
  clear c4
  by_cases c5 : (a1.size : Int) ≤ (a0.size : Int)
  rotate_left
  · rw [if_neg c5] at H
    exact absurd H J32
  rw [if_pos c5] at H
  have c5b0 := eq_true c5
  have c5b1 := decide_eq_true c5
  clear c5
  obtain rfl := Option.some.inj H
  go_enter Tryd.func68, Tryd.ntmps68
  go_wp2
  go_ret
  exact ⟨J4, J7⟩
def stringslite_TrimPrefix.f (a0 : ByteArray) (a1 : ByteArray) : Option (ByteArray) := (stringslite_HasPrefix.f a0 a1).bind fun t381 => (if t381 = true then (if 0 ≤ (a1.size : Int) then (if (a1.size : Int) ≤ (a0.size : Int) then (some (a0.extract ((a1.size : Int) : Int).toNat a0.size)) else (none)) else (none)) else (some a0))
set_option maxHeartbeats 8000000 in
set_option maxRecDepth 100000 in
theorem stringslite_TrimPrefix.calls (a0 : ByteArray) (a1 : ByteArray) (r : ByteArray) (w : World) (h : stringslite_TrimPrefix.f a0 a1 = some r) :
    Calls Tryd.prog 83 #[.string a0, .string a1] w fun e w' => e = .returned (.string r) ∧ Drawn0 w w' := by
  have H : ((stringslite_HasPrefix.f a0 a1).bind fun t381 => (if t381 = true then (if 0 ≤ (a1.size : Int) then (if (a1.size : Int) ≤ (a0.size : Int) then (some (a0.extract ((a1.size : Int) : Int).toNat a0.size)) else (none)) else (none)) else (some a0))) = some r := h
  clear h
  replace H := Option.bind_eq_some_iff.mp H
  obtain ⟨t381, A30, H⟩ := H
  have A3 := zq A30
  clear A30
  by_cases c4 : t381 = true
  rotate_left
  · replace c4 := Bool.eq_false_iff.mpr c4
    subst c4
    rw [if_neg (show ¬ (false = true) by decide)] at H
    obtain rfl := Option.some.inj H
    go_enter Tryd.func83, Tryd.ntmps83
    go_wp2_with (first | ((with_reducible refine gate_callee (f := 68) rfl ?_); refine goesL_ (some 7) rfl rfl Tryd.func68 J8 rfl #[.string a0, .string a1] rfl J1 ?_; (with_reducible refine (stringslite_HasPrefix.calls a0 a1 false _ A3.out).mono ?_); rintro e w' ⟨rfl, ⟨nd, rfl⟩⟩; refine ⟨_, rfl, ?_⟩))
    go_ret
    exact ⟨J4, J7⟩
  subst c4
  rw [if_pos rfl] at H
  by_cases c5 : 0 ≤ (a1.size : Int)
  rotate_left
  · rw [if_neg c5] at H
    exact absurd H J32
  rw [if_pos c5] at H
  have c5b0 := eq_true c5
  have c5b1 := decide_eq_true c5
  clear c5
  by_cases c6 : (a1.size : Int) ≤ (a0.size : Int)
  rotate_left
  · rw [if_neg c6] at H
    exact absurd H J32
  rw [if_pos c6] at H
  have c6b0 := eq_true c6
  have c6b1 := decide_eq_true c6
  clear c6
  obtain rfl := Option.some.inj H
  go_enter Tryd.func83, Tryd.ntmps83
  go_wp2_with (first | ((with_reducible refine gate_callee (f := 68) rfl ?_); refine goesL_ (some 7) rfl rfl Tryd.func68 J8 rfl #[.string a0, .string a1] rfl J1 ?_; (with_reducible refine (stringslite_HasPrefix.calls a0 a1 true _ A3.out).mono ?_); rintro e w' ⟨rfl, ⟨nd, rfl⟩⟩; refine ⟨_, rfl, ?_⟩))
  go_ret
  exact ⟨J4, J7⟩
def strings_TrimPrefix.f (a0 : ByteArray) (a1 : ByteArray) : Option (ByteArray) := (stringslite_TrimPrefix.f a0 a1).bind fun t382 => (some t382)
set_option maxHeartbeats 8000000 in
set_option maxRecDepth 100000 in
theorem strings_TrimPrefix.calls (a0 : ByteArray) (a1 : ByteArray) (r : ByteArray) (w : World) (h : strings_TrimPrefix.f a0 a1 = some r) :
    Calls Tryd.prog 74 #[.string a0, .string a1] w fun e w' => e = .returned (.string r) ∧ Drawn0 w w' := by
  have H : ((stringslite_TrimPrefix.f a0 a1).bind fun t382 => (some t382)) = some r := h
  clear h
  replace H := Option.bind_eq_some_iff.mp H
  obtain ⟨t382, A30, H⟩ := H
  have A3 := zq A30
  clear A30
  obtain rfl := Option.some.inj H
  go_enter Tryd.func74, Tryd.ntmps74
  go_wp2_with (first | ((with_reducible refine gate_callee (f := 83) rfl ?_); refine goesL_ (some 7) rfl rfl Tryd.func83 J8 rfl #[.string a0, .string a1] rfl J1 ?_; (with_reducible refine (stringslite_TrimPrefix.calls a0 a1 t382 _ A3.out).mono ?_); rintro e w' ⟨rfl, ⟨nd, rfl⟩⟩; refine ⟨_, rfl, ?_⟩))
  go_ret
  exact ⟨J4, J7⟩
def laysM171_ren : Go.Shelf.Ren := ⟨fun | 171 => 75 | 243 => 84 | 246 => 87 | 283 => 92 | 284 => 93 | 285 => 94 | 286 => 95 | 129 => 98 | 317 => 97 | 318 => 99 | 319 => 100 | 320 => 101 | 337 => 102 | 338 => 103 | n => n, fun | 3 => 3 | 9 => 9 | 2 => 2 | 4 => 4 | 171 => 92 | 0 => 0 | 53 => 93 | 37 => 96 | 5 => 5 | 173 => 97 | 212 => 102 | 51 => 103 | 20 => 20 | 213 => 104 | 46 => 105 | 232 => 108 | 233 => 109 | n => n, fun | 17 => 1 | 18 => 2 | 19 => 3 | n => n⟩
theorem laysM171 : Go.Proofs.LaysM.n171 Tryd.prog laysM171_ren := {
  mixed := J8
  f129 := Tryd.func98.trans (congrArg some J8)
  f171 := Tryd.func75.trans (congrArg some J8)
  f243 := Tryd.func84.trans (congrArg some J8)
  f246 := Tryd.func87.trans (congrArg some J8)
  f283 := Tryd.func92.trans (congrArg some J8)
  f284 := Tryd.func93.trans (congrArg some J8)
  f285 := Tryd.func94.trans (congrArg some J8)
  f286 := Tryd.func95.trans (congrArg some J8)
  f317 := Tryd.func97.trans (congrArg some J8)
  f318 := Tryd.func99.trans (congrArg some J8)
  f319 := Tryd.func100.trans (congrArg some J8)
  f320 := Tryd.func101.trans (congrArg some J8)
  f337 := Tryd.func102.trans (congrArg some J8)
  f338 := Tryd.func103.trans (congrArg some J8)
  t0 := Tryd.underlying0
  a0 := Tryd.isAgg0
  z0 := Tryd.sizeOf0
  v0 := Tryd.zeroValue0
  t2 := Tryd.underlying2
  a2 := Tryd.isAgg2
  z2 := Tryd.sizeOf2
  v2 := Tryd.zeroValue2
  t3 := Tryd.underlying3
  a3 := Tryd.isAgg3
  z3 := Tryd.sizeOf3
  v3 := Tryd.zeroValue3
  t4 := Tryd.underlying4
  a4 := Tryd.isAgg4
  z4 := Tryd.sizeOf4
  v4 := Tryd.zeroValue4
  t5 := Tryd.underlying5
  a5 := Tryd.isAgg5
  z5 := Tryd.sizeOf5
  v5 := Tryd.zeroValue5
  t9 := Tryd.underlying9
  a9 := Tryd.isAgg9
  z9 := Tryd.sizeOf9
  v9 := Tryd.zeroValue9
  t20 := Tryd.underlying20
  a20 := Tryd.isAgg20
  z20 := Tryd.sizeOf20
  v20 := Tryd.zeroValue20
  t37 := Tryd.underlying96
  a37 := Tryd.isAgg96
  z37 := Tryd.sizeOf96
  v37 := Tryd.zeroValue96
  t46 := Tryd.underlying105
  a46 := Tryd.isAgg105
  z46 := Tryd.sizeOf105
  v46 := Tryd.zeroValue105
  t51 := Tryd.underlying103
  a51 := Tryd.isAgg103
  z51 := Tryd.sizeOf103
  v51 := Tryd.zeroValue103
  t53 := Tryd.underlying93
  a53 := Tryd.isAgg93
  z53 := Tryd.sizeOf93
  v53 := Tryd.zeroValue93
  t171 := Tryd.underlying92
  a171 := Tryd.isAgg92
  z171 := Tryd.sizeOf92
  v171 := Tryd.zeroValue92
  t173 := Tryd.underlying97
  a173 := Tryd.isAgg97
  z173 := Tryd.sizeOf97
  v173 := Tryd.zeroValue97
  t212 := Tryd.underlying102
  a212 := Tryd.isAgg102
  z212 := Tryd.sizeOf102
  v212 := Tryd.zeroValue102
  t213 := Tryd.underlying104
  a213 := Tryd.isAgg104
  z213 := Tryd.sizeOf104
  t232 := Tryd.underlying108
  a232 := Tryd.isAgg108
  z232 := Tryd.sizeOf108
  v232 := Tryd.zeroValue108
  t233 := Tryd.underlying109
  a233 := Tryd.isAgg109
  z233 := Tryd.sizeOf109
  v233 := Tryd.zeroValue109
  g17 := J8
  g18 := J8
  g19 := J8
  i0 := J8
  i2 := J8
  i3 := J8
  i4 := J8
  i5 := J8
  i9 := J8
  i20 := J8
  i37 := J8
  i46 := J8
  i51 := J8
  i53 := J8
  i171 := J8
  i173 := J8
  i212 := J8
  i232 := J8
  i233 := J8
  m17 := J8
  m18 := J8
  m19 := by kernel_rfl }
def HTab (w : World) : Prop := Go.Lib.TabIs Tryd.prog w (Rows.systemNumbersRow.laid[2]'J18).1 .u64 Go.Lib.pow10Tab
theorem htab_below {w w1 : World} (h : HTab w) (hb : Below w.heap.size w w1) : HTab w1 := by
  obtain ⟨gq, hgn⟩ : ∃ gq, Tryd.prog.globalNamed (Rows.systemNumbersRow.laid[2]'J18).1 = some gq := ⟨1, J8⟩
  unfold HTab Go.Lib.TabIs World.var? at h ⊢
  rw [hgn] at h ⊢
  simp only [Option.bind_some] at h ⊢
  have hlt : gq < w.heap.size := by
    rcases Nat.lt_or_ge gq w.heap.size with h' | h'
    · exact h'
    · rw [Array.getElem?_eq_none h'] at h; cases h
  rw [hb.block gq hlt]
  exact h
def strconv_Itoa_75.f (a0 : Int) : Option (ByteArray) := if -9223372036854775808 ≤ a0 ∧ a0 ≤ 9223372036854775807 then some ⟨(Go.Lib.itoa a0).toArray⟩ else none
theorem strconv_Itoa_75.calls (a0 : Int) (r : ByteArray) (w : World) (ht_ : HTab w) (h : strconv_Itoa_75.f a0 = some r) :
    Calls Tryd.prog 75 #[.int .i64 a0] w fun e w' => e = .returned (.string r) ∧ Below w.heap.size w w' := by
  unfold strconv_Itoa_75.f at h
  by_cases g : -9223372036854775808 ≤ a0 ∧ a0 ≤ 9223372036854775807
  · rw [if_pos g] at h
    obtain rfl := Option.some.inj h
    refine (Go.Proofs.Any.strconv_Itoa laysM171 a0 g.1 g.2 w ht_).mono ?_
    rintro e w' ⟨rfl, k, os, rfl⟩
    exact ⟨rfl, Go.Lib.below_grow _ _ (Nat.le_refl _) _ _⟩
  · rw [if_neg g] at h
    exact absurd h J32
def decimal_digits.f (a0 : Int) : Option (ByteArray) := (strconv_Itoa_75.f a0).bind fun t383 => ((strings_TrimPrefix.f t383 (⟨#[45]⟩ : ByteArray)).bind fun t384 => (some t384))
set_option maxHeartbeats 8000000 in
set_option maxRecDepth 100000 in
theorem decimal_digits.calls (a0 : Int) (r : ByteArray) (w : World) (ht_ : HTab w) (h : decimal_digits.f a0 = some r) :
    Calls Tryd.prog 55 #[.int .i64 a0] w fun e w' => e = .returned (.string r) ∧ Below w.heap.size w w' := by
  have HT := zq ht_
  clear ht_
  have HB := zq (Below.refl w.heap.size w)
  have H : ((strconv_Itoa_75.f a0).bind fun t383 => ((strings_TrimPrefix.f t383 (⟨#[45]⟩ : ByteArray)).bind fun t384 => (some t384))) = some r := h
  clear h
  replace H := Option.bind_eq_some_iff.mp H
  obtain ⟨t383, A20, H⟩ := H
  have A2 := zq A20
  clear A20
  replace H := Option.bind_eq_some_iff.mp H
  obtain ⟨t384, A30, H⟩ := H
  have A3 := zq A30
  clear A30
  obtain rfl := Option.some.inj H
  go_enter Tryd.func55, Tryd.ntmps55
  go_wp2_with (first | ((with_reducible refine gate_callee (f := 75) rfl ?_); refine goesL_ (some 4) rfl rfl Tryd.func75 J8 rfl #[.int .i64 a0] rfl J1 ?_; (with_reducible refine (strconv_Itoa_75.calls a0 t383 _ (htab_below HT.out J0) A2.out).mono ?_); rintro e w4 ⟨rfl, hb⟩; refine ⟨_, rfl, ?_⟩; replace HB := zq (below_step J0 hb); (try clear hb)) | ((with_reducible refine gate_callee (f := 74) rfl ?_); refine goesL_ (some 5) rfl rfl Tryd.func74 J8 rfl #[.string t383, .string (⟨#[45]⟩ : ByteArray)] rfl J1 ?_; (with_reducible refine (strings_TrimPrefix.calls t383 (⟨#[45]⟩ : ByteArray) t384 _ A3.out).mono ?_); rintro e w' ⟨rfl, ⟨nd, rfl⟩⟩; refine ⟨_, rfl, ?_⟩))
  go_ret
  exact ⟨J2, J0⟩
def cmp_Or_int.l0 : Nat → Int → List Int → Int → Int → Option (Int)
  | 0, _, _, _, _ => none
  | k + 1, x3, x6, x7, x8 => if x8 < x7 then (if 0 ≤ x8 then (if x8 < (x6.length : Int) then (if (rd x6 x8) = x3 then (cmp_Or_int.l0 k x3 x6 x7 (wrap64 (x8 + 1))) else (some (rd x6 x8))) else (none)) else (none)) else (some x3)
def cmp_Or_int.f (k : Nat) (l0 : List Int) : Option (Int) := cmp_Or_int.l0 k 0 l0 (l0.length : Int) 0
theorem cmp_Or_int.mono_l : ∀ k, (∀ y0 y1 y2 y3, LeO (cmp_Or_int.l0 k y0 y1 y2 y3) (cmp_Or_int.l0 (k + 1) y0 y1 y2 y3))
  | 0 => fun _ _ _ _ r h => by simp [cmp_Or_int.l0] at h
  | k + 1 => by
    have ih0 := cmp_Or_int.mono_l k
    · intro y0 y1 y2 y3
      unfold cmp_Or_int.l0
      exact mz0
theorem cmp_Or_int.mono : ∀ a0 k, LeO (cmp_Or_int.f k a0) (cmp_Or_int.f (k + 1) a0) := by
  intro a0 k
  have ih0 := cmp_Or_int.mono_l k
  unfold cmp_Or_int.f
  exact mz0
set_option maxHeartbeats 8000000 in
set_option maxRecDepth 100000 in
theorem cmp_Or_int.calls (k : Nat) (A0 : Option Addr) (c0 : Nat) (l0 : List Int) (r : Int) (w : World) (hr0 : Kd.C (Kd.int .i64) w A0 l0.length l0) (hc0 : l0.length ≤ c0) (h : cmp_Or_int.f k l0 = some r) :
    Calls Tryd.prog 56 #[.slice A0 l0.length c0] w fun e w' => e = .returned (.int .i64 r) ∧ Drawn0 w w' := by
  have HR0 := zq hr0
  have HC0 := zq hc0
  clear hr0 hc0
  have H : (cmp_Or_int.l0 k 0 l0 (l0.length : Int) 0) = some r := h
  clear h
  have H' := zq H
  clear H
  go_enter Tryd.func56, Tryd.ntmps56
  go_wp2
  go_loopg [8] k (fun kq v8 w' => ∃ (x8_1 : Int), v8 = .int .i64 x8_1 ∧ Aside0 (cmp_Or_int.l0 kq 0 l0 (l0.length : Int) x8_1 = some r) ∧ Aside0 (kq ≤ k) ∧ Drawn0 w w')
  case atStart => exact ⟨(0), J4, H', ⟨Nat.le_refl _⟩, J7⟩
  case round =>
    clear H'
    obtain ⟨x8_1, rfl, HA, HK1, ⟨m1, rfl⟩⟩ := hrel
    cases gk with
    | zero => exact absurd HA.out (by simp [cmp_Or_int.l0])
    | succ k1 =>
      have H := HA.out
      clear HA
      simp only [cmp_Or_int.l0] at H
      by_cases c2 : x8_1 < (l0.length : Int)
      rotate_left
      · rw [if_neg c2] at H
        have c2b0 := decide_eq_false c2
        clear c2
        obtain rfl := Option.some.inj H
        go_wp2
        go_ret
        exact ⟨J4, J7⟩
      rw [if_pos c2] at H
      have c2b0 := decide_eq_true c2
      clear c2
      by_cases c3 : 0 ≤ x8_1
      rotate_left
      · rw [if_neg c3] at H
        exact absurd H J32
      rw [if_pos c3] at H
      have c3b0 := decide_eq_true c3
      clear c3
      by_cases c4 : x8_1 < (l0.length : Int)
      rotate_left
      · rw [if_neg c4] at H
        exact absurd H J32
      rw [if_pos c4] at H
      have c4b0 := decide_eq_true c4
      clear c4
      by_cases c5 : (rd l0 x8_1) = 0
      rotate_left
      · rw [if_neg c5] at H
        have c5b0 : ((rd l0 x8_1) == 0) = false := beq_eq_false_iff_ne.mpr c5
        have c5b1 : ((rd l0 x8_1) != 0) = true := bne_iff_ne.mpr c5
        obtain rfl := Option.some.inj H
        have p385 : 0 ≤ (x8_1 : Int) := of_decide_eq_true J3
        have q385 : x8_1 < (l0.length : Int) := of_decide_eq_true J3
        obtain ⟨ad385, e385, hx385_0⟩ := Kd.at_int HR0.out x8_1 p385 q385
        cases e385
        replace p385 := eq_true p385
        replace q385 := eq_true q385
        go_wp2
        go_ret
        exact ⟨J4, J7⟩
      rw [if_pos c5] at H
      have c5b0 : ((rd l0 x8_1) == 0) = true := beq_iff_eq.mpr c5
      have c5b1 : ((rd l0 x8_1) != 0) = false := bne_eq_false_iff_eq.mpr c5
      clear c5
      have H' := zq H
      clear H
      have p385 : 0 ≤ (x8_1 : Int) := of_decide_eq_true J3
      have q385 : x8_1 < (l0.length : Int) := of_decide_eq_true J3
      obtain ⟨ad385, e385, hx385_0⟩ := Kd.at_int HR0.out x8_1 p385 q385
      cases e385
      replace p385 := eq_true p385
      replace q385 := eq_true q385
      go_wp2
      go_roundg k1
      case measure => have := HK1.out; omega
      case rel => exact ⟨(wrap64 (x8_1 + 1)), J4, H', ⟨J73⟩, J7⟩
def bytealg_CompareString.f (a0 : ByteArray) (a1 : ByteArray) : Option (Int) := some (Lib.compareBytes a0.data.toList a1.data.toList)
set_option maxHeartbeats 1000000 in
set_option maxRecDepth 100000 in
theorem bytealg_CompareString.calls (a0 : ByteArray) (a1 : ByteArray) (r : Int) (w : World) (h : bytealg_CompareString.f a0 a1 = some r) :
    Calls Tryd.prog 76 #[.string a0, .string a1] w fun e w' => e = .returned (.int .i64 r) ∧ Drawn0 w w' := by
  obtain rfl := Option.some.inj h
  refine Calls.mono (R := fun e w' => e = .returned (.int .i64 (Lib.compareBytes a0.data.toList a1.data.toList)) ∧ w' = w) ?_ (fun e w' hh => ⟨hh.1, by rw [hh.2]; exact Drawn0.refl w⟩)
  go_enter Tryd.func76, Tryd.ntmps76
  go_wp2
  rw [run_callFunc_extern Tryd.func85 J8 J8 J8 (e := Extern.BytealgCompare.compare) J8, Lib.run_compareString]
  simp only [Result.andThen]
  rw [Oper.upon_value]
  go_wp2
  go_ret
  exact ⟨rfl, rfl⟩
def strings_Compare.f (a0 : ByteArray) (a1 : ByteArray) : Option (Int) := (bytealg_CompareString.f a0 a1).bind fun t386 => (some t386)
set_option maxHeartbeats 8000000 in
set_option maxRecDepth 100000 in
theorem strings_Compare.calls (a0 : ByteArray) (a1 : ByteArray) (r : Int) (w : World) (h : strings_Compare.f a0 a1 = some r) :
    Calls Tryd.prog 57 #[.string a0, .string a1] w fun e w' => e = .returned (.int .i64 r) ∧ Drawn0 w w' := by
  have H : ((bytealg_CompareString.f a0 a1).bind fun t386 => (some t386)) = some r := h
  clear h
  replace H := Option.bind_eq_some_iff.mp H
  obtain ⟨t386, A30, H⟩ := H
  have A3 := zq A30
  clear A30
  obtain rfl := Option.some.inj H
  go_enter Tryd.func57, Tryd.ntmps57
  go_wp2_with (first | ((with_reducible refine gate_callee (f := 76) rfl ?_); refine goesL_ (some 7) rfl rfl Tryd.func76 J8 rfl #[.string a0, .string a1] rfl J1 ?_; (with_reducible refine (bytealg_CompareString.calls a0 a1 t386 _ A3.out).mono ?_); rintro e w' ⟨rfl, ⟨nd, rfl⟩⟩; refine ⟨_, rfl, ?_⟩))
  go_ret
  exact ⟨J4, J7⟩
def decimal_above.f (k : Nat) (a0_0 : Int) (a0_1 : Int) (a1_0 : Int) (a1_1 : Int) : Option (Int) := (decimal_digits.f a0_0).bind fun t389 => ((decimal_digits.f a1_0).bind fun t390 => ((cmp_Compare_int.f (wrap64 ((t389.size : Int) + a0_1)) (wrap64 ((t390.size : Int) + a1_1))).bind fun t391 => ((strings_Compare.f t389 t390).bind fun t392 => ((cmp_Or_int.f k (([t391, t392] : List Int))).bind fun t396 => (some t396)))))
theorem decimal_above.mono : ∀ a0 a1 a2 a3 k, LeO (decimal_above.f k a0 a1 a2 a3) (decimal_above.f (k + 1) a0 a1 a2 a3) := by
  intro a0 a1 a2 a3 k
  unfold decimal_above.f
  have im0 := @cmp_Or_int.mono
  exact mz3
def decimal_above.T1 : Bool × List (List Nat × List Nat) := (true, [([], []), ([0], [0]), ([1], [1]), ([], []), ([3], [3]), ([4, 2], [4]), ([2, 5, 0, 1, 2], [2]), ([5, 6, 0, 1, 2, 3, 4, 5, 6], [5])])
def decimal_above.B1 : List Nat := [0, 1, 3, 0, 8, 31, 63, 127]
theorem decimal_above.tab1 : rtab .any (opsOf Tryd.f30 1) = decimal_above.T1 := J8
theorem decimal_above.bits1 : waitsOk decimal_above.T1.2 decimal_above.B1 = true := J8
set_option maxHeartbeats 8000000 in
set_option maxRecDepth 100000 in
theorem decimal_above.calls (k : Nat) (a0_0 : Int) (a0_1 : Int) (a1_0 : Int) (a1_1 : Int) (r : Int) (w : World) (ht_ : HTab w) (h : decimal_above.f k a0_0 a0_1 a1_0 a1_1 = some r) :
    Calls Tryd.prog 30 #[.agg #[.int .i64 a0_0, .int .i64 a0_1], .agg #[.int .i64 a1_0, .int .i64 a1_1]] w fun e w' => e = .returned (.int .i64 r) ∧ Below w.heap.size w w' := by
  have HT := zq ht_
  clear ht_
  have hu40 := Tryd.underlying40
  have HB := zq (Below.refl w.heap.size w)
  have H : ((decimal_digits.f a0_0).bind fun t389 => ((decimal_digits.f a1_0).bind fun t390 => ((cmp_Compare_int.f (wrap64 ((t389.size : Int) + a0_1)) (wrap64 ((t390.size : Int) + a1_1))).bind fun t391 => ((strings_Compare.f t389 t390).bind fun t392 => ((cmp_Or_int.f k (([t391, t392] : List Int))).bind fun t396 => (some t396)))))) = some r := h
  clear h
  replace H := Option.bind_eq_some_iff.mp H
  obtain ⟨t389, A30, H⟩ := H
  have A3 := zq A30
  clear A30
  replace H := Option.bind_eq_some_iff.mp H
  obtain ⟨t390, A40, H⟩ := H
  have A4 := zq A40
  clear A40
  replace H := Option.bind_eq_some_iff.mp H
  obtain ⟨t391, A50, H⟩ := H
  have A5 := zq A50
  clear A50
  replace H := Option.bind_eq_some_iff.mp H
  obtain ⟨t392, A60, H⟩ := H
  have A6 := zq A60
  clear A60
  obtain ⟨y393, hy393⟩ : ∃ y_ : List Int, y_ = (([t391, t392] : List Int)) := ⟨_, rfl⟩
  rw (occs := .pos [1]) [← hy393] at H
  have Ny393 := zq hy393
  clear hy393
  replace H := Option.bind_eq_some_iff.mp H
  obtain ⟨t396, A70, H⟩ := H
  have A7 := zq A70
  clear A70
  obtain rfl := Option.some.inj H
  go_enter Tryd.func30, Tryd.ntmps30
  try go_wp2_with (first | ((with_reducible refine gate_dst (N := 2) rfl ?_); refine bxw 2 40 #[.int .i64 a0_0, .int .i64 a0_1] ?_; intro gb387 hg w8 hbox hb; have BK387 := zq (hbox); have GE387 := zq ((J12 : w.heap.size ≤ gb387)); replace HB := zq (below_step J0 hb); clear hb hbox hg) | ((with_reducible refine gate_dst (N := 3) rfl ?_); refine bxw 3 40 #[.int .i64 a1_0, .int .i64 a1_1] ?_; intro gb388 hg w9 hbox hb; have BK388 := zq (hbox); have GE388 := zq ((by rw [hg]; exact (below_size (zs1 GE387.out)) : w.heap.size ≤ gb388)); replace HB := zq (below_step (zs1 GE387.out) hb); have NB387_388 := zq ((by rw [hg]; exact Nat.ne_of_lt (blk_lt (g := gb387) (o := .cells #[.int .i64 a0_0, .int .i64 a0_1] 40 (0, 0)) (zk BK387.out)) : gb387 ≠ gb388)); have NB388_387 := zq ((by rw [hg]; exact Nat.ne_of_gt (blk_lt (g := gb387) (o := .cells #[.int .i64 a0_0, .int .i64 a0_1] 40 (0, 0)) (zk BK387.out)) : gb388 ≠ gb387)); replace BK387 := zq (blk_below (g := gb387) (o := .cells #[.int .i64 a0_0, .int .i64 a0_1] 40 (0, 0)) (zk BK387.out) hb); clear hb hbox hg))
  replace BK387 := zq (blk_drew BK387.out)
  replace BK388 := zq (blk_drew BK388.out)
  replace HB := zq (below_drew1 HB.out)
  refine start_ (n := 8) (S := fun w' => w'.cell? ⟨gb387, 0, none⟩ = some (.int .i64 a0_0) ∧ w'.cell? ⟨gb387, 1, none⟩ = some (.int .i64 a0_1) ∧ w'.cell? ⟨gb388, 0, none⟩ = some (.int .i64 a1_0) ∧ w'.cell? ⟨gb388, 1, none⟩ = some (.int .i64 a1_1)) (ds := []) #[Z,Z,Z,Z,Z,Z,Z,Z] J8 rfl rfl ⟨(blk_cell BK387.out 0).trans rfl, (blk_cell BK387.out 1).trans rfl, (blk_cell BK388.out 0).trans rfl, (blk_cell BK388.out 1).trans rfl⟩ (fun hHeld => ?_); refine with_tabW decimal_above.tab1 decimal_above.bits1 (fun HT_ HW_ => ?_)
  generalize w9.drew = w10 at BK387 BK388 HB hHeld ⊢
  refine pure_ (i := 0) (N := some 7) (v := ?_) (a' := ?_) #[Y,Z,Z,Z,Z,Z,Z,Z] rfl rfl (any_of HT_.out J8) (fun _ _ _ h => h) (Or.inl ⟨J93, ?_⟩) ?_ ?_
  rotate_left
  · exact pz0
  rotate_left
  · exact pz1
  refine pure_ (i := 3) (N := some 10) (v := ?_) (a' := ?_) #[Y,Z,Z,Y,Z,Z,Z,Z] rfl rfl (any_of HT_.out J8) (fun _ _ _ h => h) (Or.inl ⟨J93, ?_⟩) ?_ ?_
  rotate_left
  · exact pz0
  rotate_left
  · exact pz1
  refine take_ (i := 1) (N := some 8) (v := ?_) (a' := ?_) #[Y,Y,Z,Y,Z,Z,Z,Z] rfl rfl (take_ofW HT_.out HW_.out J8) (fun _ _ _ h => h) (Or.inl ⟨J93, ?_⟩) hHeld ?_ ?_
  rotate_left
  · rintro w' ⟨s0, s1, s2, s3⟩
    go_simp
    with_reducible rfl
  rotate_left
  · exact pz1
  refine take_ (i := 4) (N := some 11) (v := ?_) (a' := ?_) #[Y,Y,Z,Y,Y,Z,Z,Z] rfl rfl (take_ofW HT_.out HW_.out J8) (fun _ _ _ h => h) (Or.inl ⟨J93, ?_⟩) hHeld ?_ ?_
  rotate_left
  · rintro w' ⟨s0, s1, s2, s3⟩
    go_simp
    with_reducible rfl
  rotate_left
  · exact pz1
  refine one_ (i := 2) (N := some 9) #[Y,Y,Y,Y,Y,Z,Z,Z] rfl rfl (one_of HT_.out J8) J18 (fun K hK => ?_)
  refine goes_ Tryd.func55 J8 rfl #[.int .i64 a0_0] J93 rfl rfl J1 ?_
  with_reducible refine (decimal_digits.calls a0_0 t389 _ (htab_below HT.out J0) A3.out).mono ?_
  rintro e w11 ⟨rfl, hb⟩
  refine ⟨_, rfl, ?_⟩
  replace BK387 := zq (blk_below (g := gb387) (o := .cells #[.int .i64 a0_0, .int .i64 a0_1] 40 (0, 0)) (zk BK387.out) hb)
  replace BK388 := zq (blk_below (g := gb388) (o := .cells #[.int .i64 a1_0, .int .i64 a1_1] 40 (0, 0)) (zk BK388.out) hb)
  replace HB := zq (below_step (zs2 GE387.out GE388.out) hb)
  (try clear hb)
  (try clear hb2)
  (try clear hk)
  (try clear hi)
  refine hK.out _ _ ⟨(blk_cell BK387.out 0).trans rfl, (blk_cell BK387.out 1).trans rfl, (blk_cell BK388.out 0).trans rfl, (blk_cell BK388.out 1).trans rfl⟩ (fun hHeld => ?_)
  clear hK K
  refine norm_ (a' := ?_) ?_ ?_
  rotate_left
  · show Act.put _ (some 9) _ = _
    simp only [Act.put, List.setIfInBounds_toArray, List.set_cons_zero, List.set_cons_succ, i64_w, i32_w]
    rfl
  refine one_ (i := 5) (N := some 12) #[Y,Y,Y,Y,Y,Y,Z,Z] rfl rfl (one_of HT_.out J8) J18 (fun K hK => ?_)
  refine goes_ Tryd.func55 J8 rfl #[.int .i64 a1_0] J93 rfl rfl J1 ?_
  with_reducible refine (decimal_digits.calls a1_0 t390 _ (htab_below HT.out J0) A4.out).mono ?_
  rintro e w12 ⟨rfl, hb⟩
  refine ⟨_, rfl, ?_⟩
  replace BK387 := zq (blk_below (g := gb387) (o := .cells #[.int .i64 a0_0, .int .i64 a0_1] 40 (0, 0)) (zk BK387.out) hb)
  replace BK388 := zq (blk_below (g := gb388) (o := .cells #[.int .i64 a1_0, .int .i64 a1_1] 40 (0, 0)) (zk BK388.out) hb)
  replace HB := zq (below_step (zs2 GE387.out GE388.out) hb)
  (try clear hb)
  (try clear hb2)
  (try clear hk)
  (try clear hi)
  refine hK.out _ _ ⟨(blk_cell BK387.out 0).trans rfl, (blk_cell BK387.out 1).trans rfl, (blk_cell BK388.out 0).trans rfl, (blk_cell BK388.out 1).trans rfl⟩ (fun hHeld => ?_)
  clear hK K
  refine norm_ (a' := ?_) ?_ ?_
  rotate_left
  · show Act.put _ (some 12) _ = _
    simp only [Act.put, List.setIfInBounds_toArray, List.set_cons_zero, List.set_cons_succ, i64_w, i32_w]
    rfl
  refine pure_ (i := 6) (N := some 5) (v := ?_) (a' := ?_) #[Y,Y,Y,Y,Y,Y,Y,Z] rfl rfl (any_of HT_.out J8) (fun _ _ _ h => h) (Or.inl ⟨J93, ?_⟩) ?_ ?_
  rotate_left
  · exact pz0
  rotate_left
  · exact pz1
  refine pure_ (i := 7) (N := some 6) (v := ?_) (a' := ?_) #[Y,Y,Y,Y,Y,Y,Y,Y] rfl rfl (any_of HT_.out J8) (fun _ _ _ h => h) (Or.inl ⟨J93, ?_⟩) ?_ ?_
  rotate_left
  · exact pz0
  rotate_left
  · exact pz1
  refine done_ (done_of HT_.out J8) ?_
  have hnb13 := NB387_388.out
  have hnc13 := NB388_387.out
  obtain ⟨hcz14_0, hcz14_1, hfz14_0, hfz14_1⟩ := cz2 BK387.out
  obtain ⟨hcz15_0, hcz15_1, hfz15_0, hfz15_1⟩ := cz2 BK388.out
  try go_wp2_with (first | ((with_reducible refine gate_callee (f := 29) rfl ?_); refine goesL_ (some 23) rfl rfl Tryd.func29 J8 rfl #[.int .i64 (wrap64 ((t389.size : Int) + a0_1)), .int .i64 (wrap64 ((t390.size : Int) + a1_1))] rfl J1 ?_; (with_reducible refine (cmp_Compare_int.calls (wrap64 ((t389.size : Int) + a0_1)) (wrap64 ((t390.size : Int) + a1_1)) t391 _ A5.out).mono ?_); rintro e w' ⟨rfl, ⟨nd, rfl⟩⟩; refine ⟨_, rfl, ?_⟩) | ((with_reducible refine gate_callee (f := 57) rfl ?_); refine goesL_ (some 26) rfl rfl Tryd.func57 J8 rfl #[.string t389, .string t390] rfl J1 ?_; (with_reducible refine (strings_Compare.calls t389 t390 t392 _ A6.out).mono ?_); rintro e w' ⟨rfl, ⟨nd, rfl⟩⟩; refine ⟨_, rfl, ?_⟩) | ((with_reducible refine gate_dst (N := 27) rfl ?_); refine lwR (Kd.int .i64) 3 27 (xs := ([t391, t392] : List Int)) [.int .i64 t391, .int .i64 t392] Ny393 (Reps.one (show Kd.M (Kd.int .i64) _ _ _ t391 [.int .i64 t391] from rfl) (Reps.one (show Kd.M (Kd.int .i64) _ _ _ t392 [.int .i64 t392] from rfl) (Reps.none _ _))) ?_; intro v394 w16 ho17 hb; have HO395 := zq (Kd.R_lower ho17 (below_size (zs2 GE387.out GE388.out))); replace HB := zq (below_step (zs2 GE387.out GE388.out) hb); clear hb ho17; obtain ⟨Ao18, co18, eo18⟩ := Kd.R_slice HO395.out; subst eo18) | ((with_reducible refine gate_callee (f := 56) rfl ?_); refine goesL_ (some 28) rfl rfl Tryd.func56 J8 rfl #[.slice Ao18 y393.length co18] rfl J1 ?_; (with_reducible refine (cmp_Or_int.calls k _ _ y393 t396 _ ?side1 ?side2 A7.out).mono ?_); (case side1 => exact zc ((Kd.R_reads' HO395.out).2.2)); (case side2 => exact (Kd.R_reads' HO395.out).2.1); rintro e w' ⟨rfl, ⟨nd, rfl⟩⟩; refine ⟨_, rfl, ?_⟩))
  go_ret
  exact ⟨J2, by repeat (first | (with_reducible first | exact HB.out | apply below_alloc | apply pw_below_drewN | apply below_drew1 | refine below_set ?_ GE387.out | refine below_set ?_ GE388.out) | exact HB.out)⟩
end Go.Proofs.YtfjhiiaahbjaiaaDoor.HSystemSigns
