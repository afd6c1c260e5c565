-- Written by the session's program hy.py, made shorter by crc/short.py.
import Derived.Test.YtdoofhbapenhnaaHCrcLinearx4
namespace Go.Proofs.Ytdoofhbapenhnaa.HCrcLinear
open Go.RowKit Go.Proofs.YtdoofhbapenhnaaW.PrintWords Go.Proofs.YtdoofhbapenhnaaW.PrintLast Go.Proofs.YtdoofhbapenhnaaW.PrintMore
attribute [local go_sem] max2_int min2_int max_two min_two max_three min_three max_four min_four   -- for this text's walks alone
set_option linter.unusedVariables false
set_option linter.unusedSimpArgs false

set_option maxHeartbeats 8000000 in
set_option maxRecDepth 100000 in
theorem decklelaw02_CrcLinear.calls (k : Nat) (a0 : Int) (P1_ : Nat → Prop) (A1 : Option Addr) (c1 : Nat) (l1 : List Int) (P2_ : Nat → Prop) (A2 : Option Addr) (c2 : Nat) (l2 : List Int) (P3_ : Nat → Prop) (A3 : Option Addr) (c3 : Nat) (l3 : List Int) (r : Bool) (w : World) (hs1 : Kd.V (Kd.int .u8) 5 w w.heap.size (fun k_ => P1_ k_) (.slice A1 l1.length c1) l1) (hs2 : Kd.V (Kd.int .u8) 5 w w.heap.size (fun k_ => P2_ k_) (.slice A2 l2.length c2) l2) (hs3 : Kd.V (Kd.int .u8) 5 w w.heap.size (fun k_ => P3_ k_) (.slice A3 l3.length c3) l3) (h : decklelaw02_CrcLinear.f k a0 l1 l2 l3 = some r) :
  Calls Try.prog 6 #[.int .u32 a0, .slice A1 l1.length c1, .slice A2 l2.length c2, .slice A3 l3.length c3] w fun e w' => e = .returned (.bool r) ∧ Below w.heap.size w w' := by
 have hu24 := Try.underlying24
 have HO1 := Aside0.mk (show Kd.V (Kd.int .u8) 5 w w.heap.size (fun k_ => ((P1_ k_ ∨ P2_ k_ ∨ P3_ k_) ∨ w.heap.size ≤ k_)) (.slice A1 l1.length c1) l1 from Kd.V_mono hs1 (fun k_ hk => .inl (.inl hk)))
 have HO2 := Aside0.mk (show Kd.V (Kd.int .u8) 5 w w.heap.size (fun k_ => ((P1_ k_ ∨ P2_ k_ ∨ P3_ k_) ∨ w.heap.size ≤ k_)) (.slice A2 l2.length c2) l2 from Kd.V_mono hs2 (fun k_ hk => .inl (.inr (.inl hk))))
 have HO3 := Aside0.mk (show Kd.V (Kd.int .u8) 5 w w.heap.size (fun k_ => ((P1_ k_ ∨ P2_ k_ ∨ P3_ k_) ∨ w.heap.size ≤ k_)) (.slice A3 l3.length c3) l3 from Kd.V_mono hs3 (fun k_ hk => .inl (.inr (.inr hk))))
 have HB := Aside0.mk (Below.refl w.heap.size w)
 have H : ((decklelaw02_small.f k).bind fun t194 => (if (l1.length : Int) > 300 then (decklelaw02_CrcLinear.j0 k a0 l1 l2 l3 t194 true) else (if (l2.length : Int) = (l1.length : Int) then (decklelaw02_CrcLinear.j0 k a0 l1 l2 l3 t194 ((l3.length : Int) != (l1.length : Int))) else (decklelaw02_CrcLinear.j0 k a0 l1 l2 l3 t194 true)))) = some r := h
 clear h
 replace H := Option.bind_eq_some_iff.mp H
 obtain ⟨t194, A50, H⟩ := H
 replace H : (if (l1.length : Int) > 300 then (decklelaw02_CrcLinear.j0 k a0 l1 l2 l3 t194 true) else (if (l2.length : Int) = (l1.length : Int) then (decklelaw02_CrcLinear.j0 k a0 l1 l2 l3 t194 ((l3.length : Int) != (l1.length : Int))) else (decklelaw02_CrcLinear.j0 k a0 l1 l2 l3 t194 true))) = some r := H
 have A5 := Aside0.mk A50
 clear A50
 have HC6 := Aside0.mk H
 clear H
 go_enter Try.func6, Try.ntmps6
 go_upto_region 2 with (first | ((with_reducible refine gate_callee (f := 8) rfl ?_); refine goesL_ (some 13) rfl rfl Try.func8 (by kernel_rfl) rfl #[] rfl (by (try simp only [List.map_toArray, List.map_cons, List.map_nil]); first | done | rfl | (simp only [List.length_drop, List.length_take]; rfl)) ?_; (with_reducible refine (decklelaw02_small.calls k  t194 _ A5.out).mono ?_); rintro e w7 ⟨rfl, hb⟩; refine ⟨_, rfl, ?_⟩; have n0_ := Aside0.mk (Kd.V_below (by (with_reducible repeat (first | apply Kd.V_alloc | apply Kd.V_drewN | apply Kd.V_drew)); exact HO1.out) hb); have n1_ := Aside0.mk (Kd.V_below (by (with_reducible repeat (first | apply Kd.V_alloc | apply Kd.V_drewN | apply Kd.V_drew)); exact HO2.out) hb); have n2_ := Aside0.mk (Kd.V_below (by (with_reducible repeat (first | apply Kd.V_alloc | apply Kd.V_drewN | apply Kd.V_drew)); exact HO3.out) hb); have n3_ := Aside0.mk (below_step (by repeat (first | (with_reducible first | exact HB.out | apply below_alloc | apply pw_below_drewN | apply below_drew1) | exact HB.out)) hb); clear HO1; clear HO2; clear HO3; clear HB; have HO1 := n0_; have HO2 := n1_; have HO3 := n2_; have HB := n3_; clear n0_ n1_ n2_ n3_; (try clear hb); (try clear hb2); (try clear hk); (try clear hi)))
 (try simp only [Act.put, List.setIfInBounds_toArray, List.set_cons_zero, List.set_cons_succ])
 go_cut [30] (fun v30 wc => ∃ (kq : Nat) (x30_5 : Bool), v30 = .bool x30_5 ∧ Aside0 (decklelaw02_CrcLinear.j0 kq a0 l1 l2 l3 t194 x30_5 = some r) ∧ Aside0 (kq ≤ k) ∧ Aside0 (Kd.V (Kd.int .u8) 5 wc w.heap.size (fun k_ => ((P1_ k_ ∨ P2_ k_ ∨ P3_ k_) ∨ w.heap.size ≤ k_)) (.slice A1 l1.length c1) l1) ∧ Aside0 (Kd.V (Kd.int .u8) 5 wc w.heap.size (fun k_ => ((P1_ k_ ∨ P2_ k_ ∨ P3_ k_) ∨ w.heap.size ≤ k_)) (.slice A2 l2.length c2) l2) ∧ Aside0 (Kd.V (Kd.int .u8) 5 wc w.heap.size (fun k_ => ((P1_ k_ ∨ P2_ k_ ∨ P3_ k_) ∨ w.heap.size ≤ k_)) (.slice A3 l3.length c3) l3) ∧ Aside0 (Below w.heap.size w wc))
 case first =>
  have H := HC6.out
  clear HC6
  by_cases c8 : (l1.length : Int) > 300
  ·rw [if_pos c8] at H
   have c8b0 : decide (300 < (l1.length : Int)) = true := decide_eq_true c8
   have c8b1 : decide (300 < l1.length) = true := decide_eq_true (by omega)
   clear c8
   (first | rw [c8b0] | (simp only [i64_w, i32_w]; rw [c8b0]) | skip)
   have H' := Aside0.mk H
   clear H
   go_wp2_with (first | ((with_reducible refine gate_load24 (x := .tmp _) rfl ?_); (try (refine gate_guard (by rfl) ?_; dsimp only)); refine tab_load rfl rfl rfl (by (with_reducible repeat (first | refine blk_drewN ?_ _ | refine blk_drew ?_ | refine blk_alloc ?_ _)); exact Aside0.out (by assumption)) ?_) | ((with_reducible refine gate_load22 (x := .tmp _) rfl ?_); (try (refine gate_guard (by rfl) ?_; dsimp only)); refine tab_elem _ rfl rfl rfl (by (with_reducible repeat (first | refine blk_drewN ?_ _ | refine blk_drew ?_ | refine blk_alloc ?_ _)); exact Aside0.out (by assumption)) (of_decide_eq_true (by first | (with_reducible assumption) | assumption)) (of_decide_eq_true (by first | (with_reducible assumption) | assumption)) ?_) | ((with_reducible refine gate_store24 (x := .tmp _) (v := .tmp _) rfl ?_); refine tab_store rfl rfl rfl rfl rfl BK196.out ?_; intro ws_ hs_ hS_ hK_; have HKs_ := Aside0.mk hK_; clear hK_; have BKOs_ := Aside0.mk BK196.out; have n0_ := Aside0.mk hs_; have n1_ := Aside0.mk (hS_ _ _ GE196.out HB.out); clear BK196; clear HB; have BK196 := n0_; have HB := n1_; clear n0_ n1_ hs_ hS_))
   go_meet
   case rel => exact ⟨_, (true), (by first | rfl | (simp; done) | (simp [*]; done)), H', ⟨by first | omega | exact Nat.le_refl _⟩, ⟨by (with_reducible repeat (first | apply Kd.V_alloc | apply Kd.V_drewN | apply Kd.V_drew)); exact HO1.out⟩, ⟨by (with_reducible repeat (first | apply Kd.V_alloc | apply Kd.V_drewN | apply Kd.V_drew)); exact HO2.out⟩, ⟨by (with_reducible repeat (first | apply Kd.V_alloc | apply Kd.V_drewN | apply Kd.V_drew)); exact HO3.out⟩, ⟨by repeat (first | (with_reducible first | exact HB.out | apply below_alloc | apply pw_below_drewN | apply below_drew1) | exact HB.out)⟩⟩
  rw [if_neg c8] at H
  have c8b0 : decide (300 < (l1.length : Int)) = false := decide_eq_false c8
  have c8b1 : decide (300 < l1.length) = false := decide_eq_false (by omega)
  clear c8
  (first | rw [c8b0] | (simp only [i64_w, i32_w]; rw [c8b0]) | skip)
  by_cases c9 : (l2.length : Int) = (l1.length : Int)
  rotate_left
  ·rw [if_neg c9] at H
   have c9b0 : ((l2.length : Int) == (l1.length : Int)) = false := beq_eq_false_iff_ne.mpr c9
   have c9b1 : ((l2.length : Int) != (l1.length : Int)) = true := bne_iff_ne.mpr c9
   have c9b2 : (l2.length == l1.length) = false := by first | simpa using c9 | (simp at c9 ⊢; omega)
   have H' := Aside0.mk H
   clear H
   go_wp2_with (first | ((with_reducible refine gate_load24 (x := .tmp _) rfl ?_); (try (refine gate_guard (by rfl) ?_; dsimp only)); refine tab_load rfl rfl rfl (by (with_reducible repeat (first | refine blk_drewN ?_ _ | refine blk_drew ?_ | refine blk_alloc ?_ _)); exact Aside0.out (by assumption)) ?_) | ((with_reducible refine gate_load22 (x := .tmp _) rfl ?_); (try (refine gate_guard (by rfl) ?_; dsimp only)); refine tab_elem _ rfl rfl rfl (by (with_reducible repeat (first | refine blk_drewN ?_ _ | refine blk_drew ?_ | refine blk_alloc ?_ _)); exact Aside0.out (by assumption)) (of_decide_eq_true (by first | (with_reducible assumption) | assumption)) (of_decide_eq_true (by first | (with_reducible assumption) | assumption)) ?_) | ((with_reducible refine gate_store24 (x := .tmp _) (v := .tmp _) rfl ?_); refine tab_store rfl rfl rfl rfl rfl BK196.out ?_; intro ws_ hs_ hS_ hK_; have HKs_ := Aside0.mk hK_; clear hK_; have BKOs_ := Aside0.mk BK196.out; have n0_ := Aside0.mk hs_; have n1_ := Aside0.mk (hS_ _ _ GE196.out HB.out); clear BK196; clear HB; have BK196 := n0_; have HB := n1_; clear n0_ n1_ hs_ hS_))
   go_meet
   case rel => exact ⟨_, (true), (by first | rfl | (simp; done) | (simp [*]; done)), H', ⟨by first | omega | exact Nat.le_refl _⟩, ⟨by (with_reducible repeat (first | apply Kd.V_alloc | apply Kd.V_drewN | apply Kd.V_drew)); exact HO1.out⟩, ⟨by (with_reducible repeat (first | apply Kd.V_alloc | apply Kd.V_drewN | apply Kd.V_drew)); exact HO2.out⟩, ⟨by (with_reducible repeat (first | apply Kd.V_alloc | apply Kd.V_drewN | apply Kd.V_drew)); exact HO3.out⟩, ⟨by repeat (first | (with_reducible first | exact HB.out | apply below_alloc | apply pw_below_drewN | apply below_drew1) | exact HB.out)⟩⟩
  rw [if_pos c9] at H
  have c9b0 : ((l2.length : Int) == (l1.length : Int)) = true := beq_iff_eq.mpr c9
  have c9b1 : ((l2.length : Int) != (l1.length : Int)) = false := bne_eq_false_iff_eq.mpr c9
  have c9b2 : (l2.length == l1.length) = true := by first | simpa using c9 | (simp at c9 ⊢; omega)
  clear c9
  have H' := Aside0.mk H
  clear H
  go_wp2_with (first | ((with_reducible refine gate_load24 (x := .tmp _) rfl ?_); (try (refine gate_guard (by rfl) ?_; dsimp only)); refine tab_load rfl rfl rfl (by (with_reducible repeat (first | refine blk_drewN ?_ _ | refine blk_drew ?_ | refine blk_alloc ?_ _)); exact Aside0.out (by assumption)) ?_) | ((with_reducible refine gate_load22 (x := .tmp _) rfl ?_); (try (refine gate_guard (by rfl) ?_; dsimp only)); refine tab_elem _ rfl rfl rfl (by (with_reducible repeat (first | refine blk_drewN ?_ _ | refine blk_drew ?_ | refine blk_alloc ?_ _)); exact Aside0.out (by assumption)) (of_decide_eq_true (by first | (with_reducible assumption) | assumption)) (of_decide_eq_true (by first | (with_reducible assumption) | assumption)) ?_) | ((with_reducible refine gate_store24 (x := .tmp _) (v := .tmp _) rfl ?_); refine tab_store rfl rfl rfl rfl rfl BK196.out ?_; intro ws_ hs_ hS_ hK_; have HKs_ := Aside0.mk hK_; clear hK_; have BKOs_ := Aside0.mk BK196.out; have n0_ := Aside0.mk hs_; have n1_ := Aside0.mk (hS_ _ _ GE196.out HB.out); clear BK196; clear HB; have BK196 := n0_; have HB := n1_; clear n0_ n1_ hs_ hS_))
  go_meet
  case rel => exact ⟨_, (((l3.length : Int) != (l1.length : Int))), (by first | rfl | (simp; done) | (simp [*]; done)), H', ⟨by first | omega | exact Nat.le_refl _⟩, ⟨by (with_reducible repeat (first | apply Kd.V_alloc | apply Kd.V_drewN | apply Kd.V_drew)); exact HO1.out⟩, ⟨by (with_reducible repeat (first | apply Kd.V_alloc | apply Kd.V_drewN | apply Kd.V_drew)); exact HO2.out⟩, ⟨by (with_reducible repeat (first | apply Kd.V_alloc | apply Kd.V_drewN | apply Kd.V_drew)); exact HO3.out⟩, ⟨by repeat (first | (with_reducible first | exact HB.out | apply below_alloc | apply pw_below_drewN | apply below_drew1) | exact HB.out)⟩⟩
 case rest =>
  clear HC6
  try clear c1
  try clear c2
  try clear p2
  try clear c3
  try clear c6
  try clear c8
  try clear c8b0
  try clear c8b1
  try clear c9
  try clear c9b0
  try clear c9b1
  try clear c9b2
  obtain ⟨kq, x30_5, rfl, HA, HJ5, HO_1, HO_2, HO_3, HB⟩ := hcut
  cases kq with
  | zero => exact absurd HA.out (by simp [decklelaw02_CrcLinear.j0])
  | succ kj5 =>
   have H := HA.out
   clear HA
   simp only [decklelaw02_CrcLinear.j0] at H
   by_cases c10 : x30_5 = true
   ·subst c10
    have H1 : (some t194) = some r := by rw [if_pos rfl] at H; exact H
    clear H
    have H := H1
    clear H1
    obtain rfl := Option.some.inj H
    go_wp2_with (first | ((with_reducible refine gate_load24 (x := .tmp _) rfl ?_); (try (refine gate_guard (by rfl) ?_; dsimp only)); refine tab_load rfl rfl rfl (by (with_reducible repeat (first | refine blk_drewN ?_ _ | refine blk_drew ?_ | refine blk_alloc ?_ _)); exact Aside0.out (by assumption)) ?_) | ((with_reducible refine gate_load22 (x := .tmp _) rfl ?_); (try (refine gate_guard (by rfl) ?_; dsimp only)); refine tab_elem _ rfl rfl rfl (by (with_reducible repeat (first | refine blk_drewN ?_ _ | refine blk_drew ?_ | refine blk_alloc ?_ _)); exact Aside0.out (by assumption)) (of_decide_eq_true (by first | (with_reducible assumption) | assumption)) (of_decide_eq_true (by first | (with_reducible assumption) | assumption)) ?_) | ((with_reducible refine gate_store24 (x := .tmp _) (v := .tmp _) rfl ?_); refine tab_store rfl rfl rfl rfl rfl BK196.out ?_; intro ws_ hs_ hS_ hK_; have HKs_ := Aside0.mk hK_; clear hK_; have BKOs_ := Aside0.mk BK196.out; have n0_ := Aside0.mk hs_; have n1_ := Aside0.mk (hS_ _ _ GE196.out HB.out); clear BK196; clear HB; have BK196 := n0_; have HB := n1_; clear n0_ n1_ hs_ hS_))
    go_ret
    exact ⟨by first | rfl | (simp [errW_none, errW_some] <;> rfl) | (simp [*, errW_none, errW_some] <;> rfl), by repeat (first | (with_reducible first | exact HB.out | apply below_alloc | apply pw_below_drewN | apply below_drew1) | exact HB.out)⟩
   replace c10 := Bool.eq_false_iff.mpr c10
   subst c10
   have H1 : ((crc_Table.f a0).bind fun t195 => (decklelaw02_CrcLinear.l0 kj5 l1 l2 l3 t194 ([] : List Int) 0 t195)) = some r := by rw [if_neg (show ¬ (false = true) by decide)] at H; exact H
   clear H
   have H := H1
   clear H1
   replace H := Option.bind_eq_some_iff.mp H
   obtain ⟨t195, A110, H⟩ := H
   replace H : (decklelaw02_CrcLinear.l0 kj5 l1 l2 l3 t194 ([] : List Int) 0 t195) = some r := H
   have A11 := Aside0.mk A110
   clear A110
   have H' := Aside0.mk H
   clear H
   go_wp2_with (first | ((with_reducible refine gate_load24 (x := .tmp _) rfl ?_); (try (refine gate_guard (by rfl) ?_; dsimp only)); refine tab_load rfl rfl rfl (by (with_reducible repeat (first | refine blk_drewN ?_ _ | refine blk_drew ?_ | refine blk_alloc ?_ _)); exact Aside0.out (by assumption)) ?_) | ((with_reducible refine gate_load22 (x := .tmp _) rfl ?_); (try (refine gate_guard (by rfl) ?_; dsimp only)); refine tab_elem _ rfl rfl rfl (by (with_reducible repeat (first | refine blk_drewN ?_ _ | refine blk_drew ?_ | refine blk_alloc ?_ _)); exact Aside0.out (by assumption)) (of_decide_eq_true (by first | (with_reducible assumption) | assumption)) (of_decide_eq_true (by first | (with_reducible assumption) | assumption)) ?_) | ((with_reducible refine gate_store24 (x := .tmp _) (v := .tmp _) rfl ?_); refine tab_store rfl rfl rfl rfl rfl BK196.out ?_; intro ws_ hs_ hS_ hK_; have HKs_ := Aside0.mk hK_; clear hK_; have BKOs_ := Aside0.mk BK196.out; have n0_ := Aside0.mk hs_; have n1_ := Aside0.mk (hS_ _ _ GE196.out HB.out); clear BK196; clear HB; have BK196 := n0_; have HB := n1_; clear n0_ n1_ hs_ hS_) | ((with_reducible refine gate_callee (f := 9) rfl ?_); refine goesL_ (some 33) rfl rfl Try.func9 (by kernel_rfl) rfl #[.int .u32 a0] rfl (by (try simp only [List.map_toArray, List.map_cons, List.map_nil]); first | done | rfl | (simp only [List.length_drop, List.length_take]; rfl)) ?_; (with_reducible refine (crc_Table.calls a0 t195 _ A11.out).mono ?_); rintro e w12 ⟨rfl, hb⟩; refine ⟨_, rfl, ?_⟩; have n0_ := Aside0.mk (Kd.V_below (by (with_reducible repeat (first | apply Kd.V_alloc | apply Kd.V_drewN | apply Kd.V_drew)); exact HO_1.out) hb); have n1_ := Aside0.mk (Kd.V_below (by (with_reducible repeat (first | apply Kd.V_alloc | apply Kd.V_drewN | apply Kd.V_drew)); exact HO_2.out) hb); have n2_ := Aside0.mk (Kd.V_below (by (with_reducible repeat (first | apply Kd.V_alloc | apply Kd.V_drewN | apply Kd.V_drew)); exact HO_3.out) hb); have n3_ := Aside0.mk (below_step (by repeat (first | (with_reducible first | exact HB.out | apply below_alloc | apply pw_below_drewN | apply below_drew1) | exact HB.out)) hb); clear HO_1; clear HO_2; clear HO_3; clear HB; have HO_1 := n0_; have HO_2 := n1_; have HO_3 := n2_; have HB := n3_; clear n0_ n1_ n2_ n3_; (try clear hb); (try clear hb2); (try clear hk); (try clear hi)) | ((with_reducible refine gate_dst (N := 10) rfl ?_); (try (refine gate_guard (by rfl) ?_; dsimp only)); refine box_event ?hg (N := 10) ?hd (cs := (tabC ([] : List Int))) (t := 24) ?hr ?_; (case hd => rfl); (case hg => rfl); (case hr => first | exact tab_box_run rfl rfl | exact tab_alloc_run rfl); intro gb196 hg w13 hbox hb; have n0_ := Aside0.mk (Kd.V_below (Kd.V_elderB (by (with_reducible repeat (first | apply Kd.V_alloc | apply Kd.V_drewN | apply Kd.V_drew)); exact HO_1.out) gb196 (Nat.le_of_eq hg.symm)) hb); have n1_ := Aside0.mk (Kd.V_below (Kd.V_elderB (by (with_reducible repeat (first | apply Kd.V_alloc | apply Kd.V_drewN | apply Kd.V_drew)); exact HO_2.out) gb196 (Nat.le_of_eq hg.symm)) hb); have n2_ := Aside0.mk (Kd.V_below (Kd.V_elderB (by (with_reducible repeat (first | apply Kd.V_alloc | apply Kd.V_drewN | apply Kd.V_drew)); exact HO_3.out) gb196 (Nat.le_of_eq hg.symm)) hb); have n3_ := Aside0.mk (below_step (by repeat (first | (with_reducible first | exact HB.out | apply below_alloc | apply pw_below_drewN | apply below_drew1) | exact HB.out)) hb); have n4_ := Aside0.mk (hbox); have n5_ := Aside0.mk ((by rw [hg]; exact (below_size (by repeat (first | (with_reducible first | exact HB.out | apply below_alloc | apply pw_below_drewN | apply below_drew1) | exact HB.out))) : w.heap.size ≤ gb196)); have n6_ := Aside0.mk ((by rw [hg]; exact (below_size (by repeat (first | (with_reducible first | exact HB.out | apply below_alloc | apply pw_below_drewN | apply below_drew1) | exact HB.out))) : w.heap.size ≤ gb196)); clear HO_1; clear HO_2; clear HO_3; clear HB; have HO_1 := n0_; have HO_2 := n1_; have HO_3 := n2_; have HB := n3_; have BK196 := n4_; have GW196 := n5_; have GE196 := n6_; clear n0_ n1_ n2_ n3_ n4_ n5_ n6_; clear hb hbox hg; have hfz14_0 := blk_frozen BK196.out 0))
   go_loopg [11, 12] kj5 (fun kq v11 v12 w' => ∃ (x11_2 : List Int) (x12_2 : Int), v12 = .int .i64 x12_2 ∧ Aside0 (decklelaw02_CrcLinear.l0 kq l1 l2 l3 t194 x11_2 x12_2 t195 = some r) ∧ Aside0 (kq ≤ kj5) ∧ Aside0 (Kd.V (Kd.int .u8) 5 w' w.heap.size (fun k_ => ((P1_ k_ ∨ P2_ k_ ∨ P3_ k_) ∨ w.heap.size ≤ k_) ∧ some k_ ≠ (v11 : Value).ownBlock ∧ k_ ≠ gb196) (.slice A1 l1.length c1) l1) ∧ Aside0 (Kd.V (Kd.int .u8) 5 w' w.heap.size (fun k_ => ((P1_ k_ ∨ P2_ k_ ∨ P3_ k_) ∨ w.heap.size ≤ k_) ∧ some k_ ≠ (v11 : Value).ownBlock ∧ k_ ≠ gb196) (.slice A2 l2.length c2) l2) ∧ Aside0 (Kd.V (Kd.int .u8) 5 w' w.heap.size (fun k_ => ((P1_ k_ ∨ P2_ k_ ∨ P3_ k_) ∨ w.heap.size ≤ k_) ∧ some k_ ≠ (v11 : Value).ownBlock ∧ k_ ≠ gb196) (.slice A3 l3.length c3) l3) ∧ Aside0 (Kd.R (Kd.int .u8) 5 w' w.heap.size (fun k_ => (w.heap.size ≤ k_)) v11 x11_2) ∧ Aside0 (w'.heap[gb196]? = some (.cells (tabC t195) 24 (0, 0))) ∧ Aside0 (Below w.heap.size w w'))
   case atStart => exact ⟨(([] : List Int)), (0), (by first | rfl | (simp; done) | (simp [*]; done)), H', ⟨Nat.le_refl _⟩, ⟨by (with_reducible repeat (first | apply Kd.V_alloc | apply Kd.V_drewN | apply Kd.V_drew)); exact Kd.V_mono (Kd.V_keep (Kd.V_mono HO_1.out (fun k_ hk => (⟨hk, hk.2⟩ : _ ∧ k_ ≠ gb196))) HKs_.out (fun _ hk => hk.2)) (fun _ hk => ⟨hk.1.1, ⟨(by simp [Value.ownBlock]), hk.1.2⟩⟩)⟩, ⟨by (with_reducible repeat (first | apply Kd.V_alloc | apply Kd.V_drewN | apply Kd.V_drew)); exact Kd.V_mono (Kd.V_keep (Kd.V_mono HO_2.out (fun k_ hk => (⟨hk, hk.2⟩ : _ ∧ k_ ≠ gb196))) HKs_.out (fun _ hk => hk.2)) (fun _ hk => ⟨hk.1.1, ⟨(by simp [Value.ownBlock]), hk.1.2⟩⟩)⟩, ⟨by (with_reducible repeat (first | apply Kd.V_alloc | apply Kd.V_drewN | apply Kd.V_drew)); exact Kd.V_mono (Kd.V_keep (Kd.V_mono HO_3.out (fun k_ hk => (⟨hk, hk.2⟩ : _ ∧ k_ ≠ gb196))) HKs_.out (fun _ hk => hk.2)) (fun _ hk => ⟨hk.1.1, ⟨(by simp [Value.ownBlock]), hk.1.2⟩⟩)⟩, ⟨by first | exact Kd.R_nil _ _ _ _ _ | exact Kd.N_nil _ _ _ _ _ | exact Kd.V_nil _ _ _ _ _ | exact Kd.Q_nil _ _ _ _ _ | exact Kd.S_nil _ _ _ _ _⟩, ⟨by (with_reducible repeat (first | refine blk_drewN ?_ _ | refine blk_drew ?_ | refine blk_alloc ?_ _)); exact BK196.out⟩, ⟨by repeat (first | (with_reducible first | exact HB.out | apply below_alloc | apply pw_below_drewN | apply below_drew1 | refine below_set ?_ GE196.out) | exact HB.out)⟩⟩
   case round =>
    clear H'
    try clear c1
    try clear c2
    try clear p2
    try clear c3
    try clear c6
    try clear c8
    try clear c8b0
    try clear c8b1
    try clear c9
    try clear c9b0
    try clear c9b1
    try clear c9b2
    try clear c10
    try clear hcz14_0
    try clear hfz14_0
    try clear p2
    obtain ⟨x11_2, x12_2, rfl, HA, HK2, HO_1, HO_2, HO_3, HO_11, BK196, HB⟩ := hrel
    cases gk with
    | zero => exact absurd HA.out (by simp [decklelaw02_CrcLinear.l0])
    | succ k2 =>
     have H := HA.out
     clear HA
     simp only [decklelaw02_CrcLinear.l0] at H
     by_cases c15 : x12_2 < (l1.length : Int)
     ·rw [if_pos c15] at H
      have c15b0 : decide (x12_2 < (l1.length : Int)) = true := decide_eq_true c15
      clear c15
      by_cases c16 : 0 ≤ x12_2
      ·rw [if_pos c16] at H
       have c16b0 : decide (0 ≤ x12_2) = true := decide_eq_true c16
       clear c16
       by_cases c17 : x12_2 < (l2.length : Int)
       ·rw [if_pos c17] at H
        have c17b0 : decide (x12_2 < (l2.length : Int)) = true := decide_eq_true c17
        clear c17
        by_cases c18 : x12_2 < (l3.length : Int)
        ·rw [if_pos c18] at H
         have c18b0 : decide (x12_2 < (l3.length : Int)) = true := decide_eq_true c18
         clear c18
         by_cases c19 : x11_2.length < 140737488355328
         ·rw [if_pos c19] at H
          have LMc19 := Aside0.mk c19
          clear c19
          obtain ⟨y200, hy200⟩ : ∃ y_ : List Int, y_ = (x11_2 ++ [Go.bits .xor .u8 (Go.bits .xor .u8 (rd l1 x12_2) (rd l2 x12_2)) (rd l3 x12_2)]) := ⟨_, rfl⟩
          replace H : (decklelaw02_CrcLinear.l0 k2 l1 l2 l3 t194 y200 (wrap64 (x12_2 + 1)) t195) = some r := by first | (rw [hy200]; with_reducible exact H) | (have H2_ := (Option.bind_some _ _).symm.trans H; rw [hy200]; with_reducible exact H2_) | (have H2_ := (Option.bind_some _ _).symm.trans H; with_reducible exact H2_) | with_reducible exact H | (rw [hy200]; exact H) | exact H
          have Ny200 := Aside0.mk hy200
          clear hy200
          have H' := Aside0.mk H
          clear H
          try go_wp2_with (first | ((with_reducible refine gate_load24 (x := .tmp _) rfl ?_); (try (refine gate_guard (by rfl) ?_; dsimp only)); refine tab_load rfl rfl rfl (by (with_reducible repeat (first | refine blk_drewN ?_ _ | refine blk_drew ?_ | refine blk_alloc ?_ _)); exact Aside0.out (by assumption)) ?_) | ((with_reducible refine gate_load22 (x := .tmp _) rfl ?_); (try (refine gate_guard (by rfl) ?_; dsimp only)); refine tab_elem _ rfl rfl rfl (by (with_reducible repeat (first | refine blk_drewN ?_ _ | refine blk_drew ?_ | refine blk_alloc ?_ _)); exact Aside0.out (by assumption)) (of_decide_eq_true (by first | (with_reducible assumption) | assumption)) (of_decide_eq_true (by first | (with_reducible assumption) | assumption)) ?_) | ((with_reducible refine gate_store24 (x := .tmp _) (v := .tmp _) rfl ?_); refine tab_store rfl rfl rfl rfl rfl BK196.out ?_; intro ws_ hs_ hS_ hK_; have HKs_ := Aside0.mk hK_; clear hK_; have BKOs_ := Aside0.mk BK196.out; have n0_ := Aside0.mk hs_; have n1_ := Aside0.mk (hS_ _ _ GE196.out HB.out); clear BK196; clear HB; have BK196 := n0_; have HB := n1_; clear n0_ n1_ hs_ hS_))
          replace HO_1 := Aside0.mk (Kd.V_drew HO_1.out)
          replace HO_2 := Aside0.mk (Kd.V_drew HO_2.out)
          replace HO_3 := Aside0.mk (Kd.V_drew HO_3.out)
          replace HO_11 := Aside0.mk (Kd.R_drew HO_11.out)
          replace BK196 := Aside0.mk (blk_drew BK196.out)
          replace HB := Aside0.mk (below_drew1 HB.out)
          have p197 : 0 ≤ (x12_2 : Int) := of_decide_eq_true (by first | (with_reducible assumption) | assumption)
          have q197 : x12_2 < (l1.length : Int) := of_decide_eq_true (by first | (with_reducible assumption) | assumption)
          obtain ⟨ad197, e197, hx197_0⟩ := Kd.at_int (Kd.V_reads' HO_1.out).2.2 x12_2 p197 q197
          cases e197
          replace p197 := eq_true p197
          replace q197 := eq_true q197
          have p198 : 0 ≤ (x12_2 : Int) := of_decide_eq_true (by first | (with_reducible assumption) | assumption)
          have q198 : x12_2 < (l2.length : Int) := of_decide_eq_true (by first | (with_reducible assumption) | assumption)
          obtain ⟨ad198, e198, hx198_0⟩ := Kd.at_int (Kd.V_reads' HO_2.out).2.2 x12_2 p198 q198
          cases e198
          replace p198 := eq_true p198
          replace q198 := eq_true q198
          have p199 : 0 ≤ (x12_2 : Int) := of_decide_eq_true (by first | (with_reducible assumption) | assumption)
          have q199 : x12_2 < (l3.length : Int) := of_decide_eq_true (by first | (with_reducible assumption) | assumption)
          obtain ⟨ad199, e199, hx199_0⟩ := Kd.at_int (Kd.V_reads' HO_3.out).2.2 x12_2 p199 q199
          cases e199
          replace p199 := eq_true p199
          replace q199 := eq_true q199
          refine start_ (n := 18) (S := fun w' => w'.cell? (ad197.add (x12_2).toNat) = some (.int .u8 (rd l1 x12_2)) ∧ w'.cell? (ad198.add (x12_2).toNat) = some (.int .u8 (rd l2 x12_2)) ∧ w'.cell? (ad199.add (x12_2).toNat) = some (.int .u8 (rd l3 x12_2))) (ds := [15]) tq65 (by kernel_rfl) rfl rfl ⟨hx197_0, hx198_0, hx199_0⟩ (fun hHeld => ?_); refine with_tabW decklelaw02_CrcLinear.tab9 decklelaw02_CrcLinear.bits9 (fun HT_ HW_ => ?_)
          generalize wr.drew = w20 at HO_1 HO_2 HO_3 HO_11 BK196 HB hx197_0 hx198_0 hx199_0 hHeld ⊢
          refine pure_ (i := 0) (N := some 40) (v := ?_) (a' := ?_) tq63 rfl rfl (any_of HT_.out (by kernel_rfl)) (fun _ _ _ h => h) (Or.inl ⟨by rfl, ?_⟩) ?_ ?_
          rotate_left
          ·intro w'
           go_simp
           with_reducible rfl
          rotate_left
          ·simp only [Act.put, sA, sZ, sS, i64_w, i32_w]
           rfl
          refine pure_ (i := 1) (N := some 41) (v := ?_) (a' := ?_) tq61 rfl rfl (any_of HT_.out (by kernel_rfl)) (fun _ _ _ h => h) (Or.inl ⟨by rfl, ?_⟩) ?_ ?_
          rotate_left
          ·intro w'
           go_simp
           with_reducible rfl
          rotate_left
          ·simp only [Act.put, sA, sZ, sS, i64_w, i32_w]
           rfl
          refine pure_ (i := 2) (N := some 42) (v := ?_) (a' := ?_) tq59 rfl rfl (any_of HT_.out (by kernel_rfl)) (fun _ _ _ h => h) (Or.inl ⟨by rfl, ?_⟩) ?_ ?_
          rotate_left
          ·intro w'
           go_simp
           with_reducible rfl
          rotate_left
          ·simp only [Act.put, sA, sZ, sS, i64_w, i32_w]
           rfl
          refine pure_ (i := 3) (N := some 43) (v := ?_) (a' := ?_) tq57 rfl rfl (any_of HT_.out (by kernel_rfl)) (fun _ _ _ h => h) (Or.inl ⟨by rfl, ?_⟩) ?_ ?_
          rotate_left
          ·intro w'
           go_simp
           with_reducible rfl
          rotate_left
          ·simp only [Act.put, sA, sZ, sS, i64_w, i32_w]
           rfl
          refine pure_ (i := 5) (N := some 45) (v := ?_) (a' := ?_) tq55 rfl rfl (any_of HT_.out (by kernel_rfl)) (fun _ _ _ h => h) (Or.inl ⟨by rfl, ?_⟩) ?_ ?_
          rotate_left
          ·intro w'
           go_simp
           with_reducible rfl
          rotate_left
          ·simp only [Act.put, sA, sZ, sS, i64_w, i32_w]
           rfl
          refine pure_ (i := 6) (N := some 46) (v := ?_) (a' := ?_) tq53 rfl rfl (any_of HT_.out (by kernel_rfl)) (fun _ _ _ h => h) (Or.inl ⟨by rfl, ?_⟩) ?_ ?_
          rotate_left
          ·intro w'
           go_simp
           with_reducible rfl
          rotate_left
          ·simp only [Act.put, sA, sZ, sS, i64_w, i32_w]
           rfl
          refine pure_ (i := 7) (N := some 47) (v := ?_) (a' := ?_) tq51 rfl rfl (any_of HT_.out (by kernel_rfl)) (fun _ _ _ h => h) (Or.inl ⟨by rfl, ?_⟩) ?_ ?_
          rotate_left
          ·intro w'
           go_simp
           with_reducible rfl
          rotate_left
          ·simp only [Act.put, sA, sZ, sS, i64_w, i32_w]
           rfl
          refine pure_ (i := 10) (N := some 50) (v := ?_) (a' := ?_) tq49 rfl rfl (any_of HT_.out (by kernel_rfl)) (fun _ _ _ h => h) (Or.inl ⟨by rfl, ?_⟩) ?_ ?_
          rotate_left
          ·intro w'
           go_simp
           with_reducible rfl
          rotate_left
          ·simp only [Act.put, sA, sZ, sS, i64_w, i32_w]
           rfl
          refine pure_ (i := 11) (N := some 51) (v := ?_) (a' := ?_) tq47 rfl rfl (any_of HT_.out (by kernel_rfl)) (fun _ _ _ h => h) (Or.inl ⟨by rfl, ?_⟩) ?_ ?_
          rotate_left
          ·intro w'
           go_simp
           with_reducible rfl
          rotate_left
          ·simp only [Act.put, sA, sZ, sS, i64_w, i32_w]
           rfl
          refine pure_ (i := 12) (N := some 52) (v := ?_) (a' := ?_) tq45 rfl rfl (any_of HT_.out (by kernel_rfl)) (fun _ _ _ h => h) (Or.inl ⟨by rfl, ?_⟩) ?_ ?_
          rotate_left
          ·intro w'
           go_simp
           with_reducible rfl
          rotate_left
          ·simp only [Act.put, sA, sZ, sS, i64_w, i32_w]
           rfl
          refine take_ (i := 4) (N := some 44) (v := ?_) (a' := ?_) tq43 rfl rfl (take_ofW HT_.out HW_.out (by kernel_rfl)) (fun _ _ _ h => h) (Or.inl ⟨by rfl, ?_⟩) hHeld ?_ ?_
          rotate_left
          ·rintro w' ⟨s0, s1, s2⟩
           (first | (rw [tab_load_run (x := .tmp 10) rfl rfl (by assumption)]) | (go_simp; with_reducible rfl))
          rotate_left
          ·simp only [Act.put, sA, sZ, sS, i64_w, i32_w]
           rfl
          refine take_ (i := 8) (N := some 48) (v := ?_) (a' := ?_) tq38 rfl rfl (take_ofW HT_.out HW_.out (by kernel_rfl)) (fun _ _ _ h => h) (Or.inl ⟨by rfl, ?_⟩) hHeld ?_ ?_
          rotate_left
          ·rintro w' ⟨s0, s1, s2⟩
           (first | (rw [tab_load_run (x := .tmp 10) rfl rfl (by assumption)]) | (go_simp; with_reducible rfl))
          rotate_left
          ·simp only [Act.put, sA, sZ, sS, i64_w, i32_w]
           rfl
          refine pure_ (i := 9) (N := some 49) (v := ?_) (a' := ?_) tq30 rfl rfl (any_of HT_.out (by kernel_rfl)) (fun _ _ _ h => h) (Or.inl ⟨by rfl, ?_⟩) ?_ ?_
          rotate_left
          ·intro w'
           go_simp
           with_reducible rfl
          rotate_left
          ·simp only [Act.put, sA, sZ, sS, i64_w, i32_w]
           rfl
          refine take_ (i := 13) (N := some 53) (v := ?_) (a' := ?_) tq22 rfl rfl (take_ofW HT_.out HW_.out (by kernel_rfl)) (fun _ _ _ h => h) (Or.inl ⟨by rfl, ?_⟩) hHeld ?_ ?_
          rotate_left
          ·rintro w' ⟨s0, s1, s2⟩
           (first | (rw [tab_load_run (x := .tmp 10) rfl rfl (by assumption)]) | (go_simp; with_reducible rfl))
          rotate_left
          ·simp only [Act.put, sA, sZ, sS, i64_w, i32_w]
           rfl
          refine pure_ (i := 14) (N := some 54) (v := ?_) (a' := ?_) tq16 rfl rfl (any_of HT_.out (by kernel_rfl)) (fun _ _ _ h => h) (Or.inl ⟨by rfl, ?_⟩) ?_ ?_
          rotate_left
          ·intro w'
           go_simp
           with_reducible rfl
          rotate_left
          ·simp only [Act.put, sA, sZ, sS, i64_w, i32_w]
           rfl
          refine last_ (i := 15) (N := some 55) tq12 rfl rfl (one_of HT_.out (by kernel_rfl)) (by decide) (fun K hK => ?_)
          refine value_ (w1 := ?_) (v := ?_) (by rfl) rfl ?_ ?_
          rotate_left 2
          ·go_simp
           constructor
           ·rfl
           rfl
          refine hK.out _ _ ?_
          clear hK K
          refine norm_ (a' := ?_) ?_ ?_
          rotate_left
          ·show Act.put _ (some 55) _ = _
           simp only [Act.put, sA, sZ, sS, i64_w, i32_w]
           rfl
          refine one_ (i := 16) (N := some 56) tq9 rfl rfl (one_of HT_.out (by kernel_rfl)) (by decide) (fun K hK => ?_)
          refine Kd.R_append_step (Kd.int .u8) (w0 := w) w.heap.size (by rfl) (.tmp 40) (.tmp 55) 28 5 (.int .u8 0) 1 rfl Try.underlying28 info5 rfl (by decide) (by omega) u11 x11_2 (Go.bits .xor .u8 (Go.bits .xor .u8 (rd l1 x12_2) (rd l2 x12_2)) (rd l3 x12_2)) [.int .u8 (Go.bits .xor .u8 (Go.bits .xor .u8 (rd l1 x12_2) (rd l2 x12_2)) (rd l3 x12_2))] (fun k_ => (w.heap.size ≤ k_)) (fun _ => False) rfl rfl ?aP (fun _ hk => hk.elim) ?aF ?aO ?aB ?aS ?aL ?_
          (case aP => exact rfl)
          (case aB => exact HB.out)
          (case aF => exact (fun k_ hk => (Nat.le_trans (below_size HB.out) hk)))
          (case aO => exact HO_11.out)
          (case aS => exact (below_size HB.out))
          (case aL => have := LMc19.out; omega)
          intro v201 w21 ho hb hg hat
          (first | have HS0_ := cell_grown hg (hHeld.1) (by (first | rw [add_block] | (show some (Addr.add _ _).block ≠ _; rw [add_block]) | skip); exact (fun e_ => by have ho_ := V_okb HO_1.out (by have h0_ := of_eq_true p197; have h1_ := of_eq_true q197; omega) (by decide); first | exact ho_.2 e_ | exact ho_.1.2 e_ | exact ho_.1.1.2 e_ | exact ho_.1.1.1.2 e_ | exact ho_.1.1.1.1.2 e_ | exact ho_.1.1.1.1.1.2 e_ | exact ho_.1.1.1.1.1.1.2 e_ | exact ho_.2.1 e_ | exact ho_.2.2 e_ | exact ho_.2.2.1 e_ | exact ho_.2.2.2 e_ | exact ho_.2.2.2.1 e_ | exact ho_.2.2.2.2 e_ | exact ho_.1.2.1 e_ | exact ho_.1.2.2 e_ | exact ho_.1.2.2.1 e_ | exact ho_.1.2.2.2 e_ | exact ho_.1.2.2.2.1 e_ | exact ho_.1.2.2.2.2 e_ | exact ho_.1.1.2.1 e_ | exact ho_.1.1.2.2 e_ | exact ho_.1.1.2.2.1 e_ | exact ho_.1.1.2.2.2 e_ | exact ho_.1.1.2.2.2.1 e_ | exact ho_.1.1.2.2.2.2 e_)) | have HS0_ := cell_grown hg (cell_unalloc (hHeld.1) (by (first | rw [add_block] | (show some (Addr.add _ _).block ≠ _; rw [add_block]) | skip); exact V_ltb HO_1.out (by have h0_ := of_eq_true p197; have h1_ := of_eq_true q197; omega) (by decide))) (by (first | rw [add_block] | (show some (Addr.add _ _).block ≠ _; rw [add_block]) | skip); exact (fun e_ => by have ho_ := V_okb HO_1.out (by have h0_ := of_eq_true p197; have h1_ := of_eq_true q197; omega) (by decide); first | exact ho_.2 e_ | exact ho_.1.2 e_ | exact ho_.1.1.2 e_ | exact ho_.1.1.1.2 e_ | exact ho_.1.1.1.1.2 e_ | exact ho_.1.1.1.1.1.2 e_ | exact ho_.1.1.1.1.1.1.2 e_ | exact ho_.2.1 e_ | exact ho_.2.2 e_ | exact ho_.2.2.1 e_ | exact ho_.2.2.2 e_ | exact ho_.2.2.2.1 e_ | exact ho_.2.2.2.2 e_ | exact ho_.1.2.1 e_ | exact ho_.1.2.2 e_ | exact ho_.1.2.2.1 e_ | exact ho_.1.2.2.2 e_ | exact ho_.1.2.2.2.1 e_ | exact ho_.1.2.2.2.2 e_ | exact ho_.1.1.2.1 e_ | exact ho_.1.1.2.2 e_ | exact ho_.1.1.2.2.1 e_ | exact ho_.1.1.2.2.2 e_ | exact ho_.1.1.2.2.2.1 e_ | exact ho_.1.1.2.2.2.2 e_)))
          (first | have HS1_ := cell_grown hg (hHeld.2.1) (by (first | rw [add_block] | (show some (Addr.add _ _).block ≠ _; rw [add_block]) | skip); exact (fun e_ => by have ho_ := V_okb HO_2.out (by have h0_ := of_eq_true p198; have h1_ := of_eq_true q198; omega) (by decide); first | exact ho_.2 e_ | exact ho_.1.2 e_ | exact ho_.1.1.2 e_ | exact ho_.1.1.1.2 e_ | exact ho_.1.1.1.1.2 e_ | exact ho_.1.1.1.1.1.2 e_ | exact ho_.1.1.1.1.1.1.2 e_ | exact ho_.2.1 e_ | exact ho_.2.2 e_ | exact ho_.2.2.1 e_ | exact ho_.2.2.2 e_ | exact ho_.2.2.2.1 e_ | exact ho_.2.2.2.2 e_ | exact ho_.1.2.1 e_ | exact ho_.1.2.2 e_ | exact ho_.1.2.2.1 e_ | exact ho_.1.2.2.2 e_ | exact ho_.1.2.2.2.1 e_ | exact ho_.1.2.2.2.2 e_ | exact ho_.1.1.2.1 e_ | exact ho_.1.1.2.2 e_ | exact ho_.1.1.2.2.1 e_ | exact ho_.1.1.2.2.2 e_ | exact ho_.1.1.2.2.2.1 e_ | exact ho_.1.1.2.2.2.2 e_)) | have HS1_ := cell_grown hg (cell_unalloc (hHeld.2.1) (by (first | rw [add_block] | (show some (Addr.add _ _).block ≠ _; rw [add_block]) | skip); exact V_ltb HO_2.out (by have h0_ := of_eq_true p198; have h1_ := of_eq_true q198; omega) (by decide))) (by (first | rw [add_block] | (show some (Addr.add _ _).block ≠ _; rw [add_block]) | skip); exact (fun e_ => by have ho_ := V_okb HO_2.out (by have h0_ := of_eq_true p198; have h1_ := of_eq_true q198; omega) (by decide); first | exact ho_.2 e_ | exact ho_.1.2 e_ | exact ho_.1.1.2 e_ | exact ho_.1.1.1.2 e_ | exact ho_.1.1.1.1.2 e_ | exact ho_.1.1.1.1.1.2 e_ | exact ho_.1.1.1.1.1.1.2 e_ | exact ho_.2.1 e_ | exact ho_.2.2 e_ | exact ho_.2.2.1 e_ | exact ho_.2.2.2 e_ | exact ho_.2.2.2.1 e_ | exact ho_.2.2.2.2 e_ | exact ho_.1.2.1 e_ | exact ho_.1.2.2 e_ | exact ho_.1.2.2.1 e_ | exact ho_.1.2.2.2 e_ | exact ho_.1.2.2.2.1 e_ | exact ho_.1.2.2.2.2 e_ | exact ho_.1.1.2.1 e_ | exact ho_.1.1.2.2 e_ | exact ho_.1.1.2.2.1 e_ | exact ho_.1.1.2.2.2 e_ | exact ho_.1.1.2.2.2.1 e_ | exact ho_.1.1.2.2.2.2 e_)))
          (first | have HS2_ := cell_grown hg (hHeld.2.2) (by (first | rw [add_block] | (show some (Addr.add _ _).block ≠ _; rw [add_block]) | skip); exact (fun e_ => by have ho_ := V_okb HO_3.out (by have h0_ := of_eq_true p199; have h1_ := of_eq_true q199; omega) (by decide); first | exact ho_.2 e_ | exact ho_.1.2 e_ | exact ho_.1.1.2 e_ | exact ho_.1.1.1.2 e_ | exact ho_.1.1.1.1.2 e_ | exact ho_.1.1.1.1.1.2 e_ | exact ho_.1.1.1.1.1.1.2 e_ | exact ho_.2.1 e_ | exact ho_.2.2 e_ | exact ho_.2.2.1 e_ | exact ho_.2.2.2 e_ | exact ho_.2.2.2.1 e_ | exact ho_.2.2.2.2 e_ | exact ho_.1.2.1 e_ | exact ho_.1.2.2 e_ | exact ho_.1.2.2.1 e_ | exact ho_.1.2.2.2 e_ | exact ho_.1.2.2.2.1 e_ | exact ho_.1.2.2.2.2 e_ | exact ho_.1.1.2.1 e_ | exact ho_.1.1.2.2 e_ | exact ho_.1.1.2.2.1 e_ | exact ho_.1.1.2.2.2 e_ | exact ho_.1.1.2.2.2.1 e_ | exact ho_.1.1.2.2.2.2 e_)) | have HS2_ := cell_grown hg (cell_unalloc (hHeld.2.2) (by (first | rw [add_block] | (show some (Addr.add _ _).block ≠ _; rw [add_block]) | skip); exact V_ltb HO_3.out (by have h0_ := of_eq_true p199; have h1_ := of_eq_true q199; omega) (by decide))) (by (first | rw [add_block] | (show some (Addr.add _ _).block ≠ _; rw [add_block]) | skip); exact (fun e_ => by have ho_ := V_okb HO_3.out (by have h0_ := of_eq_true p199; have h1_ := of_eq_true q199; omega) (by decide); first | exact ho_.2 e_ | exact ho_.1.2 e_ | exact ho_.1.1.2 e_ | exact ho_.1.1.1.2 e_ | exact ho_.1.1.1.1.2 e_ | exact ho_.1.1.1.1.1.2 e_ | exact ho_.1.1.1.1.1.1.2 e_ | exact ho_.2.1 e_ | exact ho_.2.2 e_ | exact ho_.2.2.1 e_ | exact ho_.2.2.2 e_ | exact ho_.2.2.2.1 e_ | exact ho_.2.2.2.2 e_ | exact ho_.1.2.1 e_ | exact ho_.1.2.2 e_ | exact ho_.1.2.2.1 e_ | exact ho_.1.2.2.2 e_ | exact ho_.1.2.2.2.1 e_ | exact ho_.1.2.2.2.2 e_ | exact ho_.1.1.2.1 e_ | exact ho_.1.1.2.2 e_ | exact ho_.1.1.2.2.1 e_ | exact ho_.1.1.2.2.2 e_ | exact ho_.1.1.2.2.2.1 e_ | exact ho_.1.1.2.2.2.2 e_)))
          rw [← Ny200.out] at ho
          replace HO_1 := Aside0.mk (Kd.V_afterv (ok := (fun k_ => QQ P1_ P2_ P3_ w k_ ∧ k_ ≠ gb196)) (Kd.V_mono HO_1.out (fun _ hk => ⟨⟨hk.1, hk.2.2⟩, hk.2.1⟩)) hg hat)
          replace HO_2 := Aside0.mk (Kd.V_afterv (ok := (fun k_ => QQ P1_ P2_ P3_ w k_ ∧ k_ ≠ gb196)) (Kd.V_mono HO_2.out (fun _ hk => ⟨⟨hk.1, hk.2.2⟩, hk.2.1⟩)) hg hat)
          replace HO_3 := Aside0.mk (Kd.V_afterv (ok := (fun k_ => QQ P1_ P2_ P3_ w k_ ∧ k_ ≠ gb196)) (Kd.V_mono HO_3.out (fun _ hk => ⟨⟨hk.1, hk.2.2⟩, hk.2.1⟩)) hg hat)
          replace BK196 := Aside0.mk (blk_grown (g := gb196) (o := .cells (tabC t195) 24 (0, 0)) BK196.out hg (Kd.R_ne HO_11.out BK196.out (by decide)))
          replace HB := Aside0.mk (hb)
          have HO202 := Aside0.mk (ho)
          clear HO_11
          clear ho hb hg hat
          refine hK.out _ _ ⟨HS0_, HS1_, HS2_⟩ (fun hHeld => ?_)
          clear hK K
          refine norm_ (a' := ?_) ?_ ?_
          rotate_left
          ·show Act.put _ (some 56) _ = _
           simp only [Act.put, sA, sZ, sS, i64_w, i32_w]
           rfl
          refine pure_ (i := 17) (N := some 11) (v := ?_) (a' := ?_) tq6 rfl rfl (any_of HT_.out (by kernel_rfl)) (fun _ _ _ h => h) (Or.inl ⟨by rfl, ?_⟩) ?_ ?_
          rotate_left
          ·intro w'
           go_simp
           with_reducible rfl
          rotate_left
          ·simp only [Act.put, sA, sZ, sS, i64_w, i32_w]
           rfl
          refine done_ (done_of HT_.out (by kernel_rfl)) ?_
          try go_wp2_with (first | ((with_reducible refine gate_load24 (x := .tmp _) rfl ?_); (try (refine gate_guard (by rfl) ?_; dsimp only)); refine tab_load rfl rfl rfl (Aside0.out (by assumption)) ?_) | ((with_reducible refine gate_load22 (x := .tmp _) rfl ?_); (try (refine gate_guard (by rfl) ?_; dsimp only)); refine tab_elem _ rfl rfl rfl (Aside0.out (by assumption)) (of_decide_eq_true (by first | (with_reducible assumption) | assumption)) (of_decide_eq_true (by first | (with_reducible assumption) | assumption)) ?_) | ((with_reducible refine gate_store24 (x := .tmp _) (v := .tmp _) rfl ?_); refine tab_store rfl rfl rfl rfl rfl BK196.out ?_; intro ws_ hs_ hS_ hK_; have HKs_ := Aside0.mk hK_; clear hK_; have BKOs_ := Aside0.mk BK196.out; have n0_ := Aside0.mk hs_; have n1_ := Aside0.mk (hS_ _ _ GE196.out HB.out); clear BK196; clear HB; have BK196 := n0_; have HB := n1_; clear n0_ n1_ hs_ hS_))
          go_roundg k2
          case measure => have := HJ5.out; have := HK2.out; omega
          case rel => exact ⟨(y200), (wrap64 (x12_2 + 1)), (by first | rfl | (simp; done) | (simp [*]; done)), H', ⟨by have := HJ5.out; have := HK2.out; omega⟩, ⟨by (with_reducible repeat (first | apply Kd.V_alloc | apply Kd.V_drewN | apply Kd.V_drew)); exact Kd.V_mono HO_1.out (fun _ hk => ⟨hk.1.1, hk.2, hk.1.2⟩)⟩, ⟨by (with_reducible repeat (first | apply Kd.V_alloc | apply Kd.V_drewN | apply Kd.V_drew)); exact Kd.V_mono HO_2.out (fun _ hk => ⟨hk.1.1, hk.2, hk.1.2⟩)⟩, ⟨by (with_reducible repeat (first | apply Kd.V_alloc | apply Kd.V_drewN | apply Kd.V_drew)); exact Kd.V_mono HO_3.out (fun _ hk => ⟨hk.1.1, hk.2, hk.1.2⟩)⟩, ⟨by (with_reducible repeat (first | apply Kd.R_alloc | apply Kd.R_drewN | apply Kd.R_drew)); exact HO202.out⟩, ⟨by (with_reducible repeat (first | refine blk_drewN ?_ _ | refine blk_drew ?_ | refine blk_alloc ?_ _)); exact BK196.out⟩, ⟨by repeat (first | (with_reducible first | exact HB.out | apply below_alloc | apply pw_below_drewN | apply below_drew1 | refine below_set ?_ GE196.out) | exact HB.out)⟩⟩
         rw [if_neg c19] at H
         exact absurd H (by simp)
        rw [if_neg c18] at H
        exact absurd H (by simp)
       rw [if_neg c17] at H
       exact absurd H (by simp)
      rw [if_neg c16] at H
      exact absurd H (by simp)
     rw [if_neg c15] at H
     have c15b0 : decide (x12_2 < (l1.length : Int)) = false := decide_eq_false c15
     clear c15
     by_cases c22 : t194 = true
     rotate_left
     ·replace c22 := Bool.eq_false_iff.mpr c22
      subst c22
      have H1 : (none) = some r := by rw [if_neg (show ¬ (false = true) by decide)] at H; exact H
      clear H
      have H := H1
      clear H1
      exact absurd H (by simp)
     subst c22
     have H1 : ((crc_Sum.f k2 t195 (([x11_2] : List (List Int)))).bind fun t206 => ((crc_Sum.f k2 t195 (([l1] : List (List Int)))).bind fun t210 => ((crc_Sum.f k2 t195 (([l2] : List (List Int)))).bind fun t214 => ((crc_Sum.f k2 t195 (([l3] : List (List Int)))).bind fun t218 => (some (t206 == (Go.bits .xor .u32 (Go.bits .xor .u32 t210 t214) t218))))))) = some r := by rw [if_pos rfl] at H; exact H
     clear H
     have H := H1
     clear H1
     obtain ⟨y203, hy203⟩ : ∃ y_ : List (List Int), y_ = (([x11_2] : List (List Int))) := ⟨_, rfl⟩
     replace H : ((crc_Sum.f k2 t195 y203).bind fun t206 => ((crc_Sum.f k2 t195 (([l1] : List (List Int)))).bind fun t210 => ((crc_Sum.f k2 t195 (([l2] : List (List Int)))).bind fun t214 => ((crc_Sum.f k2 t195 (([l3] : List (List Int)))).bind fun t218 => (some (t206 == (Go.bits .xor .u32 (Go.bits .xor .u32 t210 t214) t218))))))) = some r := by first | (rw [hy203]; with_reducible exact H) | (have H2_ := (Option.bind_some _ _).symm.trans H; rw [hy203]; with_reducible exact H2_) | (have H2_ := (Option.bind_some _ _).symm.trans H; with_reducible exact H2_) | with_reducible exact H | (rw [hy203]; exact H) | exact H
     have Ny203 := Aside0.mk hy203
     clear hy203
     replace H := Option.bind_eq_some_iff.mp H
     obtain ⟨t206, A230, H⟩ := H
     replace H : ((crc_Sum.f k2 t195 (([l1] : List (List Int)))).bind fun t210 => ((crc_Sum.f k2 t195 (([l2] : List (List Int)))).bind fun t214 => ((crc_Sum.f k2 t195 (([l3] : List (List Int)))).bind fun t218 => (some (t206 == (Go.bits .xor .u32 (Go.bits .xor .u32 t210 t214) t218)))))) = some r := H
     have A23 := Aside0.mk A230
     clear A230
     obtain ⟨y207, hy207⟩ : ∃ y_ : List (List Int), y_ = (([l1] : List (List Int))) := ⟨_, rfl⟩
     replace H : ((crc_Sum.f k2 t195 y207).bind fun t210 => ((crc_Sum.f k2 t195 (([l2] : List (List Int)))).bind fun t214 => ((crc_Sum.f k2 t195 (([l3] : List (List Int)))).bind fun t218 => (some (t206 == (Go.bits .xor .u32 (Go.bits .xor .u32 t210 t214) t218)))))) = some r := by first | (rw [hy207]; with_reducible exact H) | (have H2_ := (Option.bind_some _ _).symm.trans H; rw [hy207]; with_reducible exact H2_) | (have H2_ := (Option.bind_some _ _).symm.trans H; with_reducible exact H2_) | with_reducible exact H | (rw [hy207]; exact H) | exact H
     have Ny207 := Aside0.mk hy207
     clear hy207
     replace H := Option.bind_eq_some_iff.mp H
     obtain ⟨t210, A240, H⟩ := H
     replace H : ((crc_Sum.f k2 t195 (([l2] : List (List Int)))).bind fun t214 => ((crc_Sum.f k2 t195 (([l3] : List (List Int)))).bind fun t218 => (some (t206 == (Go.bits .xor .u32 (Go.bits .xor .u32 t210 t214) t218))))) = some r := H
     have A24 := Aside0.mk A240
     clear A240
     obtain ⟨y211, hy211⟩ : ∃ y_ : List (List Int), y_ = (([l2] : List (List Int))) := ⟨_, rfl⟩
     replace H : ((crc_Sum.f k2 t195 y211).bind fun t214 => ((crc_Sum.f k2 t195 (([l3] : List (List Int)))).bind fun t218 => (some (t206 == (Go.bits .xor .u32 (Go.bits .xor .u32 t210 t214) t218))))) = some r := by first | (rw [hy211]; with_reducible exact H) | (have H2_ := (Option.bind_some _ _).symm.trans H; rw [hy211]; with_reducible exact H2_) | (have H2_ := (Option.bind_some _ _).symm.trans H; with_reducible exact H2_) | with_reducible exact H | (rw [hy211]; exact H) | exact H
     have Ny211 := Aside0.mk hy211
     clear hy211
     replace H := Option.bind_eq_some_iff.mp H
     obtain ⟨t214, A250, H⟩ := H
     replace H : ((crc_Sum.f k2 t195 (([l3] : List (List Int)))).bind fun t218 => (some (t206 == (Go.bits .xor .u32 (Go.bits .xor .u32 t210 t214) t218)))) = some r := H
     have A25 := Aside0.mk A250
     clear A250
     obtain ⟨y215, hy215⟩ : ∃ y_ : List (List Int), y_ = (([l3] : List (List Int))) := ⟨_, rfl⟩
     replace H : ((crc_Sum.f k2 t195 y215).bind fun t218 => (some (t206 == (Go.bits .xor .u32 (Go.bits .xor .u32 t210 t214) t218)))) = some r := by first | (rw [hy215]; with_reducible exact H) | (have H2_ := (Option.bind_some _ _).symm.trans H; rw [hy215]; with_reducible exact H2_) | (have H2_ := (Option.bind_some _ _).symm.trans H; with_reducible exact H2_) | with_reducible exact H | (rw [hy215]; exact H) | exact H
     have Ny215 := Aside0.mk hy215
     clear hy215
     replace H := Option.bind_eq_some_iff.mp H
     obtain ⟨t218, A260, H⟩ := H
     replace H : (some (t206 == (Go.bits .xor .u32 (Go.bits .xor .u32 t210 t214) t218))) = some r := H
     have A26 := Aside0.mk A260
     clear A260
     obtain rfl := Option.some.inj H
     try go_wp2_with (first | ((with_reducible refine gate_load24 (x := .tmp _) rfl ?_); (try (refine gate_guard (by rfl) ?_; dsimp only)); refine tab_load rfl rfl rfl (Aside0.out (by assumption)) ?_) | ((with_reducible refine gate_load22 (x := .tmp _) rfl ?_); (try (refine gate_guard (by rfl) ?_; dsimp only)); refine tab_elem _ rfl rfl rfl (Aside0.out (by assumption)) (of_decide_eq_true (by first | (with_reducible assumption) | assumption)) (of_decide_eq_true (by first | (with_reducible assumption) | assumption)) ?_) | ((with_reducible refine gate_store24 (x := .tmp _) (v := .tmp _) rfl ?_); refine tab_store rfl rfl rfl rfl rfl BK196.out ?_; intro ws_ hs_ hS_ hK_; have HKs_ := Aside0.mk hK_; clear hK_; have BKOs_ := Aside0.mk BK196.out; have n0_ := Aside0.mk hs_; have n1_ := Aside0.mk (hS_ _ _ GE196.out HB.out); clear BK196; clear HB; have BK196 := n0_; have HB := n1_; clear n0_ n1_ hs_ hS_))
     replace HO_1 := Aside0.mk (Kd.V_drew HO_1.out)
     replace HO_2 := Aside0.mk (Kd.V_drew HO_2.out)
     replace HO_3 := Aside0.mk (Kd.V_drew HO_3.out)
     replace HO_11 := Aside0.mk (Kd.R_drew HO_11.out)
     replace BK196 := Aside0.mk (blk_drew BK196.out)
     replace HB := Aside0.mk (below_drew1 HB.out)
     obtain ⟨Ao28, co28, eo28⟩ := Kd.R_slice HO_11.out
     (first | subst eo28 | (injection eo28 with f1_ f2_ f3_; have f4_ := f1_.symm; have f5_ := f3_.symm; clear f1_ f2_ f3_; subst f4_; subst f5_))
     refine start_ (n := 23) (S := fun w' => w'.heap[gb196]? = some (.cells (tabC t195) 24 (0, 0))) (ds := []) tq64 (by kernel_rfl) rfl rfl (BK196.out) (fun hHeld => ?_); refine with_tabW decklelaw02_CrcLinear.tab10 decklelaw02_CrcLinear.bits10 (fun HT_ HW_ => ?_)
     generalize wr.drew = w27 at HO_1 HO_2 HO_3 HO_11 BK196 HB hHeld ⊢
     refine pure_ (i := 0) (N := some 57) (v := ?_) (a' := ?_) tq62 rfl rfl (any_of HT_.out (by kernel_rfl)) (fun _ _ _ h => h) (Or.inl ⟨by rfl, ?_⟩) ?_ ?_
     rotate_left
     ·intro w'
      go_simp
      with_reducible rfl
     rotate_left
     ·simp only [Act.put, sA, sZ, sS, i64_w, i32_w]
      rfl
     refine pure_ (i := 1) (N := some 58) (v := ?_) (a' := ?_) tq60 rfl rfl (any_of HT_.out (by kernel_rfl)) (fun _ _ _ h => h) (Or.inl ⟨by rfl, ?_⟩) ?_ ?_
     rotate_left
     ·intro w'
      go_simp
      with_reducible rfl
     rotate_left
     ·simp only [Act.put, sA, sZ, sS, i64_w, i32_w]
      rfl
     refine pure_ (i := 3) (N := some 60) (v := ?_) (a' := ?_) tq58 rfl rfl (any_of HT_.out (by kernel_rfl)) (fun _ _ _ h => h) (Or.inl ⟨by rfl, ?_⟩) ?_ ?_
     rotate_left
     ·intro w'
      go_simp
      with_reducible rfl
     rotate_left
     ·simp only [Act.put, sA, sZ, sS, i64_w, i32_w]
      rfl
     refine pure_ (i := 7) (N := some 64) (v := ?_) (a' := ?_) tq56 rfl rfl (any_of HT_.out (by kernel_rfl)) (fun _ _ _ h => h) (Or.inl ⟨by rfl, ?_⟩) ?_ ?_
     rotate_left
     ·intro w'
      go_simp
      with_reducible rfl
     rotate_left
     ·simp only [Act.put, sA, sZ, sS, i64_w, i32_w]
      rfl
     refine pure_ (i := 11) (N := some 68) (v := ?_) (a' := ?_) tq54 rfl rfl (any_of HT_.out (by kernel_rfl)) (fun _ _ _ h => h) (Or.inl ⟨by rfl, ?_⟩) ?_ ?_
     rotate_left
     ·intro w'
      go_simp
      with_reducible rfl
     rotate_left
     ·simp only [Act.put, sA, sZ, sS, i64_w, i32_w]
      rfl
     refine pure_ (i := 16) (N := some 73) (v := ?_) (a' := ?_) tq52 rfl rfl (any_of HT_.out (by kernel_rfl)) (fun _ _ _ h => h) (Or.inl ⟨by rfl, ?_⟩) ?_ ?_
     rotate_left
     ·intro w'
      go_simp
      with_reducible rfl
     rotate_left
     ·simp only [Act.put, sA, sZ, sS, i64_w, i32_w]
      rfl
     refine take_ (i := 2) (N := some 59) (v := ?_) (a' := ?_) tq50 rfl rfl (take_ofW HT_.out HW_.out (by kernel_rfl)) (fun _ _ _ h => h) (Or.inl ⟨by rfl, ?_⟩) hHeld ?_ ?_
     rotate_left
     ·intro w' s0
      (first | (rw [tab_load_run (x := .tmp 10) rfl rfl (by assumption)]) | (go_simp; with_reducible rfl))
     rotate_left
     ·simp only [Act.put, sA, sZ, sS, i64_w, i32_w]
      rfl
     refine take_ (i := 6) (N := some 63) (v := ?_) (a' := ?_) tq48 rfl rfl (take_ofW HT_.out HW_.out (by kernel_rfl)) (fun _ _ _ h => h) (Or.inl ⟨by rfl, ?_⟩) hHeld ?_ ?_
     rotate_left
     ·intro w' s0
      (first | (rw [tab_load_run (x := .tmp 10) rfl rfl (by assumption)]) | (go_simp; with_reducible rfl))
     rotate_left
     ·simp only [Act.put, sA, sZ, sS, i64_w, i32_w]
      rfl
     refine take_ (i := 10) (N := some 67) (v := ?_) (a' := ?_) tq46 rfl rfl (take_ofW HT_.out HW_.out (by kernel_rfl)) (fun _ _ _ h => h) (Or.inl ⟨by rfl, ?_⟩) hHeld ?_ ?_
     rotate_left
     ·intro w' s0
      (first | (rw [tab_load_run (x := .tmp 10) rfl rfl (by assumption)]) | (go_simp; with_reducible rfl))
     rotate_left
     ·simp only [Act.put, sA, sZ, sS, i64_w, i32_w]
      rfl
     refine take_ (i := 15) (N := some 72) (v := ?_) (a' := ?_) tq44 rfl rfl (take_ofW HT_.out HW_.out (by kernel_rfl)) (fun _ _ _ h => h) (Or.inl ⟨by rfl, ?_⟩) hHeld ?_ ?_
     rotate_left
     ·intro w' s0
      (first | (rw [tab_load_run (x := .tmp 10) rfl rfl (by assumption)]) | (go_simp; with_reducible rfl))
     rotate_left
     ·simp only [Act.put, sA, sZ, sS, i64_w, i32_w]
      rfl
     refine join_ (σ := Value × Value × Value × Value) 5 tq5 (fun s_ => [(61, s_.1), (62, .int .u32 t206), (65, s_.2.1), (66, .int .u32 t210), (69, s_.2.2.1), (70, .int .u32 t214), (74, s_.2.2.2), (71, .int .u32 (Go.bits .xor .u32 t210 t214))]) (fun s_ w' => (w'.heap[gb196]? = some (.cells (tabC t195) 24 (0, 0))) ∧ (VN w' w (fun k_ => QQ P1_ P2_ P3_ w k_ ∧ NB s_.2.1 k_ ∧ NB s_.2.2.1 k_ ∧ NB s_.2.2.2 k_ ∧ k_ ≠ gb196) s_.1 y203) ∧ (VN w' w (fun k_ => QQ P1_ P2_ P3_ w k_ ∧ NB s_.1 k_ ∧ NB s_.2.2.1 k_ ∧ NB s_.2.2.2 k_ ∧ k_ ≠ gb196) s_.2.1 y207) ∧ (VN w' w (fun k_ => QQ P1_ P2_ P3_ w k_ ∧ NB s_.1 k_ ∧ NB s_.2.1 k_ ∧ NB s_.2.2.2 k_ ∧ k_ ≠ gb196) s_.2.2.1 y211) ∧ (VN w' w (fun k_ => QQ P1_ P2_ P3_ w k_ ∧ NB s_.1 k_ ∧ NB s_.2.1 k_ ∧ NB s_.2.2.1 k_ ∧ k_ ≠ gb196) s_.2.2.2 y215) ∧ (VV w' w (fun k_ => QQ P1_ P2_ P3_ w k_ ∧ NB s_.1 k_ ∧ NB s_.2.1 k_ ∧ NB s_.2.2.1 k_ ∧ NB s_.2.2.2 k_ ∧ k_ ≠ gb196) (.slice A1 l1.length c1) l1) ∧ (VV w' w (fun k_ => QQ P1_ P2_ P3_ w k_ ∧ NB s_.1 k_ ∧ NB s_.2.1 k_ ∧ NB s_.2.2.1 k_ ∧ NB s_.2.2.2 k_ ∧ k_ ≠ gb196) (.slice A2 l2.length c2) l2) ∧ (VV w' w (fun k_ => QQ P1_ P2_ P3_ w k_ ∧ NB s_.1 k_ ∧ NB s_.2.1 k_ ∧ NB s_.2.2.1 k_ ∧ NB s_.2.2.2 k_ ∧ k_ ≠ gb196) (.slice A3 l3.length c3) l3) ∧ (w'.heap[gb196]? = some (.cells (tabC t195) 24 (0, 0))) ∧ (Below w.heap.size w w')) ?_ ?_
     rotate_left
     ·intro hJ4_5_8_9_12_13_17
      refine join_ (σ := Value × Value × Value) 6 tq8 (fun s_ => [(61, s_.1), (62, .int .u32 t206), (65, s_.2.1), (66, .int .u32 t210), (69, s_.2.2), (70, .int .u32 t214), (71, .int .u32 (Go.bits .xor .u32 t210 t214))]) (fun s_ w' => (w'.heap[gb196]? = some (.cells (tabC t195) 24 (0, 0))) ∧ (VN w' w (fun k_ => QQ P1_ P2_ P3_ w k_ ∧ NB s_.2.1 k_ ∧ NB s_.2.2 k_ ∧ k_ ≠ gb196) s_.1 y203) ∧ (VN w' w (fun k_ => QQ P1_ P2_ P3_ w k_ ∧ NB s_.1 k_ ∧ NB s_.2.2 k_ ∧ k_ ≠ gb196) s_.2.1 y207) ∧ (VN w' w (fun k_ => QQ P1_ P2_ P3_ w k_ ∧ NB s_.1 k_ ∧ NB s_.2.1 k_ ∧ k_ ≠ gb196) s_.2.2 y211) ∧ (VV w' w (fun k_ => QQ P1_ P2_ P3_ w k_ ∧ NB s_.1 k_ ∧ NB s_.2.1 k_ ∧ NB s_.2.2 k_ ∧ k_ ≠ gb196) (.slice A1 l1.length c1) l1) ∧ (VV w' w (fun k_ => QQ P1_ P2_ P3_ w k_ ∧ NB s_.1 k_ ∧ NB s_.2.1 k_ ∧ NB s_.2.2 k_ ∧ k_ ≠ gb196) (.slice A2 l2.length c2) l2) ∧ (VV w' w (fun k_ => QQ P1_ P2_ P3_ w k_ ∧ NB s_.1 k_ ∧ NB s_.2.1 k_ ∧ NB s_.2.2 k_ ∧ k_ ≠ gb196) (.slice A3 l3.length c3) l3) ∧ (w'.heap[gb196]? = some (.cells (tabC t195) 24 (0, 0))) ∧ (Below w.heap.size w w')) ?_ ?_
      rotate_left
      ·intro hJ4_5_8_9_12_13
       refine join_ (σ := Value × Value × Value × Value) 7 tq10 (fun s_ => [(61, s_.1), (62, .int .u32 t206), (65, s_.2.1), (66, .int .u32 t210), (69, s_.2.2.1), (74, s_.2.2.2)]) (fun s_ w' => (w'.heap[gb196]? = some (.cells (tabC t195) 24 (0, 0))) ∧ (VN w' w (fun k_ => QQ P1_ P2_ P3_ w k_ ∧ NB s_.2.1 k_ ∧ NB s_.2.2.1 k_ ∧ NB s_.2.2.2 k_ ∧ k_ ≠ gb196) s_.1 y203) ∧ (VN w' w (fun k_ => QQ P1_ P2_ P3_ w k_ ∧ NB s_.1 k_ ∧ NB s_.2.2.1 k_ ∧ NB s_.2.2.2 k_ ∧ k_ ≠ gb196) s_.2.1 y207) ∧ (VN w' w (fun k_ => QQ P1_ P2_ P3_ w k_ ∧ NB s_.1 k_ ∧ NB s_.2.1 k_ ∧ NB s_.2.2.2 k_ ∧ k_ ≠ gb196) s_.2.2.1 y211) ∧ (VN w' w (fun k_ => QQ P1_ P2_ P3_ w k_ ∧ NB s_.1 k_ ∧ NB s_.2.1 k_ ∧ NB s_.2.2.1 k_ ∧ k_ ≠ gb196) s_.2.2.2 y215) ∧ (VV w' w (fun k_ => QQ P1_ P2_ P3_ w k_ ∧ NB s_.1 k_ ∧ NB s_.2.1 k_ ∧ NB s_.2.2.1 k_ ∧ NB s_.2.2.2 k_ ∧ k_ ≠ gb196) (.slice A1 l1.length c1) l1) ∧ (VV w' w (fun k_ => QQ P1_ P2_ P3_ w k_ ∧ NB s_.1 k_ ∧ NB s_.2.1 k_ ∧ NB s_.2.2.1 k_ ∧ NB s_.2.2.2 k_ ∧ k_ ≠ gb196) (.slice A2 l2.length c2) l2) ∧ (VV w' w (fun k_ => QQ P1_ P2_ P3_ w k_ ∧ NB s_.1 k_ ∧ NB s_.2.1 k_ ∧ NB s_.2.2.1 k_ ∧ NB s_.2.2.2 k_ ∧ k_ ≠ gb196) (.slice A3 l3.length c3) l3) ∧ (w'.heap[gb196]? = some (.cells (tabC t195) 24 (0, 0))) ∧ (Below w.heap.size w w')) ?_ ?_
       rotate_left
       ·intro hJ4_5_8_9_12_17
        refine join_ (σ := Value × Value × Value) 8 tq15 (fun s_ => [(61, s_.1), (62, .int .u32 t206), (65, s_.2.1), (66, .int .u32 t210), (69, s_.2.2)]) (fun s_ w' => (w'.heap[gb196]? = some (.cells (tabC t195) 24 (0, 0))) ∧ (VN w' w (fun k_ => QQ P1_ P2_ P3_ w k_ ∧ NB s_.2.1 k_ ∧ NB s_.2.2 k_ ∧ k_ ≠ gb196) s_.1 y203) ∧ (VN w' w (fun k_ => QQ P1_ P2_ P3_ w k_ ∧ NB s_.1 k_ ∧ NB s_.2.2 k_ ∧ k_ ≠ gb196) s_.2.1 y207) ∧ (VN w' w (fun k_ => QQ P1_ P2_ P3_ w k_ ∧ NB s_.1 k_ ∧ NB s_.2.1 k_ ∧ k_ ≠ gb196) s_.2.2 y211) ∧ (VV w' w (fun k_ => QQ P1_ P2_ P3_ w k_ ∧ NB s_.1 k_ ∧ NB s_.2.1 k_ ∧ NB s_.2.2 k_ ∧ k_ ≠ gb196) (.slice A1 l1.length c1) l1) ∧ (VV w' w (fun k_ => QQ P1_ P2_ P3_ w k_ ∧ NB s_.1 k_ ∧ NB s_.2.1 k_ ∧ NB s_.2.2 k_ ∧ k_ ≠ gb196) (.slice A2 l2.length c2) l2) ∧ (VV w' w (fun k_ => QQ P1_ P2_ P3_ w k_ ∧ NB s_.1 k_ ∧ NB s_.2.1 k_ ∧ NB s_.2.2 k_ ∧ k_ ≠ gb196) (.slice A3 l3.length c3) l3) ∧ (w'.heap[gb196]? = some (.cells (tabC t195) 24 (0, 0))) ∧ (Below w.heap.size w w')) ?_ ?_
        rotate_left
        ·intro hJ4_5_8_9_12
         refine join_ (σ := Value × Value × Value) 8 tq14 (fun s_ => [(61, s_.1), (62, .int .u32 t206), (65, s_.2.1), (66, .int .u32 t210), (74, s_.2.2)]) (fun s_ w' => (w'.heap[gb196]? = some (.cells (tabC t195) 24 (0, 0))) ∧ (VN w' w (fun k_ => QQ P1_ P2_ P3_ w k_ ∧ NB s_.2.1 k_ ∧ NB s_.2.2 k_ ∧ k_ ≠ gb196) s_.1 y203) ∧ (VN w' w (fun k_ => QQ P1_ P2_ P3_ w k_ ∧ NB s_.1 k_ ∧ NB s_.2.2 k_ ∧ k_ ≠ gb196) s_.2.1 y207) ∧ (VN w' w (fun k_ => QQ P1_ P2_ P3_ w k_ ∧ NB s_.1 k_ ∧ NB s_.2.1 k_ ∧ k_ ≠ gb196) s_.2.2 y215) ∧ (VV w' w (fun k_ => QQ P1_ P2_ P3_ w k_ ∧ NB s_.1 k_ ∧ NB s_.2.1 k_ ∧ NB s_.2.2 k_ ∧ k_ ≠ gb196) (.slice A1 l1.length c1) l1) ∧ (VV w' w (fun k_ => QQ P1_ P2_ P3_ w k_ ∧ NB s_.1 k_ ∧ NB s_.2.1 k_ ∧ NB s_.2.2 k_ ∧ k_ ≠ gb196) (.slice A2 l2.length c2) l2) ∧ (VV w' w (fun k_ => QQ P1_ P2_ P3_ w k_ ∧ NB s_.1 k_ ∧ NB s_.2.1 k_ ∧ NB s_.2.2 k_ ∧ k_ ≠ gb196) (.slice A3 l3.length c3) l3) ∧ (w'.heap[gb196]? = some (.cells (tabC t195) 24 (0, 0))) ∧ (Below w.heap.size w w')) ?_ ?_
         rotate_left
         ·intro hJ4_5_8_9_17
          refine join_ (σ := Value × Value × Value × Value) 8 tq13 (fun s_ => [(61, s_.1), (62, .int .u32 t206), (65, s_.2.1), (69, s_.2.2.1), (74, s_.2.2.2)]) (fun s_ w' => (w'.heap[gb196]? = some (.cells (tabC t195) 24 (0, 0))) ∧ (VN w' w (fun k_ => QQ P1_ P2_ P3_ w k_ ∧ NB s_.2.1 k_ ∧ NB s_.2.2.1 k_ ∧ NB s_.2.2.2 k_ ∧ k_ ≠ gb196) s_.1 y203) ∧ (VN w' w (fun k_ => QQ P1_ P2_ P3_ w k_ ∧ NB s_.1 k_ ∧ NB s_.2.2.1 k_ ∧ NB s_.2.2.2 k_ ∧ k_ ≠ gb196) s_.2.1 y207) ∧ (VN w' w (fun k_ => QQ P1_ P2_ P3_ w k_ ∧ NB s_.1 k_ ∧ NB s_.2.1 k_ ∧ NB s_.2.2.2 k_ ∧ k_ ≠ gb196) s_.2.2.1 y211) ∧ (VN w' w (fun k_ => QQ P1_ P2_ P3_ w k_ ∧ NB s_.1 k_ ∧ NB s_.2.1 k_ ∧ NB s_.2.2.1 k_ ∧ k_ ≠ gb196) s_.2.2.2 y215) ∧ (VV w' w (fun k_ => QQ P1_ P2_ P3_ w k_ ∧ NB s_.1 k_ ∧ NB s_.2.1 k_ ∧ NB s_.2.2.1 k_ ∧ NB s_.2.2.2 k_ ∧ k_ ≠ gb196) (.slice A1 l1.length c1) l1) ∧ (VV w' w (fun k_ => QQ P1_ P2_ P3_ w k_ ∧ NB s_.1 k_ ∧ NB s_.2.1 k_ ∧ NB s_.2.2.1 k_ ∧ NB s_.2.2.2 k_ ∧ k_ ≠ gb196) (.slice A2 l2.length c2) l2) ∧ (VV w' w (fun k_ => QQ P1_ P2_ P3_ w k_ ∧ NB s_.1 k_ ∧ NB s_.2.1 k_ ∧ NB s_.2.2.1 k_ ∧ NB s_.2.2.2 k_ ∧ k_ ≠ gb196) (.slice A3 l3.length c3) l3) ∧ (w'.heap[gb196]? = some (.cells (tabC t195) 24 (0, 0))) ∧ (Below w.heap.size w w')) ?_ ?_
          rotate_left
          ·intro hJ4_5_8_12_17
           refine join_ (σ := Value × Value) 9 tq21 (fun s_ => [(61, s_.1), (62, .int .u32 t206), (65, s_.2), (66, .int .u32 t210)]) (fun s_ w' => (w'.heap[gb196]? = some (.cells (tabC t195) 24 (0, 0))) ∧ (VN w' w (fun k_ => QQ P1_ P2_ P3_ w k_ ∧ NB s_.2 k_ ∧ k_ ≠ gb196) s_.1 y203) ∧ (VN w' w (fun k_ => QQ P1_ P2_ P3_ w k_ ∧ NB s_.1 k_ ∧ k_ ≠ gb196) s_.2 y207) ∧ (VV w' w (fun k_ => QQ P1_ P2_ P3_ w k_ ∧ NB s_.1 k_ ∧ NB s_.2 k_ ∧ k_ ≠ gb196) (.slice A1 l1.length c1) l1) ∧ (VV w' w (fun k_ => QQ P1_ P2_ P3_ w k_ ∧ NB s_.1 k_ ∧ NB s_.2 k_ ∧ k_ ≠ gb196) (.slice A2 l2.length c2) l2) ∧ (VV w' w (fun k_ => QQ P1_ P2_ P3_ w k_ ∧ NB s_.1 k_ ∧ NB s_.2 k_ ∧ k_ ≠ gb196) (.slice A3 l3.length c3) l3) ∧ (w'.heap[gb196]? = some (.cells (tabC t195) 24 (0, 0))) ∧ (Below w.heap.size w w')) ?_ ?_
           rotate_left
           ·intro hJ4_5_8_9
            refine join_ (σ := Value × Value × Value) 9 tq20 (fun s_ => [(61, s_.1), (62, .int .u32 t206), (65, s_.2.1), (69, s_.2.2)]) (fun s_ w' => (w'.heap[gb196]? = some (.cells (tabC t195) 24 (0, 0))) ∧ (VN w' w (fun k_ => QQ P1_ P2_ P3_ w k_ ∧ NB s_.2.1 k_ ∧ NB s_.2.2 k_ ∧ k_ ≠ gb196) s_.1 y203) ∧ (VN w' w (fun k_ => QQ P1_ P2_ P3_ w k_ ∧ NB s_.1 k_ ∧ NB s_.2.2 k_ ∧ k_ ≠ gb196) s_.2.1 y207) ∧ (VN w' w (fun k_ => QQ P1_ P2_ P3_ w k_ ∧ NB s_.1 k_ ∧ NB s_.2.1 k_ ∧ k_ ≠ gb196) s_.2.2 y211) ∧ (VV w' w (fun k_ => QQ P1_ P2_ P3_ w k_ ∧ NB s_.1 k_ ∧ NB s_.2.1 k_ ∧ NB s_.2.2 k_ ∧ k_ ≠ gb196) (.slice A1 l1.length c1) l1) ∧ (VV w' w (fun k_ => QQ P1_ P2_ P3_ w k_ ∧ NB s_.1 k_ ∧ NB s_.2.1 k_ ∧ NB s_.2.2 k_ ∧ k_ ≠ gb196) (.slice A2 l2.length c2) l2) ∧ (VV w' w (fun k_ => QQ P1_ P2_ P3_ w k_ ∧ NB s_.1 k_ ∧ NB s_.2.1 k_ ∧ NB s_.2.2 k_ ∧ k_ ≠ gb196) (.slice A3 l3.length c3) l3) ∧ (w'.heap[gb196]? = some (.cells (tabC t195) 24 (0, 0))) ∧ (Below w.heap.size w w')) ?_ ?_
            rotate_left
            ·intro hJ4_5_8_12
             refine join_ (σ := Value × Value × Value) 9 tq19 (fun s_ => [(61, s_.1), (62, .int .u32 t206), (65, s_.2.1), (74, s_.2.2)]) (fun s_ w' => (w'.heap[gb196]? = some (.cells (tabC t195) 24 (0, 0))) ∧ (VN w' w (fun k_ => QQ P1_ P2_ P3_ w k_ ∧ NB s_.2.1 k_ ∧ NB s_.2.2 k_ ∧ k_ ≠ gb196) s_.1 y203) ∧ (VN w' w (fun k_ => QQ P1_ P2_ P3_ w k_ ∧ NB s_.1 k_ ∧ NB s_.2.2 k_ ∧ k_ ≠ gb196) s_.2.1 y207) ∧ (VN w' w (fun k_ => QQ P1_ P2_ P3_ w k_ ∧ NB s_.1 k_ ∧ NB s_.2.1 k_ ∧ k_ ≠ gb196) s_.2.2 y215) ∧ (VV w' w (fun k_ => QQ P1_ P2_ P3_ w k_ ∧ NB s_.1 k_ ∧ NB s_.2.1 k_ ∧ NB s_.2.2 k_ ∧ k_ ≠ gb196) (.slice A1 l1.length c1) l1) ∧ (VV w' w (fun k_ => QQ P1_ P2_ P3_ w k_ ∧ NB s_.1 k_ ∧ NB s_.2.1 k_ ∧ NB s_.2.2 k_ ∧ k_ ≠ gb196) (.slice A2 l2.length c2) l2) ∧ (VV w' w (fun k_ => QQ P1_ P2_ P3_ w k_ ∧ NB s_.1 k_ ∧ NB s_.2.1 k_ ∧ NB s_.2.2 k_ ∧ k_ ≠ gb196) (.slice A3 l3.length c3) l3) ∧ (w'.heap[gb196]? = some (.cells (tabC t195) 24 (0, 0))) ∧ (Below w.heap.size w w')) ?_ ?_
             rotate_left
             ·intro hJ4_5_8_17
              refine join_ (σ := Value × Value × Value) 9 tq18 (fun s_ => [(61, s_.1), (62, .int .u32 t206), (69, s_.2.1), (74, s_.2.2)]) (fun s_ w' => (w'.heap[gb196]? = some (.cells (tabC t195) 24 (0, 0))) ∧ (VN w' w (fun k_ => QQ P1_ P2_ P3_ w k_ ∧ NB s_.2.1 k_ ∧ NB s_.2.2 k_ ∧ k_ ≠ gb196) s_.1 y203) ∧ (VN w' w (fun k_ => QQ P1_ P2_ P3_ w k_ ∧ NB s_.1 k_ ∧ NB s_.2.2 k_ ∧ k_ ≠ gb196) s_.2.1 y211) ∧ (VN w' w (fun k_ => QQ P1_ P2_ P3_ w k_ ∧ NB s_.1 k_ ∧ NB s_.2.1 k_ ∧ k_ ≠ gb196) s_.2.2 y215) ∧ (VV w' w (fun k_ => QQ P1_ P2_ P3_ w k_ ∧ NB s_.1 k_ ∧ NB s_.2.1 k_ ∧ NB s_.2.2 k_ ∧ k_ ≠ gb196) (.slice A1 l1.length c1) l1) ∧ (VV w' w (fun k_ => QQ P1_ P2_ P3_ w k_ ∧ NB s_.1 k_ ∧ NB s_.2.1 k_ ∧ NB s_.2.2 k_ ∧ k_ ≠ gb196) (.slice A2 l2.length c2) l2) ∧ (VV w' w (fun k_ => QQ P1_ P2_ P3_ w k_ ∧ NB s_.1 k_ ∧ NB s_.2.1 k_ ∧ NB s_.2.2 k_ ∧ k_ ≠ gb196) (.slice A3 l3.length c3) l3) ∧ (w'.heap[gb196]? = some (.cells (tabC t195) 24 (0, 0))) ∧ (Below w.heap.size w w')) ?_ ?_
              rotate_left
              ·intro hJ4_5_12_17
               refine join_ (σ := Value × Value × Value × Value) 9 tq17 (fun s_ => [(61, s_.1), (65, s_.2.1), (69, s_.2.2.1), (74, s_.2.2.2)]) (fun s_ w' => (w'.heap[gb196]? = some (.cells (tabC t195) 24 (0, 0))) ∧ (VN w' w (fun k_ => QQ P1_ P2_ P3_ w k_ ∧ NB s_.2.1 k_ ∧ NB s_.2.2.1 k_ ∧ NB s_.2.2.2 k_ ∧ k_ ≠ gb196) s_.1 y203) ∧ (VN w' w (fun k_ => QQ P1_ P2_ P3_ w k_ ∧ NB s_.1 k_ ∧ NB s_.2.2.1 k_ ∧ NB s_.2.2.2 k_ ∧ k_ ≠ gb196) s_.2.1 y207) ∧ (VN w' w (fun k_ => QQ P1_ P2_ P3_ w k_ ∧ NB s_.1 k_ ∧ NB s_.2.1 k_ ∧ NB s_.2.2.2 k_ ∧ k_ ≠ gb196) s_.2.2.1 y211) ∧ (VN w' w (fun k_ => QQ P1_ P2_ P3_ w k_ ∧ NB s_.1 k_ ∧ NB s_.2.1 k_ ∧ NB s_.2.2.1 k_ ∧ k_ ≠ gb196) s_.2.2.2 y215) ∧ (VV w' w (fun k_ => QQ P1_ P2_ P3_ w k_ ∧ NB s_.1 k_ ∧ NB s_.2.1 k_ ∧ NB s_.2.2.1 k_ ∧ NB s_.2.2.2 k_ ∧ k_ ≠ gb196) (.slice A1 l1.length c1) l1) ∧ (VV w' w (fun k_ => QQ P1_ P2_ P3_ w k_ ∧ NB s_.1 k_ ∧ NB s_.2.1 k_ ∧ NB s_.2.2.1 k_ ∧ NB s_.2.2.2 k_ ∧ k_ ≠ gb196) (.slice A2 l2.length c2) l2) ∧ (VV w' w (fun k_ => QQ P1_ P2_ P3_ w k_ ∧ NB s_.1 k_ ∧ NB s_.2.1 k_ ∧ NB s_.2.2.1 k_ ∧ NB s_.2.2.2 k_ ∧ k_ ≠ gb196) (.slice A3 l3.length c3) l3) ∧ (w'.heap[gb196]? = some (.cells (tabC t195) 24 (0, 0))) ∧ (Below w.heap.size w w')) ?_ ?_
               rotate_left
               ·intro hJ4_8_12_17
                refine join_ (σ := Value × Value) 10 tq29 (fun s_ => [(61, s_.1), (62, .int .u32 t206), (65, s_.2)]) (fun s_ w' => (w'.heap[gb196]? = some (.cells (tabC t195) 24 (0, 0))) ∧ (VN w' w (fun k_ => QQ P1_ P2_ P3_ w k_ ∧ NB s_.2 k_ ∧ k_ ≠ gb196) s_.1 y203) ∧ (VN w' w (fun k_ => QQ P1_ P2_ P3_ w k_ ∧ NB s_.1 k_ ∧ k_ ≠ gb196) s_.2 y207) ∧ (VV w' w (fun k_ => QQ P1_ P2_ P3_ w k_ ∧ NB s_.1 k_ ∧ NB s_.2 k_ ∧ k_ ≠ gb196) (.slice A1 l1.length c1) l1) ∧ (VV w' w (fun k_ => QQ P1_ P2_ P3_ w k_ ∧ NB s_.1 k_ ∧ NB s_.2 k_ ∧ k_ ≠ gb196) (.slice A2 l2.length c2) l2) ∧ (VV w' w (fun k_ => QQ P1_ P2_ P3_ w k_ ∧ NB s_.1 k_ ∧ NB s_.2 k_ ∧ k_ ≠ gb196) (.slice A3 l3.length c3) l3) ∧ (w'.heap[gb196]? = some (.cells (tabC t195) 24 (0, 0))) ∧ (Below w.heap.size w w')) ?_ ?_
                rotate_left
                ·intro hJ4_5_8
                 refine join_ (σ := Value × Value) 10 tq28 (fun s_ => [(61, s_.1), (62, .int .u32 t206), (69, s_.2)]) (fun s_ w' => (w'.heap[gb196]? = some (.cells (tabC t195) 24 (0, 0))) ∧ (VN w' w (fun k_ => QQ P1_ P2_ P3_ w k_ ∧ NB s_.2 k_ ∧ k_ ≠ gb196) s_.1 y203) ∧ (VN w' w (fun k_ => QQ P1_ P2_ P3_ w k_ ∧ NB s_.1 k_ ∧ k_ ≠ gb196) s_.2 y211) ∧ (VV w' w (fun k_ => QQ P1_ P2_ P3_ w k_ ∧ NB s_.1 k_ ∧ NB s_.2 k_ ∧ k_ ≠ gb196) (.slice A1 l1.length c1) l1) ∧ (VV w' w (fun k_ => QQ P1_ P2_ P3_ w k_ ∧ NB s_.1 k_ ∧ NB s_.2 k_ ∧ k_ ≠ gb196) (.slice A2 l2.length c2) l2) ∧ (VV w' w (fun k_ => QQ P1_ P2_ P3_ w k_ ∧ NB s_.1 k_ ∧ NB s_.2 k_ ∧ k_ ≠ gb196) (.slice A3 l3.length c3) l3) ∧ (w'.heap[gb196]? = some (.cells (tabC t195) 24 (0, 0))) ∧ (Below w.heap.size w w')) ?_ ?_
                 rotate_left
                 ·intro hJ4_5_12
                  refine join_ (σ := Value × Value) 10 tq27 (fun s_ => [(61, s_.1), (62, .int .u32 t206), (74, s_.2)]) (fun s_ w' => (w'.heap[gb196]? = some (.cells (tabC t195) 24 (0, 0))) ∧ (VN w' w (fun k_ => QQ P1_ P2_ P3_ w k_ ∧ NB s_.2 k_ ∧ k_ ≠ gb196) s_.1 y203) ∧ (VN w' w (fun k_ => QQ P1_ P2_ P3_ w k_ ∧ NB s_.1 k_ ∧ k_ ≠ gb196) s_.2 y215) ∧ (VV w' w (fun k_ => QQ P1_ P2_ P3_ w k_ ∧ NB s_.1 k_ ∧ NB s_.2 k_ ∧ k_ ≠ gb196) (.slice A1 l1.length c1) l1) ∧ (VV w' w (fun k_ => QQ P1_ P2_ P3_ w k_ ∧ NB s_.1 k_ ∧ NB s_.2 k_ ∧ k_ ≠ gb196) (.slice A2 l2.length c2) l2) ∧ (VV w' w (fun k_ => QQ P1_ P2_ P3_ w k_ ∧ NB s_.1 k_ ∧ NB s_.2 k_ ∧ k_ ≠ gb196) (.slice A3 l3.length c3) l3) ∧ (w'.heap[gb196]? = some (.cells (tabC t195) 24 (0, 0))) ∧ (Below w.heap.size w w')) ?_ ?_
                  rotate_left
                  ·intro hJ4_5_17
                   refine join_ (σ := Value × Value × Value) 10 tq26 (fun s_ => [(61, s_.1), (65, s_.2.1), (69, s_.2.2)]) (fun s_ w' => (w'.heap[gb196]? = some (.cells (tabC t195) 24 (0, 0))) ∧ (VN w' w (fun k_ => QQ P1_ P2_ P3_ w k_ ∧ NB s_.2.1 k_ ∧ NB s_.2.2 k_ ∧ k_ ≠ gb196) s_.1 y203) ∧ (VN w' w (fun k_ => QQ P1_ P2_ P3_ w k_ ∧ NB s_.1 k_ ∧ NB s_.2.2 k_ ∧ k_ ≠ gb196) s_.2.1 y207) ∧ (VN w' w (fun k_ => QQ P1_ P2_ P3_ w k_ ∧ NB s_.1 k_ ∧ NB s_.2.1 k_ ∧ k_ ≠ gb196) s_.2.2 y211) ∧ (VV w' w (fun k_ => QQ P1_ P2_ P3_ w k_ ∧ NB s_.1 k_ ∧ NB s_.2.1 k_ ∧ NB s_.2.2 k_ ∧ k_ ≠ gb196) (.slice A1 l1.length c1) l1) ∧ (VV w' w (fun k_ => QQ P1_ P2_ P3_ w k_ ∧ NB s_.1 k_ ∧ NB s_.2.1 k_ ∧ NB s_.2.2 k_ ∧ k_ ≠ gb196) (.slice A2 l2.length c2) l2) ∧ (VV w' w (fun k_ => QQ P1_ P2_ P3_ w k_ ∧ NB s_.1 k_ ∧ NB s_.2.1 k_ ∧ NB s_.2.2 k_ ∧ k_ ≠ gb196) (.slice A3 l3.length c3) l3) ∧ (w'.heap[gb196]? = some (.cells (tabC t195) 24 (0, 0))) ∧ (Below w.heap.size w w')) ?_ ?_
                   rotate_left
                   ·intro hJ4_8_12
                    refine join_ (σ := Value × Value × Value) 10 tq25 (fun s_ => [(61, s_.1), (65, s_.2.1), (74, s_.2.2)]) (fun s_ w' => (w'.heap[gb196]? = some (.cells (tabC t195) 24 (0, 0))) ∧ (VN w' w (fun k_ => QQ P1_ P2_ P3_ w k_ ∧ NB s_.2.1 k_ ∧ NB s_.2.2 k_ ∧ k_ ≠ gb196) s_.1 y203) ∧ (VN w' w (fun k_ => QQ P1_ P2_ P3_ w k_ ∧ NB s_.1 k_ ∧ NB s_.2.2 k_ ∧ k_ ≠ gb196) s_.2.1 y207) ∧ (VN w' w (fun k_ => QQ P1_ P2_ P3_ w k_ ∧ NB s_.1 k_ ∧ NB s_.2.1 k_ ∧ k_ ≠ gb196) s_.2.2 y215) ∧ (VV w' w (fun k_ => QQ P1_ P2_ P3_ w k_ ∧ NB s_.1 k_ ∧ NB s_.2.1 k_ ∧ NB s_.2.2 k_ ∧ k_ ≠ gb196) (.slice A1 l1.length c1) l1) ∧ (VV w' w (fun k_ => QQ P1_ P2_ P3_ w k_ ∧ NB s_.1 k_ ∧ NB s_.2.1 k_ ∧ NB s_.2.2 k_ ∧ k_ ≠ gb196) (.slice A2 l2.length c2) l2) ∧ (VV w' w (fun k_ => QQ P1_ P2_ P3_ w k_ ∧ NB s_.1 k_ ∧ NB s_.2.1 k_ ∧ NB s_.2.2 k_ ∧ k_ ≠ gb196) (.slice A3 l3.length c3) l3) ∧ (w'.heap[gb196]? = some (.cells (tabC t195) 24 (0, 0))) ∧ (Below w.heap.size w w')) ?_ ?_
                    rotate_left
                    ·intro hJ4_8_17
                     refine join_ (σ := Value × Value × Value) 10 tq24 (fun s_ => [(61, s_.1), (69, s_.2.1), (74, s_.2.2)]) (fun s_ w' => (w'.heap[gb196]? = some (.cells (tabC t195) 24 (0, 0))) ∧ (VN w' w (fun k_ => QQ P1_ P2_ P3_ w k_ ∧ NB s_.2.1 k_ ∧ NB s_.2.2 k_ ∧ k_ ≠ gb196) s_.1 y203) ∧ (VN w' w (fun k_ => QQ P1_ P2_ P3_ w k_ ∧ NB s_.1 k_ ∧ NB s_.2.2 k_ ∧ k_ ≠ gb196) s_.2.1 y211) ∧ (VN w' w (fun k_ => QQ P1_ P2_ P3_ w k_ ∧ NB s_.1 k_ ∧ NB s_.2.1 k_ ∧ k_ ≠ gb196) s_.2.2 y215) ∧ (VV w' w (fun k_ => QQ P1_ P2_ P3_ w k_ ∧ NB s_.1 k_ ∧ NB s_.2.1 k_ ∧ NB s_.2.2 k_ ∧ k_ ≠ gb196) (.slice A1 l1.length c1) l1) ∧ (VV w' w (fun k_ => QQ P1_ P2_ P3_ w k_ ∧ NB s_.1 k_ ∧ NB s_.2.1 k_ ∧ NB s_.2.2 k_ ∧ k_ ≠ gb196) (.slice A2 l2.length c2) l2) ∧ (VV w' w (fun k_ => QQ P1_ P2_ P3_ w k_ ∧ NB s_.1 k_ ∧ NB s_.2.1 k_ ∧ NB s_.2.2 k_ ∧ k_ ≠ gb196) (.slice A3 l3.length c3) l3) ∧ (w'.heap[gb196]? = some (.cells (tabC t195) 24 (0, 0))) ∧ (Below w.heap.size w w')) ?_ ?_
                     rotate_left
                     ·intro hJ4_12_17
                      refine join_ (σ := Value × Value × Value) 10 tq23 (fun s_ => [(65, s_.1), (69, s_.2.1), (74, s_.2.2)]) (fun s_ w' => (w'.heap[gb196]? = some (.cells (tabC t195) 24 (0, 0))) ∧ (VN w' w (fun k_ => QQ P1_ P2_ P3_ w k_ ∧ NB s_.2.1 k_ ∧ NB s_.2.2 k_ ∧ NB (.slice Ao28 x11_2.length co28) k_ ∧ k_ ≠ gb196) s_.1 y207) ∧ (VN w' w (fun k_ => QQ P1_ P2_ P3_ w k_ ∧ NB s_.1 k_ ∧ NB s_.2.2 k_ ∧ NB (.slice Ao28 x11_2.length co28) k_ ∧ k_ ≠ gb196) s_.2.1 y211) ∧ (VN w' w (fun k_ => QQ P1_ P2_ P3_ w k_ ∧ NB s_.1 k_ ∧ NB s_.2.1 k_ ∧ NB (.slice Ao28 x11_2.length co28) k_ ∧ k_ ≠ gb196) s_.2.2 y215) ∧ (VV w' w (fun k_ => QQ P1_ P2_ P3_ w k_ ∧ NB s_.1 k_ ∧ NB s_.2.1 k_ ∧ NB s_.2.2 k_ ∧ NB (.slice Ao28 x11_2.length co28) k_ ∧ k_ ≠ gb196) (.slice A1 l1.length c1) l1) ∧ (Kd.R (Kd.int .u8) 5 w' w.heap.size (fun k_ => (w.heap.size ≤ k_)) (.slice Ao28 x11_2.length co28) x11_2) ∧ (VV w' w (fun k_ => QQ P1_ P2_ P3_ w k_ ∧ NB s_.1 k_ ∧ NB s_.2.1 k_ ∧ NB s_.2.2 k_ ∧ NB (.slice Ao28 x11_2.length co28) k_ ∧ k_ ≠ gb196) (.slice A2 l2.length c2) l2) ∧ (VV w' w (fun k_ => QQ P1_ P2_ P3_ w k_ ∧ NB s_.1 k_ ∧ NB s_.2.1 k_ ∧ NB s_.2.2 k_ ∧ NB (.slice Ao28 x11_2.length co28) k_ ∧ k_ ≠ gb196) (.slice A3 l3.length c3) l3) ∧ (w'.heap[gb196]? = some (.cells (tabC t195) 24 (0, 0))) ∧ (Below w.heap.size w w')) ?_ ?_
                      rotate_left
                      ·intro hJ8_12_17
                       refine join_ (σ := Value) 11 tq37 (fun s_ => [(61, s_), (62, .int .u32 t206)]) (fun s_ w' => (w'.heap[gb196]? = some (.cells (tabC t195) 24 (0, 0))) ∧ (VN w' w (fun k_ => QQ P1_ P2_ P3_ w k_ ∧ k_ ≠ gb196) s_ y203) ∧ (VV w' w (fun k_ => QQ P1_ P2_ P3_ w k_ ∧ NB s_ k_ ∧ k_ ≠ gb196) (.slice A1 l1.length c1) l1) ∧ (VV w' w (fun k_ => QQ P1_ P2_ P3_ w k_ ∧ NB s_ k_ ∧ k_ ≠ gb196) (.slice A2 l2.length c2) l2) ∧ (VV w' w (fun k_ => QQ P1_ P2_ P3_ w k_ ∧ NB s_ k_ ∧ k_ ≠ gb196) (.slice A3 l3.length c3) l3) ∧ (w'.heap[gb196]? = some (.cells (tabC t195) 24 (0, 0))) ∧ (Below w.heap.size w w')) ?_ ?_
                       rotate_left
                       ·intro hJ4_5
                        refine join_ (σ := Value × Value) 11 tq36 (fun s_ => [(61, s_.1), (65, s_.2)]) (fun s_ w' => (w'.heap[gb196]? = some (.cells (tabC t195) 24 (0, 0))) ∧ (VN w' w (fun k_ => QQ P1_ P2_ P3_ w k_ ∧ NB s_.2 k_ ∧ k_ ≠ gb196) s_.1 y203) ∧ (VN w' w (fun k_ => QQ P1_ P2_ P3_ w k_ ∧ NB s_.1 k_ ∧ k_ ≠ gb196) s_.2 y207) ∧ (VV w' w (fun k_ => QQ P1_ P2_ P3_ w k_ ∧ NB s_.1 k_ ∧ NB s_.2 k_ ∧ k_ ≠ gb196) (.slice A1 l1.length c1) l1) ∧ (VV w' w (fun k_ => QQ P1_ P2_ P3_ w k_ ∧ NB s_.1 k_ ∧ NB s_.2 k_ ∧ k_ ≠ gb196) (.slice A2 l2.length c2) l2) ∧ (VV w' w (fun k_ => QQ P1_ P2_ P3_ w k_ ∧ NB s_.1 k_ ∧ NB s_.2 k_ ∧ k_ ≠ gb196) (.slice A3 l3.length c3) l3) ∧ (w'.heap[gb196]? = some (.cells (tabC t195) 24 (0, 0))) ∧ (Below w.heap.size w w')) ?_ ?_
                        rotate_left
                        ·intro hJ4_8
                         refine join_ (σ := Value × Value) 11 tq35 (fun s_ => [(61, s_.1), (69, s_.2)]) (fun s_ w' => (w'.heap[gb196]? = some (.cells (tabC t195) 24 (0, 0))) ∧ (VN w' w (fun k_ => QQ P1_ P2_ P3_ w k_ ∧ NB s_.2 k_ ∧ k_ ≠ gb196) s_.1 y203) ∧ (VN w' w (fun k_ => QQ P1_ P2_ P3_ w k_ ∧ NB s_.1 k_ ∧ k_ ≠ gb196) s_.2 y211) ∧ (VV w' w (fun k_ => QQ P1_ P2_ P3_ w k_ ∧ NB s_.1 k_ ∧ NB s_.2 k_ ∧ k_ ≠ gb196) (.slice A1 l1.length c1) l1) ∧ (VV w' w (fun k_ => QQ P1_ P2_ P3_ w k_ ∧ NB s_.1 k_ ∧ NB s_.2 k_ ∧ k_ ≠ gb196) (.slice A2 l2.length c2) l2) ∧ (VV w' w (fun k_ => QQ P1_ P2_ P3_ w k_ ∧ NB s_.1 k_ ∧ NB s_.2 k_ ∧ k_ ≠ gb196) (.slice A3 l3.length c3) l3) ∧ (w'.heap[gb196]? = some (.cells (tabC t195) 24 (0, 0))) ∧ (Below w.heap.size w w')) ?_ ?_
                         rotate_left
                         ·intro hJ4_12
                          refine join_ (σ := Value × Value) 11 tq34 (fun s_ => [(61, s_.1), (74, s_.2)]) (fun s_ w' => (w'.heap[gb196]? = some (.cells (tabC t195) 24 (0, 0))) ∧ (VN w' w (fun k_ => QQ P1_ P2_ P3_ w k_ ∧ NB s_.2 k_ ∧ k_ ≠ gb196) s_.1 y203) ∧ (VN w' w (fun k_ => QQ P1_ P2_ P3_ w k_ ∧ NB s_.1 k_ ∧ k_ ≠ gb196) s_.2 y215) ∧ (VV w' w (fun k_ => QQ P1_ P2_ P3_ w k_ ∧ NB s_.1 k_ ∧ NB s_.2 k_ ∧ k_ ≠ gb196) (.slice A1 l1.length c1) l1) ∧ (VV w' w (fun k_ => QQ P1_ P2_ P3_ w k_ ∧ NB s_.1 k_ ∧ NB s_.2 k_ ∧ k_ ≠ gb196) (.slice A2 l2.length c2) l2) ∧ (VV w' w (fun k_ => QQ P1_ P2_ P3_ w k_ ∧ NB s_.1 k_ ∧ NB s_.2 k_ ∧ k_ ≠ gb196) (.slice A3 l3.length c3) l3) ∧ (w'.heap[gb196]? = some (.cells (tabC t195) 24 (0, 0))) ∧ (Below w.heap.size w w')) ?_ ?_
                          rotate_left
                          ·intro hJ4_17
                           refine join_ (σ := Value × Value) 11 tq33 (fun s_ => [(65, s_.1), (69, s_.2)]) (fun s_ w' => (w'.heap[gb196]? = some (.cells (tabC t195) 24 (0, 0))) ∧ (VN w' w (fun k_ => QQ P1_ P2_ P3_ w k_ ∧ NB s_.2 k_ ∧ NB (.slice Ao28 x11_2.length co28) k_ ∧ k_ ≠ gb196) s_.1 y207) ∧ (VN w' w (fun k_ => QQ P1_ P2_ P3_ w k_ ∧ NB s_.1 k_ ∧ NB (.slice Ao28 x11_2.length co28) k_ ∧ k_ ≠ gb196) s_.2 y211) ∧ (VV w' w (fun k_ => QQ P1_ P2_ P3_ w k_ ∧ NB s_.1 k_ ∧ NB s_.2 k_ ∧ NB (.slice Ao28 x11_2.length co28) k_ ∧ k_ ≠ gb196) (.slice A1 l1.length c1) l1) ∧ (Kd.R (Kd.int .u8) 5 w' w.heap.size (fun k_ => (w.heap.size ≤ k_)) (.slice Ao28 x11_2.length co28) x11_2) ∧ (VV w' w (fun k_ => QQ P1_ P2_ P3_ w k_ ∧ NB s_.1 k_ ∧ NB s_.2 k_ ∧ NB (.slice Ao28 x11_2.length co28) k_ ∧ k_ ≠ gb196) (.slice A2 l2.length c2) l2) ∧ (VV w' w (fun k_ => QQ P1_ P2_ P3_ w k_ ∧ NB s_.1 k_ ∧ NB s_.2 k_ ∧ NB (.slice Ao28 x11_2.length co28) k_ ∧ k_ ≠ gb196) (.slice A3 l3.length c3) l3) ∧ (w'.heap[gb196]? = some (.cells (tabC t195) 24 (0, 0))) ∧ (Below w.heap.size w w')) ?_ ?_
                           rotate_left
                           ·intro hJ8_12
                            refine join_ (σ := Value × Value) 11 tq32 (fun s_ => [(65, s_.1), (74, s_.2)]) (fun s_ w' => (w'.heap[gb196]? = some (.cells (tabC t195) 24 (0, 0))) ∧ (VN w' w (fun k_ => QQ P1_ P2_ P3_ w k_ ∧ NB s_.2 k_ ∧ NB (.slice Ao28 x11_2.length co28) k_ ∧ k_ ≠ gb196) s_.1 y207) ∧ (VN w' w (fun k_ => QQ P1_ P2_ P3_ w k_ ∧ NB s_.1 k_ ∧ NB (.slice Ao28 x11_2.length co28) k_ ∧ k_ ≠ gb196) s_.2 y215) ∧ (VV w' w (fun k_ => QQ P1_ P2_ P3_ w k_ ∧ NB s_.1 k_ ∧ NB s_.2 k_ ∧ NB (.slice Ao28 x11_2.length co28) k_ ∧ k_ ≠ gb196) (.slice A1 l1.length c1) l1) ∧ (Kd.R (Kd.int .u8) 5 w' w.heap.size (fun k_ => (w.heap.size ≤ k_)) (.slice Ao28 x11_2.length co28) x11_2) ∧ (VV w' w (fun k_ => QQ P1_ P2_ P3_ w k_ ∧ NB s_.1 k_ ∧ NB s_.2 k_ ∧ NB (.slice Ao28 x11_2.length co28) k_ ∧ k_ ≠ gb196) (.slice A2 l2.length c2) l2) ∧ (VV w' w (fun k_ => QQ P1_ P2_ P3_ w k_ ∧ NB s_.1 k_ ∧ NB s_.2 k_ ∧ NB (.slice Ao28 x11_2.length co28) k_ ∧ k_ ≠ gb196) (.slice A3 l3.length c3) l3) ∧ (w'.heap[gb196]? = some (.cells (tabC t195) 24 (0, 0))) ∧ (Below w.heap.size w w')) ?_ ?_
                            rotate_left
                            ·intro hJ8_17
                             refine join_ (σ := Value × Value) 11 tq31 (fun s_ => [(69, s_.1), (74, s_.2)]) (fun s_ w' => (w'.heap[gb196]? = some (.cells (tabC t195) 24 (0, 0))) ∧ (VN w' w (fun k_ => QQ P1_ P2_ P3_ w k_ ∧ NB s_.2 k_ ∧ NB (.slice Ao28 x11_2.length co28) k_ ∧ k_ ≠ gb196) s_.1 y211) ∧ (VN w' w (fun k_ => QQ P1_ P2_ P3_ w k_ ∧ NB s_.1 k_ ∧ NB (.slice Ao28 x11_2.length co28) k_ ∧ k_ ≠ gb196) s_.2 y215) ∧ (VV w' w (fun k_ => QQ P1_ P2_ P3_ w k_ ∧ NB s_.1 k_ ∧ NB s_.2 k_ ∧ NB (.slice Ao28 x11_2.length co28) k_ ∧ k_ ≠ gb196) (.slice A1 l1.length c1) l1) ∧ (Kd.R (Kd.int .u8) 5 w' w.heap.size (fun k_ => (w.heap.size ≤ k_)) (.slice Ao28 x11_2.length co28) x11_2) ∧ (VV w' w (fun k_ => QQ P1_ P2_ P3_ w k_ ∧ NB s_.1 k_ ∧ NB s_.2 k_ ∧ NB (.slice Ao28 x11_2.length co28) k_ ∧ k_ ≠ gb196) (.slice A2 l2.length c2) l2) ∧ (VV w' w (fun k_ => QQ P1_ P2_ P3_ w k_ ∧ NB s_.1 k_ ∧ NB s_.2 k_ ∧ NB (.slice Ao28 x11_2.length co28) k_ ∧ k_ ≠ gb196) (.slice A3 l3.length c3) l3) ∧ (w'.heap[gb196]? = some (.cells (tabC t195) 24 (0, 0))) ∧ (Below w.heap.size w w')) ?_ ?_
                             rotate_left
                             ·intro hJ12_17
                              refine join_ (σ := Value) 12 tq42 (fun s_ => [(61, s_)]) (fun s_ w' => (w'.heap[gb196]? = some (.cells (tabC t195) 24 (0, 0))) ∧ (VN w' w (fun k_ => QQ P1_ P2_ P3_ w k_ ∧ k_ ≠ gb196) s_ y203) ∧ (VV w' w (fun k_ => QQ P1_ P2_ P3_ w k_ ∧ NB s_ k_ ∧ k_ ≠ gb196) (.slice A1 l1.length c1) l1) ∧ (VV w' w (fun k_ => QQ P1_ P2_ P3_ w k_ ∧ NB s_ k_ ∧ k_ ≠ gb196) (.slice A2 l2.length c2) l2) ∧ (VV w' w (fun k_ => QQ P1_ P2_ P3_ w k_ ∧ NB s_ k_ ∧ k_ ≠ gb196) (.slice A3 l3.length c3) l3) ∧ (w'.heap[gb196]? = some (.cells (tabC t195) 24 (0, 0))) ∧ (Below w.heap.size w w')) ?_ ?_
                              rotate_left
                              ·intro hJ4
                               refine join_ (σ := Value) 12 tq41 (fun s_ => [(65, s_)]) (fun s_ w' => (w'.heap[gb196]? = some (.cells (tabC t195) 24 (0, 0))) ∧ (VN w' w (fun k_ => QQ P1_ P2_ P3_ w k_ ∧ NB (.slice Ao28 x11_2.length co28) k_ ∧ k_ ≠ gb196) s_ y207) ∧ (VV w' w (fun k_ => QQ P1_ P2_ P3_ w k_ ∧ NB s_ k_ ∧ NB (.slice Ao28 x11_2.length co28) k_ ∧ k_ ≠ gb196) (.slice A1 l1.length c1) l1) ∧ (Kd.R (Kd.int .u8) 5 w' w.heap.size (fun k_ => (w.heap.size ≤ k_)) (.slice Ao28 x11_2.length co28) x11_2) ∧ (VV w' w (fun k_ => QQ P1_ P2_ P3_ w k_ ∧ NB s_ k_ ∧ NB (.slice Ao28 x11_2.length co28) k_ ∧ k_ ≠ gb196) (.slice A2 l2.length c2) l2) ∧ (VV w' w (fun k_ => QQ P1_ P2_ P3_ w k_ ∧ NB s_ k_ ∧ NB (.slice Ao28 x11_2.length co28) k_ ∧ k_ ≠ gb196) (.slice A3 l3.length c3) l3) ∧ (w'.heap[gb196]? = some (.cells (tabC t195) 24 (0, 0))) ∧ (Below w.heap.size w w')) ?_ ?_
                               rotate_left
                               ·intro hJ8
                                refine join_ (σ := Value) 12 tq40 (fun s_ => [(69, s_)]) (fun s_ w' => (w'.heap[gb196]? = some (.cells (tabC t195) 24 (0, 0))) ∧ (VN w' w (fun k_ => QQ P1_ P2_ P3_ w k_ ∧ NB (.slice Ao28 x11_2.length co28) k_ ∧ k_ ≠ gb196) s_ y211) ∧ (VV w' w (fun k_ => QQ P1_ P2_ P3_ w k_ ∧ NB s_ k_ ∧ NB (.slice Ao28 x11_2.length co28) k_ ∧ k_ ≠ gb196) (.slice A1 l1.length c1) l1) ∧ (Kd.R (Kd.int .u8) 5 w' w.heap.size (fun k_ => (w.heap.size ≤ k_)) (.slice Ao28 x11_2.length co28) x11_2) ∧ (VV w' w (fun k_ => QQ P1_ P2_ P3_ w k_ ∧ NB s_ k_ ∧ NB (.slice Ao28 x11_2.length co28) k_ ∧ k_ ≠ gb196) (.slice A2 l2.length c2) l2) ∧ (VV w' w (fun k_ => QQ P1_ P2_ P3_ w k_ ∧ NB s_ k_ ∧ NB (.slice Ao28 x11_2.length co28) k_ ∧ k_ ≠ gb196) (.slice A3 l3.length c3) l3) ∧ (w'.heap[gb196]? = some (.cells (tabC t195) 24 (0, 0))) ∧ (Below w.heap.size w w')) ?_ ?_
                                rotate_left
                                ·intro hJ12
                                 refine join_ (σ := Value) 12 tq39 (fun s_ => [(74, s_)]) (fun s_ w' => (w'.heap[gb196]? = some (.cells (tabC t195) 24 (0, 0))) ∧ (VN w' w (fun k_ => QQ P1_ P2_ P3_ w k_ ∧ NB (.slice Ao28 x11_2.length co28) k_ ∧ k_ ≠ gb196) s_ y215) ∧ (VV w' w (fun k_ => QQ P1_ P2_ P3_ w k_ ∧ NB s_ k_ ∧ NB (.slice Ao28 x11_2.length co28) k_ ∧ k_ ≠ gb196) (.slice A1 l1.length c1) l1) ∧ (Kd.R (Kd.int .u8) 5 w' w.heap.size (fun k_ => (w.heap.size ≤ k_)) (.slice Ao28 x11_2.length co28) x11_2) ∧ (VV w' w (fun k_ => QQ P1_ P2_ P3_ w k_ ∧ NB s_ k_ ∧ NB (.slice Ao28 x11_2.length co28) k_ ∧ k_ ≠ gb196) (.slice A2 l2.length c2) l2) ∧ (VV w' w (fun k_ => QQ P1_ P2_ P3_ w k_ ∧ NB s_ k_ ∧ NB (.slice Ao28 x11_2.length co28) k_ ∧ k_ ≠ gb196) (.slice A3 l3.length c3) l3) ∧ (w'.heap[gb196]? = some (.cells (tabC t195) 24 (0, 0))) ∧ (Below w.heap.size w w')) ?_ ?_
                                 rotate_left
                                 ·intro hJ17
                                  refine four_ (i := 4) (j := 8) (k := 12) (m := 17) (Ni := some 61) (Nj := some 65) (Nk := some 69) (Nm := some 74) tq42 tq41 tq40 tq39 rfl rfl rfl rfl rfl rfl rfl rfl (four_of HT_.out (by kernel_rfl)) (by decide) (by decide) (by decide) (by decide) (fun K hK => ?_) (fun K hK => ?_) (fun K hK => ?_) (fun K hK => ?_)
                                  ·skip
                                   refine Kd.N_lit_step (Kd.slice 5 (Kd.int .u8)) _ 28 ?hg (N' := 61) ?hd (xs := ([x11_2] : List (List Int))) (inner := [.slice Ao28 x11_2.length co28]) (ok := (fun k_ => QQ P1_ P2_ P3_ w k_ ∧ k_ ≠ gb196)) (okp := (fun k_ => QQ P1_ P2_ P3_ w k_ ∧ k_ ≠ gb196)) ?hr ?hp (fun _ hk => hk) ((show ∀ k_, w27.heap.size ≤ k_ → (fun k_ => QQ P1_ P2_ P3_ w k_ ∧ k_ ≠ gb196) k_ from fun k_ hk => ⟨.inr (fW HB hk), fB BK196 hk⟩) _ (Nat.le_refl _)) (Below.refl _ _) (Nat.le_refl _) (by simp) ?_; (case hd => rfl); (case hg => rfl); (case hr => first | (go_simp; done) | (go_simp; rfl)); (case hp => exact (Reps.one (show Kd.FK (Kd.slice 5 (Kd.int .u8)) _ _ x11_2 [.slice Ao28 x11_2.length co28] from (Kd.FK_slice_mk (Kd.R_reads' (Kd.R_mono (ok' := (fun k_ => QQ P1_ P2_ P3_ w k_ ∧ k_ ≠ gb196)) (Kd.R_types (HO_11.out) BK196.out (by decide)) (fun k_ hk => ⟨(.inr (hk.1)), hk.2⟩))).2.1 (Kd.R_F (Kd.R_mono (ok' := (fun k_ => QQ P1_ P2_ P3_ w k_ ∧ k_ ≠ gb196)) (Kd.R_types (HO_11.out) BK196.out (by decide)) (fun k_ hk => ⟨(.inr (hk.1)), hk.2⟩))))) (Reps.none _ _)))
                                   intro v204 w29 ho30 hb hg_ hnew_
                                   clear hg_ hnew_
                                   rw [← Ny203.out] at ho30
                                   replace HO_1 := vE HO_1 ho30 hb
                                   replace HO_2 := vE HO_2 ho30 hb
                                   replace HO_3 := vE HO_3 ho30 hb
                                   have HO205 := nL ho30 HB
                                   replace BK196 := bB BK196 hb
                                   replace HB := hB HB hb
                                   clear HO_11
                                   clear hb ho30
                                   refine hK.out _ _ (BK196.out) (fun hHeld => ?_)
                                   clear hK K
                                   refine norm_ (a' := ?_) ?_ ?_
                                   rotate_left
                                   ·show Act.put _ (some 61) _ = _
                                    simp only [Act.put, sA, sZ, sS, i64_w, i32_w]
                                    rfl
                                   exact norm_ (by simp only [putAll, Act.put, sA, sZ, sS] <;> rfl) (hJ4 (v204) _ ⟨hHeld, HO205.out, (Kd.V_mono HO_1.out (fun _ hk => ⟨hk.1.1, hk.2, hk.1.2.2⟩)), (Kd.V_mono HO_2.out (fun _ hk => ⟨hk.1.1, hk.2, hk.1.2.2⟩)), (Kd.V_mono HO_3.out (fun _ hk => ⟨hk.1.1, hk.2, hk.1.2.2⟩)), BK196.out, HB.out⟩)
                                  ·skip
                                   refine lit1 (N' := 65) ?hd (ok := (fun k_ => QQ P1_ P2_ P3_ w k_ ∧ NB (.slice Ao28 x11_2.length co28) k_ ∧ k_ ≠ gb196)) (Kd.V_mono (HO_1.out) (fun k_ hk => ⟨hk.1, hk.2.1, hk.2.2⟩)) (fun k_ hk => ⟨.inr (fW HB hk), Kd.fresh' (Kd.R_lt HO_11.out) k_ hk, fB BK196 hk⟩) ?hr HB.out ?_; (case hd => rfl); (case hr => first | (go_simp; done) | (go_simp; rfl))
                                   intro v208 w28 ho29 hb hg_ hnew_
                                   clear hg_ hnew_
                                   rw [← Ny207.out] at ho29
                                   replace HO_1 := vE HO_1 ho29 hb
                                   replace HO_2 := vE HO_2 ho29 hb
                                   replace HO_3 := vE HO_3 ho29 hb
                                   replace HO_11 := rB HO_11 hb
                                   have HO209 := nL ho29 HB
                                   replace BK196 := bB BK196 hb
                                   replace HB := hB HB hb
                                   clear hb ho29
                                   refine hK.out _ _ (BK196.out) (fun hHeld => ?_)
                                   clear hK K
                                   refine norm_ (a' := ?_) ?_ ?_
                                   rotate_left
                                   ·show Act.put _ (some 65) _ = _
                                    simp only [Act.put, sA, sZ, sS, i64_w, i32_w]
                                    rfl
                                   exact norm_ (by simp only [putAll, Act.put, sA, sZ, sS] <;> rfl) (hJ8 (v208) _ ⟨hHeld, HO209.out, (Kd.V_mono HO_1.out (fun _ hk => ⟨hk.1.1, hk.2, hk.1.2.1, hk.1.2.2⟩)), HO_11.out, (Kd.V_mono HO_2.out (fun _ hk => ⟨hk.1.1, hk.2, hk.1.2.1, hk.1.2.2⟩)), (Kd.V_mono HO_3.out (fun _ hk => ⟨hk.1.1, hk.2, hk.1.2.1, hk.1.2.2⟩)), BK196.out, HB.out⟩)
                                  ·skip
                                   refine lit1 (N' := 69) ?hd (ok := (fun k_ => QQ P1_ P2_ P3_ w k_ ∧ NB (.slice Ao28 x11_2.length co28) k_ ∧ k_ ≠ gb196)) (Kd.V_mono (HO_2.out) (fun k_ hk => ⟨hk.1, hk.2.1, hk.2.2⟩)) (fun k_ hk => ⟨.inr (fW HB hk), Kd.fresh' (Kd.R_lt HO_11.out) k_ hk, fB BK196 hk⟩) ?hr HB.out ?_; (case hd => rfl); (case hr => first | (go_simp; done) | (go_simp; rfl))
                                   intro v212 w28 ho29 hb hg_ hnew_
                                   clear hg_ hnew_
                                   rw [← Ny211.out] at ho29
                                   replace HO_1 := vE HO_1 ho29 hb
                                   replace HO_2 := vE HO_2 ho29 hb
                                   replace HO_3 := vE HO_3 ho29 hb
                                   replace HO_11 := rB HO_11 hb
                                   have HO213 := nL ho29 HB
                                   replace BK196 := bB BK196 hb
                                   replace HB := hB HB hb
                                   clear hb ho29
                                   refine hK.out _ _ (BK196.out) (fun hHeld => ?_)
                                   clear hK K
                                   refine norm_ (a' := ?_) ?_ ?_
                                   rotate_left
                                   ·show Act.put _ (some 69) _ = _
                                    simp only [Act.put, sA, sZ, sS, i64_w, i32_w]
                                    rfl
                                   exact norm_ (by simp only [putAll, Act.put, sA, sZ, sS] <;> rfl) (hJ12 (v212) _ ⟨hHeld, HO213.out, (Kd.V_mono HO_1.out (fun _ hk => ⟨hk.1.1, hk.2, hk.1.2.1, hk.1.2.2⟩)), HO_11.out, (Kd.V_mono HO_2.out (fun _ hk => ⟨hk.1.1, hk.2, hk.1.2.1, hk.1.2.2⟩)), (Kd.V_mono HO_3.out (fun _ hk => ⟨hk.1.1, hk.2, hk.1.2.1, hk.1.2.2⟩)), BK196.out, HB.out⟩)
                                  skip
                                  refine lit1 (N' := 74) ?hd (ok := (fun k_ => QQ P1_ P2_ P3_ w k_ ∧ NB (.slice Ao28 x11_2.length co28) k_ ∧ k_ ≠ gb196)) (Kd.V_mono (HO_3.out) (fun k_ hk => ⟨hk.1, hk.2.1, hk.2.2⟩)) (fun k_ hk => ⟨.inr (fW HB hk), Kd.fresh' (Kd.R_lt HO_11.out) k_ hk, fB BK196 hk⟩) ?hr HB.out ?_; (case hd => rfl); (case hr => first | (go_simp; done) | (go_simp; rfl))
                                  intro v216 w28 ho29 hb hg_ hnew_
                                  clear hg_ hnew_
                                  rw [← Ny215.out] at ho29
                                  replace HO_1 := vE HO_1 ho29 hb
                                  replace HO_2 := vE HO_2 ho29 hb
                                  replace HO_3 := vE HO_3 ho29 hb
                                  replace HO_11 := rB HO_11 hb
                                  have HO217 := nL ho29 HB
                                  replace BK196 := bB BK196 hb
                                  replace HB := hB HB hb
                                  clear hb ho29
                                  refine hK.out _ _ (BK196.out) (fun hHeld => ?_)
                                  clear hK K
                                  refine norm_ (a' := ?_) ?_ ?_
                                  rotate_left
                                  ·show Act.put _ (some 74) _ = _
                                   simp only [Act.put, sA, sZ, sS, i64_w, i32_w]
                                   rfl
                                  exact norm_ (by simp only [putAll, Act.put, sA, sZ, sS] <;> rfl) (hJ17 (v216) _ ⟨hHeld, HO217.out, (Kd.V_mono HO_1.out (fun _ hk => ⟨hk.1.1, hk.2, hk.1.2.1, hk.1.2.2⟩)), HO_11.out, (Kd.V_mono HO_2.out (fun _ hk => ⟨hk.1.1, hk.2, hk.1.2.1, hk.1.2.2⟩)), (Kd.V_mono HO_3.out (fun _ hk => ⟨hk.1.1, hk.2, hk.1.2.1, hk.1.2.2⟩)), BK196.out, HB.out⟩)
                                 skip
                                 rintro v216 w30 ⟨hS_, h0_, h1_, h2_, h3_, h4_, h5_, h6_⟩
                                 have n0_ : Aside0 (VN w30 w (fun k_ => QQ P1_ P2_ P3_ w k_ ∧ NB (.slice Ao28 x11_2.length co28) k_ ∧ k_ ≠ gb196) v216 y215) := ⟨h0_⟩
                                 have n1_ : Aside0 (VV w30 w (fun k_ => QQ P1_ P2_ P3_ w k_ ∧ NB v216 k_ ∧ NB (.slice Ao28 x11_2.length co28) k_ ∧ k_ ≠ gb196) (.slice A1 l1.length c1) l1) := ⟨h1_⟩
                                 have n2_ : Aside0 (Kd.R (Kd.int .u8) 5 w30 w.heap.size (fun k_ => (w.heap.size ≤ k_)) (.slice Ao28 x11_2.length co28) x11_2) := ⟨h2_⟩
                                 have n3_ : Aside0 (VV w30 w (fun k_ => QQ P1_ P2_ P3_ w k_ ∧ NB v216 k_ ∧ NB (.slice Ao28 x11_2.length co28) k_ ∧ k_ ≠ gb196) (.slice A2 l2.length c2) l2) := ⟨h3_⟩
                                 have n4_ : Aside0 (VV w30 w (fun k_ => QQ P1_ P2_ P3_ w k_ ∧ NB v216 k_ ∧ NB (.slice Ao28 x11_2.length co28) k_ ∧ k_ ≠ gb196) (.slice A3 l3.length c3) l3) := ⟨h4_⟩
                                 have n5_ : Aside0 (w30.heap[gb196]? = some (.cells (tabC t195) 24 (0, 0))) := ⟨h5_⟩
                                 have n6_ : Aside0 (Below w.heap.size w w30) := ⟨h6_⟩
                                 clear HO_1
                                 clear HO_2
                                 clear HO_3
                                 clear HO_11
                                 clear BK196
                                 clear HB
                                 clear h0_ h1_ h2_ h3_ h4_ h5_ h6_
                                 have HO217 := n0_
                                 have HO_1 := n1_
                                 have HO_11 := n2_
                                 have HO_2 := n3_
                                 have HO_3 := n4_
                                 have BK196 := n5_
                                 have HB := n6_
                                 clear n0_ n1_ n2_ n3_ n4_ n5_ n6_
                                 have hHeld : w30.heap[gb196]? = some (.cells (tabC t195) 24 (0, 0)) := hS_
                                 obtain ⟨Ao31, co31, eo31⟩ := Kd.R_slice HO_11.out
                                 (first | subst eo31 | (injection eo31 with f1_ f2_ f3_; have f4_ := f1_.symm; have f5_ := f3_.symm; clear f1_ f2_ f3_; subst f4_; subst f5_))
                                 refine norm_ (a' := ?_) ?_ ?_
                                 rotate_left
                                 ·simp only [putAll, Act.put, sA, sZ, sS]
                                  rfl
                                 refine three_ (i := 4) (j := 8) (k := 12) (Ni := some 61) (Nj := some 65) (Nk := some 69) tq34 tq32 tq31 rfl rfl rfl rfl rfl rfl (three_of HT_.out (by kernel_rfl)) (by decide) (by decide) (by decide) (fun K hK => ?_) (fun K hK => ?_) (fun K hK => ?_)
                                 ·skip
                                  refine Kd.N_lit_step (Kd.slice 5 (Kd.int .u8)) _ 28 ?hg (N' := 61) ?hd (xs := ([x11_2] : List (List Int))) (inner := [.slice Ao31 x11_2.length co31]) (ok := (fun k_ => QQ P1_ P2_ P3_ w k_ ∧ NB v216 k_ ∧ k_ ≠ gb196)) (okp := (fun k_ => QQ P1_ P2_ P3_ w k_ ∧ NB v216 k_ ∧ k_ ≠ gb196)) ?hr ?hp (fun _ hk => hk) ((show ∀ k_, w30.heap.size ≤ k_ → (fun k_ => QQ P1_ P2_ P3_ w k_ ∧ NB v216 k_ ∧ k_ ≠ gb196) k_ from fun k_ hk => ⟨.inr (fW HB hk), fN HO217 hk, fB BK196 hk⟩) _ (Nat.le_refl _)) (Below.refl _ _) (Nat.le_refl _) (by simp) ?_; (case hd => rfl); (case hg => rfl); (case hr => first | (go_simp; done) | (go_simp; rfl)); (case hp => exact (Reps.one (show Kd.FK (Kd.slice 5 (Kd.int .u8)) _ _ x11_2 [.slice Ao31 x11_2.length co31] from (Kd.FK_slice_mk (Kd.R_reads' (Kd.R_mono (ok' := (fun k_ => QQ P1_ P2_ P3_ w k_ ∧ NB v216 k_ ∧ k_ ≠ gb196)) (Kd.R_types (Kd.R_apart' (HO_11.out) (Kd.N_typed HO217.out) (by decide)) BK196.out (by decide)) (fun k_ hk => ⟨(.inr (hk.1.1)), hk.1.2, hk.2⟩))).2.1 (Kd.R_F (Kd.R_mono (ok' := (fun k_ => QQ P1_ P2_ P3_ w k_ ∧ NB v216 k_ ∧ k_ ≠ gb196)) (Kd.R_types (Kd.R_apart' (HO_11.out) (Kd.N_typed HO217.out) (by decide)) BK196.out (by decide)) (fun k_ hk => ⟨(.inr (hk.1.1)), hk.1.2, hk.2⟩))))) (Reps.none _ _)))
                                  intro v204 w32 ho33 hb hg_ hnew_
                                  clear hg_ hnew_
                                  rw [← Ny203.out] at ho33
                                  replace HO_1 := vE HO_1 ho33 hb
                                  replace HO_2 := vE HO_2 ho33 hb
                                  replace HO_3 := vE HO_3 ho33 hb
                                  replace HO217 := nE HO217 ho33 hb
                                  have HO205 := nL ho33 HB
                                  replace BK196 := bB BK196 hb
                                  replace HB := hB HB hb
                                  clear HO_11
                                  clear hb ho33
                                  refine hK.out _ _ (BK196.out) (fun hHeld => ?_)
                                  clear hK K
                                  refine norm_ (a' := ?_) ?_ ?_
                                  rotate_left
                                  ·show Act.put _ (some 61) _ = _
                                   simp only [Act.put, sA, sZ, sS, i64_w, i32_w]
                                   rfl
                                  exact norm_ (by simp only [putAll, Act.put, sA, sZ, sS] <;> rfl) (hJ4_17 (v204, v216) _ ⟨hHeld, HO205.out, (Kd.N_mono HO217.out (fun _ hk => ⟨hk.1.1, hk.2, hk.1.2.2⟩)), (Kd.V_mono HO_1.out (fun _ hk => ⟨hk.1.1, hk.2, hk.1.2.1, hk.1.2.2.2⟩)), (Kd.V_mono HO_2.out (fun _ hk => ⟨hk.1.1, hk.2, hk.1.2.1, hk.1.2.2.2⟩)), (Kd.V_mono HO_3.out (fun _ hk => ⟨hk.1.1, hk.2, hk.1.2.1, hk.1.2.2.2⟩)), BK196.out, HB.out⟩)
                                 ·skip
                                  refine lit1 (N' := 65) ?hd (ok := (fun k_ => QQ P1_ P2_ P3_ w k_ ∧ NB (.slice Ao31 x11_2.length co31) k_ ∧ NB v216 k_ ∧ k_ ≠ gb196)) (Kd.V_mono (HO_1.out) (fun k_ hk => ⟨hk.1, hk.2.2.1, hk.2.1, hk.2.2.2⟩)) (fun k_ hk => ⟨.inr (fW HB hk), Kd.fresh' (Kd.R_lt HO_11.out) k_ hk, fN HO217 hk, fB BK196 hk⟩) ?hr HB.out ?_; (case hd => rfl); (case hr => first | (go_simp; done) | (go_simp; rfl))
                                  intro v208 w31 ho32 hb hg_ hnew_
                                  clear hg_ hnew_
                                  rw [← Ny207.out] at ho32
                                  replace HO_1 := vE HO_1 ho32 hb
                                  replace HO_2 := vE HO_2 ho32 hb
                                  replace HO_3 := vE HO_3 ho32 hb
                                  replace HO_11 := rB HO_11 hb
                                  replace HO217 := nE HO217 ho32 hb
                                  have HO209 := nL ho32 HB
                                  replace BK196 := bB BK196 hb
                                  replace HB := hB HB hb
                                  clear hb ho32
                                  refine hK.out _ _ (BK196.out) (fun hHeld => ?_)
                                  clear hK K
                                  refine norm_ (a' := ?_) ?_ ?_
                                  rotate_left
                                  ·show Act.put _ (some 65) _ = _
                                   simp only [Act.put, sA, sZ, sS, i64_w, i32_w]
                                   rfl
                                  exact norm_ (by simp only [putAll, Act.put, sA, sZ, sS] <;> rfl) (hJ8_17 (v208, v216) _ ⟨hHeld, (Kd.N_mono HO209.out (fun _ hk => ⟨hk.1, hk.2.2.1, hk.2.1, hk.2.2.2⟩)), (Kd.N_mono HO217.out (fun _ hk => ⟨hk.1.1, hk.2, hk.1.2.1, hk.1.2.2⟩)), (Kd.V_mono HO_1.out (fun _ hk => ⟨hk.1.1, hk.2, hk.1.2.1, hk.1.2.2.1, hk.1.2.2.2⟩)), HO_11.out, (Kd.V_mono HO_2.out (fun _ hk => ⟨hk.1.1, hk.2, hk.1.2.1, hk.1.2.2.1, hk.1.2.2.2⟩)), (Kd.V_mono HO_3.out (fun _ hk => ⟨hk.1.1, hk.2, hk.1.2.1, hk.1.2.2.1, hk.1.2.2.2⟩)), BK196.out, HB.out⟩)
                                 skip
                                 refine lit1 (N' := 69) ?hd (ok := (fun k_ => QQ P1_ P2_ P3_ w k_ ∧ NB (.slice Ao31 x11_2.length co31) k_ ∧ NB v216 k_ ∧ k_ ≠ gb196)) (Kd.V_mono (HO_2.out) (fun k_ hk => ⟨hk.1, hk.2.2.1, hk.2.1, hk.2.2.2⟩)) (fun k_ hk => ⟨.inr (fW HB hk), Kd.fresh' (Kd.R_lt HO_11.out) k_ hk, fN HO217 hk, fB BK196 hk⟩) ?hr HB.out ?_; (case hd => rfl); (case hr => first | (go_simp; done) | (go_simp; rfl))
                                 intro v212 w31 ho32 hb hg_ hnew_
                                 clear hg_ hnew_
                                 rw [← Ny211.out] at ho32
                                 replace HO_1 := vE HO_1 ho32 hb
                                 replace HO_2 := vE HO_2 ho32 hb
                                 replace HO_3 := vE HO_3 ho32 hb
                                 replace HO_11 := rB HO_11 hb
                                 replace HO217 := nE HO217 ho32 hb
                                 have HO213 := nL ho32 HB
                                 replace BK196 := bB BK196 hb
                                 replace HB := hB HB hb
                                 clear hb ho32
                                 refine hK.out _ _ (BK196.out) (fun hHeld => ?_)
                                 clear hK K
                                 refine norm_ (a' := ?_) ?_ ?_
                                 rotate_left
                                 ·show Act.put _ (some 69) _ = _
                                  simp only [Act.put, sA, sZ, sS, i64_w, i32_w]
                                  rfl
                                 exact norm_ (by simp only [putAll, Act.put, sA, sZ, sS] <;> rfl) (hJ12_17 (v212, v216) _ ⟨hHeld, (Kd.N_mono HO213.out (fun _ hk => ⟨hk.1, hk.2.2.1, hk.2.1, hk.2.2.2⟩)), (Kd.N_mono HO217.out (fun _ hk => ⟨hk.1.1, hk.2, hk.1.2.1, hk.1.2.2⟩)), (Kd.V_mono HO_1.out (fun _ hk => ⟨hk.1.1, hk.2, hk.1.2.1, hk.1.2.2.1, hk.1.2.2.2⟩)), HO_11.out, (Kd.V_mono HO_2.out (fun _ hk => ⟨hk.1.1, hk.2, hk.1.2.1, hk.1.2.2.1, hk.1.2.2.2⟩)), (Kd.V_mono HO_3.out (fun _ hk => ⟨hk.1.1, hk.2, hk.1.2.1, hk.1.2.2.1, hk.1.2.2.2⟩)), BK196.out, HB.out⟩)
                                skip
                                rintro v212 w30 ⟨hS_, h0_, h1_, h2_, h3_, h4_, h5_, h6_⟩
                                have n0_ : Aside0 (VN w30 w (fun k_ => QQ P1_ P2_ P3_ w k_ ∧ NB (.slice Ao28 x11_2.length co28) k_ ∧ k_ ≠ gb196) v212 y211) := ⟨h0_⟩
                                have n1_ : Aside0 (VV w30 w (fun k_ => QQ P1_ P2_ P3_ w k_ ∧ NB v212 k_ ∧ NB (.slice Ao28 x11_2.length co28) k_ ∧ k_ ≠ gb196) (.slice A1 l1.length c1) l1) := ⟨h1_⟩
                                have n2_ : Aside0 (Kd.R (Kd.int .u8) 5 w30 w.heap.size (fun k_ => (w.heap.size ≤ k_)) (.slice Ao28 x11_2.length co28) x11_2) := ⟨h2_⟩
                                have n3_ : Aside0 (VV w30 w (fun k_ => QQ P1_ P2_ P3_ w k_ ∧ NB v212 k_ ∧ NB (.slice Ao28 x11_2.length co28) k_ ∧ k_ ≠ gb196) (.slice A2 l2.length c2) l2) := ⟨h3_⟩
                                have n4_ : Aside0 (VV w30 w (fun k_ => QQ P1_ P2_ P3_ w k_ ∧ NB v212 k_ ∧ NB (.slice Ao28 x11_2.length co28) k_ ∧ k_ ≠ gb196) (.slice A3 l3.length c3) l3) := ⟨h4_⟩
                                have n5_ : Aside0 (w30.heap[gb196]? = some (.cells (tabC t195) 24 (0, 0))) := ⟨h5_⟩
                                have n6_ : Aside0 (Below w.heap.size w w30) := ⟨h6_⟩
                                clear HO_1
                                clear HO_2
                                clear HO_3
                                clear HO_11
                                clear BK196
                                clear HB
                                clear h0_ h1_ h2_ h3_ h4_ h5_ h6_
                                have HO213 := n0_
                                have HO_1 := n1_
                                have HO_11 := n2_
                                have HO_2 := n3_
                                have HO_3 := n4_
                                have BK196 := n5_
                                have HB := n6_
                                clear n0_ n1_ n2_ n3_ n4_ n5_ n6_
                                have hHeld : w30.heap[gb196]? = some (.cells (tabC t195) 24 (0, 0)) := hS_
                                obtain ⟨Ao31, co31, eo31⟩ := Kd.R_slice HO_11.out
                                (first | subst eo31 | (injection eo31 with f1_ f2_ f3_; have f4_ := f1_.symm; have f5_ := f3_.symm; clear f1_ f2_ f3_; subst f4_; subst f5_))
                                refine norm_ (a' := ?_) ?_ ?_
                                rotate_left
                                ·simp only [putAll, Act.put, sA, sZ, sS]
                                 rfl
                                refine three_ (i := 4) (j := 8) (k := 17) (Ni := some 61) (Nj := some 65) (Nk := some 74) tq35 tq33 tq31 rfl rfl rfl rfl rfl rfl (three_of HT_.out (by kernel_rfl)) (by decide) (by decide) (by decide) (fun K hK => ?_) (fun K hK => ?_) (fun K hK => ?_)
                                ·skip
                                 refine Kd.N_lit_step (Kd.slice 5 (Kd.int .u8)) _ 28 ?hg (N' := 61) ?hd (xs := ([x11_2] : List (List Int))) (inner := [.slice Ao31 x11_2.length co31]) (ok := (fun k_ => QQ P1_ P2_ P3_ w k_ ∧ NB v212 k_ ∧ k_ ≠ gb196)) (okp := (fun k_ => QQ P1_ P2_ P3_ w k_ ∧ NB v212 k_ ∧ k_ ≠ gb196)) ?hr ?hp (fun _ hk => hk) ((show ∀ k_, w30.heap.size ≤ k_ → (fun k_ => QQ P1_ P2_ P3_ w k_ ∧ NB v212 k_ ∧ k_ ≠ gb196) k_ from fun k_ hk => ⟨.inr (fW HB hk), fN HO213 hk, fB BK196 hk⟩) _ (Nat.le_refl _)) (Below.refl _ _) (Nat.le_refl _) (by simp) ?_; (case hd => rfl); (case hg => rfl); (case hr => first | (go_simp; done) | (go_simp; rfl)); (case hp => exact (Reps.one (show Kd.FK (Kd.slice 5 (Kd.int .u8)) _ _ x11_2 [.slice Ao31 x11_2.length co31] from (Kd.FK_slice_mk (Kd.R_reads' (Kd.R_mono (ok' := (fun k_ => QQ P1_ P2_ P3_ w k_ ∧ NB v212 k_ ∧ k_ ≠ gb196)) (Kd.R_types (Kd.R_apart' (HO_11.out) (Kd.N_typed HO213.out) (by decide)) BK196.out (by decide)) (fun k_ hk => ⟨(.inr (hk.1.1)), hk.1.2, hk.2⟩))).2.1 (Kd.R_F (Kd.R_mono (ok' := (fun k_ => QQ P1_ P2_ P3_ w k_ ∧ NB v212 k_ ∧ k_ ≠ gb196)) (Kd.R_types (Kd.R_apart' (HO_11.out) (Kd.N_typed HO213.out) (by decide)) BK196.out (by decide)) (fun k_ hk => ⟨(.inr (hk.1.1)), hk.1.2, hk.2⟩))))) (Reps.none _ _)))
                                 intro v204 w32 ho33 hb hg_ hnew_
                                 clear hg_ hnew_
                                 rw [← Ny203.out] at ho33
                                 replace HO_1 := vE HO_1 ho33 hb
                                 replace HO_2 := vE HO_2 ho33 hb
                                 replace HO_3 := vE HO_3 ho33 hb
                                 replace HO213 := nE HO213 ho33 hb
                                 have HO205 := nL ho33 HB
                                 replace BK196 := bB BK196 hb
                                 replace HB := hB HB hb
                                 clear HO_11
                                 clear hb ho33
                                 refine hK.out _ _ (BK196.out) (fun hHeld => ?_)
                                 clear hK K
                                 refine norm_ (a' := ?_) ?_ ?_
                                 rotate_left
                                 ·show Act.put _ (some 61) _ = _
                                  simp only [Act.put, sA, sZ, sS, i64_w, i32_w]
                                  rfl
                                 exact norm_ (by simp only [putAll, Act.put, sA, sZ, sS] <;> rfl) (hJ4_12 (v204, v212) _ ⟨hHeld, HO205.out, (Kd.N_mono HO213.out (fun _ hk => ⟨hk.1.1, hk.2, hk.1.2.2⟩)), (Kd.V_mono HO_1.out (fun _ hk => ⟨hk.1.1, hk.2, hk.1.2.1, hk.1.2.2.2⟩)), (Kd.V_mono HO_2.out (fun _ hk => ⟨hk.1.1, hk.2, hk.1.2.1, hk.1.2.2.2⟩)), (Kd.V_mono HO_3.out (fun _ hk => ⟨hk.1.1, hk.2, hk.1.2.1, hk.1.2.2.2⟩)), BK196.out, HB.out⟩)
                                ·skip
                                 refine lit1 (N' := 65) ?hd (ok := (fun k_ => QQ P1_ P2_ P3_ w k_ ∧ NB (.slice Ao31 x11_2.length co31) k_ ∧ NB v212 k_ ∧ k_ ≠ gb196)) (Kd.V_mono (HO_1.out) (fun k_ hk => ⟨hk.1, hk.2.2.1, hk.2.1, hk.2.2.2⟩)) (fun k_ hk => ⟨.inr (fW HB hk), Kd.fresh' (Kd.R_lt HO_11.out) k_ hk, fN HO213 hk, fB BK196 hk⟩) ?hr HB.out ?_; (case hd => rfl); (case hr => first | (go_simp; done) | (go_simp; rfl))
                                 intro v208 w31 ho32 hb hg_ hnew_
                                 clear hg_ hnew_
                                 rw [← Ny207.out] at ho32
                                 replace HO_1 := vE HO_1 ho32 hb
                                 replace HO_2 := vE HO_2 ho32 hb
                                 replace HO_3 := vE HO_3 ho32 hb
                                 replace HO_11 := rB HO_11 hb
                                 replace HO213 := nE HO213 ho32 hb
                                 have HO209 := nL ho32 HB
                                 replace BK196 := bB BK196 hb
                                 replace HB := hB HB hb
                                 clear hb ho32
                                 refine hK.out _ _ (BK196.out) (fun hHeld => ?_)
                                 clear hK K
                                 refine norm_ (a' := ?_) ?_ ?_
                                 rotate_left
                                 ·show Act.put _ (some 65) _ = _
                                  simp only [Act.put, sA, sZ, sS, i64_w, i32_w]
                                  rfl
                                 exact norm_ (by simp only [putAll, Act.put, sA, sZ, sS] <;> rfl) (hJ8_12 (v208, v212) _ ⟨hHeld, (Kd.N_mono HO209.out (fun _ hk => ⟨hk.1, hk.2.2.1, hk.2.1, hk.2.2.2⟩)), (Kd.N_mono HO213.out (fun _ hk => ⟨hk.1.1, hk.2, hk.1.2.1, hk.1.2.2⟩)), (Kd.V_mono HO_1.out (fun _ hk => ⟨hk.1.1, hk.2, hk.1.2.1, hk.1.2.2.1, hk.1.2.2.2⟩)), HO_11.out, (Kd.V_mono HO_2.out (fun _ hk => ⟨hk.1.1, hk.2, hk.1.2.1, hk.1.2.2.1, hk.1.2.2.2⟩)), (Kd.V_mono HO_3.out (fun _ hk => ⟨hk.1.1, hk.2, hk.1.2.1, hk.1.2.2.1, hk.1.2.2.2⟩)), BK196.out, HB.out⟩)
                                skip
                                refine lit1 (N' := 74) ?hd (ok := (fun k_ => QQ P1_ P2_ P3_ w k_ ∧ NB (.slice Ao31 x11_2.length co31) k_ ∧ NB v212 k_ ∧ k_ ≠ gb196)) (Kd.V_mono (HO_3.out) (fun k_ hk => ⟨hk.1, hk.2.2.1, hk.2.1, hk.2.2.2⟩)) (fun k_ hk => ⟨.inr (fW HB hk), Kd.fresh' (Kd.R_lt HO_11.out) k_ hk, fN HO213 hk, fB BK196 hk⟩) ?hr HB.out ?_; (case hd => rfl); (case hr => first | (go_simp; done) | (go_simp; rfl))
                                intro v216 w31 ho32 hb hg_ hnew_
                                clear hg_ hnew_
                                rw [← Ny215.out] at ho32
                                replace HO_1 := vE HO_1 ho32 hb
                                replace HO_2 := vE HO_2 ho32 hb
                                replace HO_3 := vE HO_3 ho32 hb
                                replace HO_11 := rB HO_11 hb
                                replace HO213 := nE HO213 ho32 hb
                                have HO217 := nL ho32 HB
                                replace BK196 := bB BK196 hb
                                replace HB := hB HB hb
                                clear hb ho32
                                refine hK.out _ _ (BK196.out) (fun hHeld => ?_)
                                clear hK K
                                refine norm_ (a' := ?_) ?_ ?_
                                rotate_left
                                ·show Act.put _ (some 74) _ = _
                                 simp only [Act.put, sA, sZ, sS, i64_w, i32_w]
                                 rfl
                                exact norm_ (by simp only [putAll, Act.put, sA, sZ, sS] <;> rfl) (hJ12_17 (v212, v216) _ ⟨hHeld, (Kd.N_mono HO213.out (fun _ hk => ⟨hk.1.1, hk.2, hk.1.2.1, hk.1.2.2⟩)), (Kd.N_mono HO217.out (fun _ hk => ⟨hk.1, hk.2.2.1, hk.2.1, hk.2.2.2⟩)), (Kd.V_mono HO_1.out (fun _ hk => ⟨hk.1.1, hk.1.2.1, hk.2, hk.1.2.2.1, hk.1.2.2.2⟩)), HO_11.out, (Kd.V_mono HO_2.out (fun _ hk => ⟨hk.1.1, hk.1.2.1, hk.2, hk.1.2.2.1, hk.1.2.2.2⟩)), (Kd.V_mono HO_3.out (fun _ hk => ⟨hk.1.1, hk.1.2.1, hk.2, hk.1.2.2.1, hk.1.2.2.2⟩)), BK196.out, HB.out⟩)
                               skip
                               rintro v208 w30 ⟨hS_, h0_, h1_, h2_, h3_, h4_, h5_, h6_⟩
                               have n0_ : Aside0 (VN w30 w (fun k_ => QQ P1_ P2_ P3_ w k_ ∧ NB (.slice Ao28 x11_2.length co28) k_ ∧ k_ ≠ gb196) v208 y207) := ⟨h0_⟩
                               have n1_ : Aside0 (VV w30 w (fun k_ => QQ P1_ P2_ P3_ w k_ ∧ NB v208 k_ ∧ NB (.slice Ao28 x11_2.length co28) k_ ∧ k_ ≠ gb196) (.slice A1 l1.length c1) l1) := ⟨h1_⟩
                               have n2_ : Aside0 (Kd.R (Kd.int .u8) 5 w30 w.heap.size (fun k_ => (w.heap.size ≤ k_)) (.slice Ao28 x11_2.length co28) x11_2) := ⟨h2_⟩
                               have n3_ : Aside0 (VV w30 w (fun k_ => QQ P1_ P2_ P3_ w k_ ∧ NB v208 k_ ∧ NB (.slice Ao28 x11_2.length co28) k_ ∧ k_ ≠ gb196) (.slice A2 l2.length c2) l2) := ⟨h3_⟩
                               have n4_ : Aside0 (VV w30 w (fun k_ => QQ P1_ P2_ P3_ w k_ ∧ NB v208 k_ ∧ NB (.slice Ao28 x11_2.length co28) k_ ∧ k_ ≠ gb196) (.slice A3 l3.length c3) l3) := ⟨h4_⟩
                               have n5_ : Aside0 (w30.heap[gb196]? = some (.cells (tabC t195) 24 (0, 0))) := ⟨h5_⟩
                               have n6_ : Aside0 (Below w.heap.size w w30) := ⟨h6_⟩
                               clear HO_1
                               clear HO_2
                               clear HO_3
                               clear HO_11
                               clear BK196
                               clear HB
                               clear h0_ h1_ h2_ h3_ h4_ h5_ h6_
                               have HO209 := n0_
                               have HO_1 := n1_
                               have HO_11 := n2_
                               have HO_2 := n3_
                               have HO_3 := n4_
                               have BK196 := n5_
                               have HB := n6_
                               clear n0_ n1_ n2_ n3_ n4_ n5_ n6_
                               have hHeld : w30.heap[gb196]? = some (.cells (tabC t195) 24 (0, 0)) := hS_
                               obtain ⟨Ao31, co31, eo31⟩ := Kd.R_slice HO_11.out
                               (first | subst eo31 | (injection eo31 with f1_ f2_ f3_; have f4_ := f1_.symm; have f5_ := f3_.symm; clear f1_ f2_ f3_; subst f4_; subst f5_))
                               refine norm_ (a' := ?_) ?_ ?_
                               rotate_left
                               ·simp only [putAll, Act.put, sA, sZ, sS]
                                rfl
                               refine three_ (i := 4) (j := 12) (k := 17) (Ni := some 61) (Nj := some 69) (Nk := some 74) tq36 tq33 tq32 rfl rfl rfl rfl rfl rfl (three_of HT_.out (by kernel_rfl)) (by decide) (by decide) (by decide) (fun K hK => ?_) (fun K hK => ?_) (fun K hK => ?_)
                               ·skip
                                refine Kd.N_lit_step (Kd.slice 5 (Kd.int .u8)) _ 28 ?hg (N' := 61) ?hd (xs := ([x11_2] : List (List Int))) (inner := [.slice Ao31 x11_2.length co31]) (ok := (fun k_ => QQ P1_ P2_ P3_ w k_ ∧ NB v208 k_ ∧ k_ ≠ gb196)) (okp := (fun k_ => QQ P1_ P2_ P3_ w k_ ∧ NB v208 k_ ∧ k_ ≠ gb196)) ?hr ?hp (fun _ hk => hk) ((show ∀ k_, w30.heap.size ≤ k_ → (fun k_ => QQ P1_ P2_ P3_ w k_ ∧ NB v208 k_ ∧ k_ ≠ gb196) k_ from fun k_ hk => ⟨.inr (fW HB hk), fN HO209 hk, fB BK196 hk⟩) _ (Nat.le_refl _)) (Below.refl _ _) (Nat.le_refl _) (by simp) ?_; (case hd => rfl); (case hg => rfl); (case hr => first | (go_simp; done) | (go_simp; rfl)); (case hp => exact (Reps.one (show Kd.FK (Kd.slice 5 (Kd.int .u8)) _ _ x11_2 [.slice Ao31 x11_2.length co31] from (Kd.FK_slice_mk (Kd.R_reads' (Kd.R_mono (ok' := (fun k_ => QQ P1_ P2_ P3_ w k_ ∧ NB v208 k_ ∧ k_ ≠ gb196)) (Kd.R_types (Kd.R_apart' (HO_11.out) (Kd.N_typed HO209.out) (by decide)) BK196.out (by decide)) (fun k_ hk => ⟨(.inr (hk.1.1)), hk.1.2, hk.2⟩))).2.1 (Kd.R_F (Kd.R_mono (ok' := (fun k_ => QQ P1_ P2_ P3_ w k_ ∧ NB v208 k_ ∧ k_ ≠ gb196)) (Kd.R_types (Kd.R_apart' (HO_11.out) (Kd.N_typed HO209.out) (by decide)) BK196.out (by decide)) (fun k_ hk => ⟨(.inr (hk.1.1)), hk.1.2, hk.2⟩))))) (Reps.none _ _)))
                                intro v204 w32 ho33 hb hg_ hnew_
                                clear hg_ hnew_
                                rw [← Ny203.out] at ho33
                                replace HO_1 := vE HO_1 ho33 hb
                                replace HO_2 := vE HO_2 ho33 hb
                                replace HO_3 := vE HO_3 ho33 hb
                                replace HO209 := nE HO209 ho33 hb
                                have HO205 := nL ho33 HB
                                replace BK196 := bB BK196 hb
                                replace HB := hB HB hb
                                clear HO_11
                                clear hb ho33
                                refine hK.out _ _ (BK196.out) (fun hHeld => ?_)
                                clear hK K
                                refine norm_ (a' := ?_) ?_ ?_
                                rotate_left
                                ·show Act.put _ (some 61) _ = _
                                 simp only [Act.put, sA, sZ, sS, i64_w, i32_w]
                                 rfl
                                exact norm_ (by simp only [putAll, Act.put, sA, sZ, sS] <;> rfl) (hJ4_8 (v204, v208) _ ⟨hHeld, HO205.out, (Kd.N_mono HO209.out (fun _ hk => ⟨hk.1.1, hk.2, hk.1.2.2⟩)), (Kd.V_mono HO_1.out (fun _ hk => ⟨hk.1.1, hk.2, hk.1.2.1, hk.1.2.2.2⟩)), (Kd.V_mono HO_2.out (fun _ hk => ⟨hk.1.1, hk.2, hk.1.2.1, hk.1.2.2.2⟩)), (Kd.V_mono HO_3.out (fun _ hk => ⟨hk.1.1, hk.2, hk.1.2.1, hk.1.2.2.2⟩)), BK196.out, HB.out⟩)
                               ·skip
                                refine lit1 (N' := 69) ?hd (ok := (fun k_ => QQ P1_ P2_ P3_ w k_ ∧ NB (.slice Ao31 x11_2.length co31) k_ ∧ NB v208 k_ ∧ k_ ≠ gb196)) (Kd.V_mono (HO_2.out) (fun k_ hk => ⟨hk.1, hk.2.2.1, hk.2.1, hk.2.2.2⟩)) (fun k_ hk => ⟨.inr (fW HB hk), Kd.fresh' (Kd.R_lt HO_11.out) k_ hk, fN HO209 hk, fB BK196 hk⟩) ?hr HB.out ?_; (case hd => rfl); (case hr => first | (go_simp; done) | (go_simp; rfl))
                                intro v212 w31 ho32 hb hg_ hnew_
                                clear hg_ hnew_
                                rw [← Ny211.out] at ho32
                                replace HO_1 := vE HO_1 ho32 hb
                                replace HO_2 := vE HO_2 ho32 hb
                                replace HO_3 := vE HO_3 ho32 hb
                                replace HO_11 := rB HO_11 hb
                                replace HO209 := nE HO209 ho32 hb
                                have HO213 := nL ho32 HB
                                replace BK196 := bB BK196 hb
                                replace HB := hB HB hb
                                clear hb ho32
                                refine hK.out _ _ (BK196.out) (fun hHeld => ?_)
                                clear hK K
                                refine norm_ (a' := ?_) ?_ ?_
                                rotate_left
                                ·show Act.put _ (some 69) _ = _
                                 simp only [Act.put, sA, sZ, sS, i64_w, i32_w]
                                 rfl
                                exact norm_ (by simp only [putAll, Act.put, sA, sZ, sS] <;> rfl) (hJ8_12 (v208, v212) _ ⟨hHeld, (Kd.N_mono HO209.out (fun _ hk => ⟨hk.1.1, hk.2, hk.1.2.1, hk.1.2.2⟩)), (Kd.N_mono HO213.out (fun _ hk => ⟨hk.1, hk.2.2.1, hk.2.1, hk.2.2.2⟩)), (Kd.V_mono HO_1.out (fun _ hk => ⟨hk.1.1, hk.1.2.1, hk.2, hk.1.2.2.1, hk.1.2.2.2⟩)), HO_11.out, (Kd.V_mono HO_2.out (fun _ hk => ⟨hk.1.1, hk.1.2.1, hk.2, hk.1.2.2.1, hk.1.2.2.2⟩)), (Kd.V_mono HO_3.out (fun _ hk => ⟨hk.1.1, hk.1.2.1, hk.2, hk.1.2.2.1, hk.1.2.2.2⟩)), BK196.out, HB.out⟩)
                               skip
                               refine lit1 (N' := 74) ?hd (ok := (fun k_ => QQ P1_ P2_ P3_ w k_ ∧ NB (.slice Ao31 x11_2.length co31) k_ ∧ NB v208 k_ ∧ k_ ≠ gb196)) (Kd.V_mono (HO_3.out) (fun k_ hk => ⟨hk.1, hk.2.2.1, hk.2.1, hk.2.2.2⟩)) (fun k_ hk => ⟨.inr (fW HB hk), Kd.fresh' (Kd.R_lt HO_11.out) k_ hk, fN HO209 hk, fB BK196 hk⟩) ?hr HB.out ?_; (case hd => rfl); (case hr => first | (go_simp; done) | (go_simp; rfl))
                               intro v216 w31 ho32 hb hg_ hnew_
                               clear hg_ hnew_
                               rw [← Ny215.out] at ho32
                               replace HO_1 := vE HO_1 ho32 hb
                               replace HO_2 := vE HO_2 ho32 hb
                               replace HO_3 := vE HO_3 ho32 hb
                               replace HO_11 := rB HO_11 hb
                               replace HO209 := nE HO209 ho32 hb
                               have HO217 := nL ho32 HB
                               replace BK196 := bB BK196 hb
                               replace HB := hB HB hb
                               clear hb ho32
                               refine hK.out _ _ (BK196.out) (fun hHeld => ?_)
                               clear hK K
                               refine norm_ (a' := ?_) ?_ ?_
                               rotate_left
                               ·show Act.put _ (some 74) _ = _
                                simp only [Act.put, sA, sZ, sS, i64_w, i32_w]
                                rfl
                               exact norm_ (by simp only [putAll, Act.put, sA, sZ, sS] <;> rfl) (hJ8_17 (v208, v216) _ ⟨hHeld, (Kd.N_mono HO209.out (fun _ hk => ⟨hk.1.1, hk.2, hk.1.2.1, hk.1.2.2⟩)), (Kd.N_mono HO217.out (fun _ hk => ⟨hk.1, hk.2.2.1, hk.2.1, hk.2.2.2⟩)), (Kd.V_mono HO_1.out (fun _ hk => ⟨hk.1.1, hk.1.2.1, hk.2, hk.1.2.2.1, hk.1.2.2.2⟩)), HO_11.out, (Kd.V_mono HO_2.out (fun _ hk => ⟨hk.1.1, hk.1.2.1, hk.2, hk.1.2.2.1, hk.1.2.2.2⟩)), (Kd.V_mono HO_3.out (fun _ hk => ⟨hk.1.1, hk.1.2.1, hk.2, hk.1.2.2.1, hk.1.2.2.2⟩)), BK196.out, HB.out⟩)
                              skip
                              rintro v204 w31 ⟨hS_, h0_, h1_, h2_, h3_, h4_, h5_⟩
                              have n0_ : Aside0 (VN w31 w (fun k_ => QQ P1_ P2_ P3_ w k_ ∧ k_ ≠ gb196) v204 y203) := ⟨h0_⟩
                              have n1_ : Aside0 (VV w31 w (fun k_ => QQ P1_ P2_ P3_ w k_ ∧ NB v204 k_ ∧ k_ ≠ gb196) (.slice A1 l1.length c1) l1) := ⟨h1_⟩
                              have n2_ : Aside0 (VV w31 w (fun k_ => QQ P1_ P2_ P3_ w k_ ∧ NB v204 k_ ∧ k_ ≠ gb196) (.slice A2 l2.length c2) l2) := ⟨h2_⟩
                              have n3_ : Aside0 (VV w31 w (fun k_ => QQ P1_ P2_ P3_ w k_ ∧ NB v204 k_ ∧ k_ ≠ gb196) (.slice A3 l3.length c3) l3) := ⟨h3_⟩
                              have n4_ : Aside0 (w31.heap[gb196]? = some (.cells (tabC t195) 24 (0, 0))) := ⟨h4_⟩
                              have n5_ : Aside0 (Below w.heap.size w w31) := ⟨h5_⟩
                              clear HO_1
                              clear HO_2
                              clear HO_3
                              clear HO_11
                              clear BK196
                              clear HB
                              clear h0_ h1_ h2_ h3_ h4_ h5_
                              have HO205 := n0_
                              have HO_1 := n1_
                              have HO_2 := n2_
                              have HO_3 := n3_
                              have BK196 := n4_
                              have HB := n5_
                              clear n0_ n1_ n2_ n3_ n4_ n5_
                              have hHeld : w31.heap[gb196]? = some (.cells (tabC t195) 24 (0, 0)) := hS_
                              obtain ⟨Ao32, co32, eo32⟩ := Kd.N_slice HO205.out
                              (first | subst eo32 | (injection eo32 with f1_ f2_ f3_; have f4_ := f1_.symm; have f5_ := f3_.symm; clear f1_ f2_ f3_; subst f4_; subst f5_))
                              refine norm_ (a' := ?_) ?_ ?_
                              rotate_left
                              ·simp only [putAll, Act.put, sA, sZ, sS]
                               rfl
                              refine four_ (i := 5) (j := 8) (k := 12) (m := 17) (Ni := some 62) (Nj := some 65) (Nk := some 69) (Nm := some 74) tq37 tq36 tq35 tq34 rfl rfl rfl rfl rfl rfl rfl rfl (four_of HT_.out (by kernel_rfl)) (by decide) (by decide) (by decide) (by decide) (fun K hK => ?_) (fun K hK => ?_) (fun K hK => ?_) (fun K hK => ?_)
                              ·skip
                               refine goes_ Try.func15 (by kernel_rfl) rfl #[.agg (tabC t195), .slice Ao32 y203.length co32] (by rfl) rfl rfl (by (try simp only [List.map_toArray, List.map_cons, List.map_nil]); first | done | rfl | (simp only [List.length_drop, List.length_take]; rfl)) ?_
                               with_reducible refine (crc_Sum.calls k2 t195 _ _ y203 t206 _ ?side1 ?side2 A23.out).mono ?_
                               (case side1 => repeat (first | exact (Kd.N_reads' HO205.out).2.2 | (with_reducible refine Kd.C_alloc ?_ _) | (with_reducible refine Kd.C_drewN ?_ _) | (with_reducible refine Kd.C_drew ?_)))
                               (case side2 => exact (Kd.N_reads' HO205.out).2.1)
                               rintro e w33 ⟨rfl, hb⟩
                               refine ⟨_, rfl, ?_⟩
                               replace HO_1 := vB HO_1 hb
                               replace HO_2 := vB HO_2 hb
                               replace HO_3 := vB HO_3 hb
                               replace HO205 := nB HO205 hb
                               replace BK196 := bB BK196 hb
                               replace HB := hB HB hb
                               (try clear hb)
                               (try clear hb2)
                               (try clear hk)
                               (try clear hi)
                               refine hK.out _ _ (BK196.out) (fun hHeld => ?_)
                               clear hK K
                               refine norm_ (a' := ?_) ?_ ?_
                               rotate_left
                               ·show Act.put _ (some 62) _ = _
                                simp only [Act.put, sA, sZ, sS, i64_w, i32_w]
                                rfl
                               exact norm_ (by simp only [putAll, Act.put, sA, sZ, sS] <;> rfl) (hJ4_5 (.slice Ao32 y203.length co32) _ ⟨hHeld, HO205.out, HO_1.out, HO_2.out, HO_3.out, BK196.out, HB.out⟩)
                              ·skip
                               refine lit1 (N' := 65) ?hd (ok := (fun k_ => QQ P1_ P2_ P3_ w k_ ∧ NB (.slice Ao32 y203.length co32) k_ ∧ k_ ≠ gb196)) (Kd.V_mono (HO_1.out) (fun k_ hk => ⟨hk.1, hk.2.1, hk.2.2⟩)) (fun k_ hk => ⟨.inr (fW HB hk), fN HO205 hk, fB BK196 hk⟩) ?hr HB.out ?_; (case hd => rfl); (case hr => first | (go_simp; done) | (go_simp; rfl))
                               intro v208 w32 ho33 hb hg_ hnew_
                               clear hg_ hnew_
                               rw [← Ny207.out] at ho33
                               replace HO_1 := vE HO_1 ho33 hb
                               replace HO_2 := vE HO_2 ho33 hb
                               replace HO_3 := vE HO_3 ho33 hb
                               replace HO205 := nE HO205 ho33 hb
                               have HO209 := nL ho33 HB
                               replace BK196 := bB BK196 hb
                               replace HB := hB HB hb
                               clear hb ho33
                               refine hK.out _ _ (BK196.out) (fun hHeld => ?_)
                               clear hK K
                               refine norm_ (a' := ?_) ?_ ?_
                               rotate_left
                               ·show Act.put _ (some 65) _ = _
                                simp only [Act.put, sA, sZ, sS, i64_w, i32_w]
                                rfl
                               exact norm_ (by simp only [putAll, Act.put, sA, sZ, sS] <;> rfl) (hJ4_8 (.slice Ao32 y203.length co32, v208) _ ⟨hHeld, (Kd.N_mono HO205.out (fun _ hk => ⟨hk.1.1, hk.2, hk.1.2⟩)), HO209.out, (Kd.V_mono HO_1.out (fun _ hk => ⟨hk.1.1, hk.1.2.1, hk.2, hk.1.2.2⟩)), (Kd.V_mono HO_2.out (fun _ hk => ⟨hk.1.1, hk.1.2.1, hk.2, hk.1.2.2⟩)), (Kd.V_mono HO_3.out (fun _ hk => ⟨hk.1.1, hk.1.2.1, hk.2, hk.1.2.2⟩)), BK196.out, HB.out⟩)
                              ·skip
                               refine lit1 (N' := 69) ?hd (ok := (fun k_ => QQ P1_ P2_ P3_ w k_ ∧ NB (.slice Ao32 y203.length co32) k_ ∧ k_ ≠ gb196)) (Kd.V_mono (HO_2.out) (fun k_ hk => ⟨hk.1, hk.2.1, hk.2.2⟩)) (fun k_ hk => ⟨.inr (fW HB hk), fN HO205 hk, fB BK196 hk⟩) ?hr HB.out ?_; (case hd => rfl); (case hr => first | (go_simp; done) | (go_simp; rfl))
                               intro v212 w32 ho33 hb hg_ hnew_
                               clear hg_ hnew_
                               rw [← Ny211.out] at ho33
                               replace HO_1 := vE HO_1 ho33 hb
                               replace HO_2 := vE HO_2 ho33 hb
                               replace HO_3 := vE HO_3 ho33 hb
                               replace HO205 := nE HO205 ho33 hb
                               have HO213 := nL ho33 HB
                               replace BK196 := bB BK196 hb
                               replace HB := hB HB hb
                               clear hb ho33
                               refine hK.out _ _ (BK196.out) (fun hHeld => ?_)
                               clear hK K
                               refine norm_ (a' := ?_) ?_ ?_
                               rotate_left
                               ·show Act.put _ (some 69) _ = _
                                simp only [Act.put, sA, sZ, sS, i64_w, i32_w]
                                rfl
                               exact norm_ (by simp only [putAll, Act.put, sA, sZ, sS] <;> rfl) (hJ4_12 (.slice Ao32 y203.length co32, v212) _ ⟨hHeld, (Kd.N_mono HO205.out (fun _ hk => ⟨hk.1.1, hk.2, hk.1.2⟩)), HO213.out, (Kd.V_mono HO_1.out (fun _ hk => ⟨hk.1.1, hk.1.2.1, hk.2, hk.1.2.2⟩)), (Kd.V_mono HO_2.out (fun _ hk => ⟨hk.1.1, hk.1.2.1, hk.2, hk.1.2.2⟩)), (Kd.V_mono HO_3.out (fun _ hk => ⟨hk.1.1, hk.1.2.1, hk.2, hk.1.2.2⟩)), BK196.out, HB.out⟩)
                              skip
                              refine lit1 (N' := 74) ?hd (ok := (fun k_ => QQ P1_ P2_ P3_ w k_ ∧ NB (.slice Ao32 y203.length co32) k_ ∧ k_ ≠ gb196)) (Kd.V_mono (HO_3.out) (fun k_ hk => ⟨hk.1, hk.2.1, hk.2.2⟩)) (fun k_ hk => ⟨.inr (fW HB hk), fN HO205 hk, fB BK196 hk⟩) ?hr HB.out ?_; (case hd => rfl); (case hr => first | (go_simp; done) | (go_simp; rfl))
                              intro v216 w32 ho33 hb hg_ hnew_
                              clear hg_ hnew_
                              rw [← Ny215.out] at ho33
                              replace HO_1 := vE HO_1 ho33 hb
                              replace HO_2 := vE HO_2 ho33 hb
                              replace HO_3 := vE HO_3 ho33 hb
                              replace HO205 := nE HO205 ho33 hb
                              have HO217 := nL ho33 HB
                              replace BK196 := bB BK196 hb
                              replace HB := hB HB hb
                              clear hb ho33
                              refine hK.out _ _ (BK196.out) (fun hHeld => ?_)
                              clear hK K
                              refine norm_ (a' := ?_) ?_ ?_
                              rotate_left
                              ·show Act.put _ (some 74) _ = _
                               simp only [Act.put, sA, sZ, sS, i64_w, i32_w]
                               rfl
                              exact norm_ (by simp only [putAll, Act.put, sA, sZ, sS] <;> rfl) (hJ4_17 (.slice Ao32 y203.length co32, v216) _ ⟨hHeld, (Kd.N_mono HO205.out (fun _ hk => ⟨hk.1.1, hk.2, hk.1.2⟩)), HO217.out, (Kd.V_mono HO_1.out (fun _ hk => ⟨hk.1.1, hk.1.2.1, hk.2, hk.1.2.2⟩)), (Kd.V_mono HO_2.out (fun _ hk => ⟨hk.1.1, hk.1.2.1, hk.2, hk.1.2.2⟩)), (Kd.V_mono HO_3.out (fun _ hk => ⟨hk.1.1, hk.1.2.1, hk.2, hk.1.2.2⟩)), BK196.out, HB.out⟩)
                             skip
                             rintro ⟨v212, v216⟩ w32 ⟨hS_, h0_, h1_, h2_, h3_, h4_, h5_, h6_, h7_⟩
                             have n0_ : Aside0 (VN w32 w (fun k_ => QQ P1_ P2_ P3_ w k_ ∧ NB v216 k_ ∧ NB (.slice Ao28 x11_2.length co28) k_ ∧ k_ ≠ gb196) v212 y211) := ⟨h0_⟩
                             have n1_ : Aside0 (VN w32 w (fun k_ => QQ P1_ P2_ P3_ w k_ ∧ NB v212 k_ ∧ NB (.slice Ao28 x11_2.length co28) k_ ∧ k_ ≠ gb196) v216 y215) := ⟨h1_⟩
                             have n2_ : Aside0 (VV w32 w (fun k_ => QQ P1_ P2_ P3_ w k_ ∧ NB v212 k_ ∧ NB v216 k_ ∧ NB (.slice Ao28 x11_2.length co28) k_ ∧ k_ ≠ gb196) (.slice A1 l1.length c1) l1) := ⟨h2_⟩
                             have n3_ : Aside0 (Kd.R (Kd.int .u8) 5 w32 w.heap.size (fun k_ => (w.heap.size ≤ k_)) (.slice Ao28 x11_2.length co28) x11_2) := ⟨h3_⟩
                             have n4_ : Aside0 (VV w32 w (fun k_ => QQ P1_ P2_ P3_ w k_ ∧ NB v212 k_ ∧ NB v216 k_ ∧ NB (.slice Ao28 x11_2.length co28) k_ ∧ k_ ≠ gb196) (.slice A2 l2.length c2) l2) := ⟨h4_⟩
                             have n5_ : Aside0 (VV w32 w (fun k_ => QQ P1_ P2_ P3_ w k_ ∧ NB v212 k_ ∧ NB v216 k_ ∧ NB (.slice Ao28 x11_2.length co28) k_ ∧ k_ ≠ gb196) (.slice A3 l3.length c3) l3) := ⟨h5_⟩
                             have n6_ : Aside0 (w32.heap[gb196]? = some (.cells (tabC t195) 24 (0, 0))) := ⟨h6_⟩
                             have n7_ : Aside0 (Below w.heap.size w w32) := ⟨h7_⟩
                             clear HO_1
                             clear HO_2
                             clear HO_3
                             clear HO_11
                             clear BK196
                             clear HB
                             clear h0_ h1_ h2_ h3_ h4_ h5_ h6_ h7_
                             have HO213 := n0_
                             have HO217 := n1_
                             have HO_1 := n2_
                             have HO_11 := n3_
                             have HO_2 := n4_
                             have HO_3 := n5_
                             have BK196 := n6_
                             have HB := n7_
                             clear n0_ n1_ n2_ n3_ n4_ n5_ n6_ n7_
                             have hHeld : w32.heap[gb196]? = some (.cells (tabC t195) 24 (0, 0)) := hS_
                             obtain ⟨Ao33, co33, eo33⟩ := Kd.R_slice HO_11.out
                             (first | subst eo33 | (injection eo33 with f1_ f2_ f3_; have f4_ := f1_.symm; have f5_ := f3_.symm; clear f1_ f2_ f3_; subst f4_; subst f5_))
                             refine norm_ (a' := ?_) ?_ ?_
                             rotate_left
                             ·simp only [putAll, Act.put, sA, sZ, sS]
                              rfl
                             refine two_ (i := 4) (j := 8) (Ni := some 61) (Nj := some 65) tq24 tq23 rfl rfl rfl rfl (two_of HT_.out (by kernel_rfl)) (by decide) (by decide) (fun K hK => ?_) (fun K hK => ?_)
                             ·skip
                              refine Kd.N_lit_step (Kd.slice 5 (Kd.int .u8)) _ 28 ?hg (N' := 61) ?hd (xs := ([x11_2] : List (List Int))) (inner := [.slice Ao33 x11_2.length co33]) (ok := (fun k_ => QQ P1_ P2_ P3_ w k_ ∧ NB v212 k_ ∧ NB v216 k_ ∧ k_ ≠ gb196)) (okp := (fun k_ => QQ P1_ P2_ P3_ w k_ ∧ NB v212 k_ ∧ NB v216 k_ ∧ k_ ≠ gb196)) ?hr ?hp (fun _ hk => hk) ((show ∀ k_, w32.heap.size ≤ k_ → (fun k_ => QQ P1_ P2_ P3_ w k_ ∧ NB v212 k_ ∧ NB v216 k_ ∧ k_ ≠ gb196) k_ from fun k_ hk => ⟨.inr (fW HB hk), fN HO213 hk, fN HO217 hk, fB BK196 hk⟩) _ (Nat.le_refl _)) (Below.refl _ _) (Nat.le_refl _) (by simp) ?_; (case hd => rfl); (case hg => rfl); (case hr => first | (go_simp; done) | (go_simp; rfl)); (case hp => exact (Reps.one (show Kd.FK (Kd.slice 5 (Kd.int .u8)) _ _ x11_2 [.slice Ao33 x11_2.length co33] from (Kd.FK_slice_mk (Kd.R_reads' (Kd.R_mono (ok' := (fun k_ => QQ P1_ P2_ P3_ w k_ ∧ NB v212 k_ ∧ NB v216 k_ ∧ k_ ≠ gb196)) (Kd.R_types (Kd.R_apart' (Kd.R_apart' (HO_11.out) (Kd.N_typed HO213.out) (by decide)) (Kd.N_typed HO217.out) (by decide)) BK196.out (by decide)) (fun k_ hk => ⟨(.inr (hk.1.1.1)), hk.1.1.2, hk.1.2, hk.2⟩))).2.1 (Kd.R_F (Kd.R_mono (ok' := (fun k_ => QQ P1_ P2_ P3_ w k_ ∧ NB v212 k_ ∧ NB v216 k_ ∧ k_ ≠ gb196)) (Kd.R_types (Kd.R_apart' (Kd.R_apart' (HO_11.out) (Kd.N_typed HO213.out) (by decide)) (Kd.N_typed HO217.out) (by decide)) BK196.out (by decide)) (fun k_ hk => ⟨(.inr (hk.1.1.1)), hk.1.1.2, hk.1.2, hk.2⟩))))) (Reps.none _ _)))
                              intro v204 w34 ho35 hb hg_ hnew_
                              clear hg_ hnew_
                              rw [← Ny203.out] at ho35
                              replace HO_1 := vE HO_1 ho35 hb
                              replace HO_2 := vE HO_2 ho35 hb
                              replace HO_3 := vE HO_3 ho35 hb
                              replace HO213 := nE HO213 ho35 hb
                              replace HO217 := nE HO217 ho35 hb
                              have HO205 := nL ho35 HB
                              replace BK196 := bB BK196 hb
                              replace HB := hB HB hb
                              clear HO_11
                              clear hb ho35
                              refine hK.out _ _ (BK196.out) (fun hHeld => ?_)
                              clear hK K
                              refine norm_ (a' := ?_) ?_ ?_
                              rotate_left
                              ·show Act.put _ (some 61) _ = _
                               simp only [Act.put, sA, sZ, sS, i64_w, i32_w]
                               rfl
                              exact norm_ (by simp only [putAll, Act.put, sA, sZ, sS] <;> rfl) (hJ4_12_17 (v204, v212, v216) _ ⟨hHeld, HO205.out, (Kd.N_mono HO213.out (fun _ hk => ⟨hk.1.1, hk.2, hk.1.2.1, hk.1.2.2.2⟩)), (Kd.N_mono HO217.out (fun _ hk => ⟨hk.1.1, hk.2, hk.1.2.1, hk.1.2.2.2⟩)), (Kd.V_mono HO_1.out (fun _ hk => ⟨hk.1.1, hk.2, hk.1.2.1, hk.1.2.2.1, hk.1.2.2.2.2⟩)), (Kd.V_mono HO_2.out (fun _ hk => ⟨hk.1.1, hk.2, hk.1.2.1, hk.1.2.2.1, hk.1.2.2.2.2⟩)), (Kd.V_mono HO_3.out (fun _ hk => ⟨hk.1.1, hk.2, hk.1.2.1, hk.1.2.2.1, hk.1.2.2.2.2⟩)), BK196.out, HB.out⟩)
                             skip
                             refine lit1 (N' := 65) ?hd (ok := (fun k_ => QQ P1_ P2_ P3_ w k_ ∧ NB (.slice Ao33 x11_2.length co33) k_ ∧ NB v212 k_ ∧ NB v216 k_ ∧ k_ ≠ gb196)) (Kd.V_mono (HO_1.out) (fun k_ hk => ⟨hk.1, hk.2.2.2.1, hk.2.1, hk.2.2.1, hk.2.2.2.2⟩)) (fun k_ hk => ⟨.inr (fW HB hk), Kd.fresh' (Kd.R_lt HO_11.out) k_ hk, fN HO213 hk, fN HO217 hk, fB BK196 hk⟩) ?hr HB.out ?_; (case hd => rfl); (case hr => first | (go_simp; done) | (go_simp; rfl))
                             intro v208 w33 ho34 hb hg_ hnew_
                             clear hg_ hnew_
                             rw [← Ny207.out] at ho34
                             replace HO_1 := vE HO_1 ho34 hb
                             replace HO_2 := vE HO_2 ho34 hb
                             replace HO_3 := vE HO_3 ho34 hb
                             replace HO_11 := rB HO_11 hb
                             replace HO213 := nE HO213 ho34 hb
                             replace HO217 := nE HO217 ho34 hb
                             have HO209 := nL ho34 HB
                             replace BK196 := bB BK196 hb
                             replace HB := hB HB hb
                             clear hb ho34
                             refine hK.out _ _ (BK196.out) (fun hHeld => ?_)
                             clear hK K
                             refine norm_ (a' := ?_) ?_ ?_
                             rotate_left
                             ·show Act.put _ (some 65) _ = _
                              simp only [Act.put, sA, sZ, sS, i64_w, i32_w]
                              rfl
                             exact norm_ (by simp only [putAll, Act.put, sA, sZ, sS] <;> rfl) (hJ8_12_17 (v208, v212, v216) _ ⟨hHeld, (Kd.N_mono HO209.out (fun _ hk => ⟨hk.1, hk.2.2.1, hk.2.2.2.1, hk.2.1, hk.2.2.2.2⟩)), (Kd.N_mono HO213.out (fun _ hk => ⟨hk.1.1, hk.2, hk.1.2.1, hk.1.2.2.1, hk.1.2.2.2⟩)), (Kd.N_mono HO217.out (fun _ hk => ⟨hk.1.1, hk.2, hk.1.2.1, hk.1.2.2.1, hk.1.2.2.2⟩)), (Kd.V_mono HO_1.out (fun _ hk => ⟨hk.1.1, hk.2, hk.1.2.1, hk.1.2.2.1, hk.1.2.2.2.1, hk.1.2.2.2.2⟩)), HO_11.out, (Kd.V_mono HO_2.out (fun _ hk => ⟨hk.1.1, hk.2, hk.1.2.1, hk.1.2.2.1, hk.1.2.2.2.1, hk.1.2.2.2.2⟩)), (Kd.V_mono HO_3.out (fun _ hk => ⟨hk.1.1, hk.2, hk.1.2.1, hk.1.2.2.1, hk.1.2.2.2.1, hk.1.2.2.2.2⟩)), BK196.out, HB.out⟩)
                            skip
                            rintro ⟨v208, v216⟩ w32 ⟨hS_, h0_, h1_, h2_, h3_, h4_, h5_, h6_, h7_⟩
                            have n0_ : Aside0 (VN w32 w (fun k_ => QQ P1_ P2_ P3_ w k_ ∧ NB v216 k_ ∧ NB (.slice Ao28 x11_2.length co28) k_ ∧ k_ ≠ gb196) v208 y207) := ⟨h0_⟩
                            have n1_ : Aside0 (VN w32 w (fun k_ => QQ P1_ P2_ P3_ w k_ ∧ NB v208 k_ ∧ NB (.slice Ao28 x11_2.length co28) k_ ∧ k_ ≠ gb196) v216 y215) := ⟨h1_⟩
                            have n2_ : Aside0 (VV w32 w (fun k_ => QQ P1_ P2_ P3_ w k_ ∧ NB v208 k_ ∧ NB v216 k_ ∧ NB (.slice Ao28 x11_2.length co28) k_ ∧ k_ ≠ gb196) (.slice A1 l1.length c1) l1) := ⟨h2_⟩
                            have n3_ : Aside0 (Kd.R (Kd.int .u8) 5 w32 w.heap.size (fun k_ => (w.heap.size ≤ k_)) (.slice Ao28 x11_2.length co28) x11_2) := ⟨h3_⟩
                            have n4_ : Aside0 (VV w32 w (fun k_ => QQ P1_ P2_ P3_ w k_ ∧ NB v208 k_ ∧ NB v216 k_ ∧ NB (.slice Ao28 x11_2.length co28) k_ ∧ k_ ≠ gb196) (.slice A2 l2.length c2) l2) := ⟨h4_⟩
                            have n5_ : Aside0 (VV w32 w (fun k_ => QQ P1_ P2_ P3_ w k_ ∧ NB v208 k_ ∧ NB v216 k_ ∧ NB (.slice Ao28 x11_2.length co28) k_ ∧ k_ ≠ gb196) (.slice A3 l3.length c3) l3) := ⟨h5_⟩
                            have n6_ : Aside0 (w32.heap[gb196]? = some (.cells (tabC t195) 24 (0, 0))) := ⟨h6_⟩
                            have n7_ : Aside0 (Below w.heap.size w w32) := ⟨h7_⟩
                            clear HO_1
                            clear HO_2
                            clear HO_3
                            clear HO_11
                            clear BK196
                            clear HB
                            clear h0_ h1_ h2_ h3_ h4_ h5_ h6_ h7_
                            have HO209 := n0_
                            have HO217 := n1_
                            have HO_1 := n2_
                            have HO_11 := n3_
                            have HO_2 := n4_
                            have HO_3 := n5_
                            have BK196 := n6_
                            have HB := n7_
                            clear n0_ n1_ n2_ n3_ n4_ n5_ n6_ n7_
                            have hHeld : w32.heap[gb196]? = some (.cells (tabC t195) 24 (0, 0)) := hS_
                            obtain ⟨Ao33, co33, eo33⟩ := Kd.R_slice HO_11.out
                            (first | subst eo33 | (injection eo33 with f1_ f2_ f3_; have f4_ := f1_.symm; have f5_ := f3_.symm; clear f1_ f2_ f3_; subst f4_; subst f5_))
                            refine norm_ (a' := ?_) ?_ ?_
                            rotate_left
                            ·simp only [putAll, Act.put, sA, sZ, sS]
                             rfl
                            refine two_ (i := 4) (j := 12) (Ni := some 61) (Nj := some 69) tq25 tq23 rfl rfl rfl rfl (two_of HT_.out (by kernel_rfl)) (by decide) (by decide) (fun K hK => ?_) (fun K hK => ?_)
                            ·skip
                             refine Kd.N_lit_step (Kd.slice 5 (Kd.int .u8)) _ 28 ?hg (N' := 61) ?hd (xs := ([x11_2] : List (List Int))) (inner := [.slice Ao33 x11_2.length co33]) (ok := (fun k_ => QQ P1_ P2_ P3_ w k_ ∧ NB v208 k_ ∧ NB v216 k_ ∧ k_ ≠ gb196)) (okp := (fun k_ => QQ P1_ P2_ P3_ w k_ ∧ NB v208 k_ ∧ NB v216 k_ ∧ k_ ≠ gb196)) ?hr ?hp (fun _ hk => hk) ((show ∀ k_, w32.heap.size ≤ k_ → (fun k_ => QQ P1_ P2_ P3_ w k_ ∧ NB v208 k_ ∧ NB v216 k_ ∧ k_ ≠ gb196) k_ from fun k_ hk => ⟨.inr (fW HB hk), fN HO209 hk, fN HO217 hk, fB BK196 hk⟩) _ (Nat.le_refl _)) (Below.refl _ _) (Nat.le_refl _) (by simp) ?_; (case hd => rfl); (case hg => rfl); (case hr => first | (go_simp; done) | (go_simp; rfl)); (case hp => exact (Reps.one (show Kd.FK (Kd.slice 5 (Kd.int .u8)) _ _ x11_2 [.slice Ao33 x11_2.length co33] from (Kd.FK_slice_mk (Kd.R_reads' (Kd.R_mono (ok' := (fun k_ => QQ P1_ P2_ P3_ w k_ ∧ NB v208 k_ ∧ NB v216 k_ ∧ k_ ≠ gb196)) (Kd.R_types (Kd.R_apart' (Kd.R_apart' (HO_11.out) (Kd.N_typed HO209.out) (by decide)) (Kd.N_typed HO217.out) (by decide)) BK196.out (by decide)) (fun k_ hk => ⟨(.inr (hk.1.1.1)), hk.1.1.2, hk.1.2, hk.2⟩))).2.1 (Kd.R_F (Kd.R_mono (ok' := (fun k_ => QQ P1_ P2_ P3_ w k_ ∧ NB v208 k_ ∧ NB v216 k_ ∧ k_ ≠ gb196)) (Kd.R_types (Kd.R_apart' (Kd.R_apart' (HO_11.out) (Kd.N_typed HO209.out) (by decide)) (Kd.N_typed HO217.out) (by decide)) BK196.out (by decide)) (fun k_ hk => ⟨(.inr (hk.1.1.1)), hk.1.1.2, hk.1.2, hk.2⟩))))) (Reps.none _ _)))
                             intro v204 w34 ho35 hb hg_ hnew_
                             clear hg_ hnew_
                             rw [← Ny203.out] at ho35
                             replace HO_1 := vE HO_1 ho35 hb
                             replace HO_2 := vE HO_2 ho35 hb
                             replace HO_3 := vE HO_3 ho35 hb
                             replace HO209 := nE HO209 ho35 hb
                             replace HO217 := nE HO217 ho35 hb
                             have HO205 := nL ho35 HB
                             replace BK196 := bB BK196 hb
                             replace HB := hB HB hb
                             clear HO_11
                             clear hb ho35
                             refine hK.out _ _ (BK196.out) (fun hHeld => ?_)
                             clear hK K
                             refine norm_ (a' := ?_) ?_ ?_
                             rotate_left
                             ·show Act.put _ (some 61) _ = _
                              simp only [Act.put, sA, sZ, sS, i64_w, i32_w]
                              rfl
                             exact norm_ (by simp only [putAll, Act.put, sA, sZ, sS] <;> rfl) (hJ4_8_17 (v204, v208, v216) _ ⟨hHeld, HO205.out, (Kd.N_mono HO209.out (fun _ hk => ⟨hk.1.1, hk.2, hk.1.2.1, hk.1.2.2.2⟩)), (Kd.N_mono HO217.out (fun _ hk => ⟨hk.1.1, hk.2, hk.1.2.1, hk.1.2.2.2⟩)), (Kd.V_mono HO_1.out (fun _ hk => ⟨hk.1.1, hk.2, hk.1.2.1, hk.1.2.2.1, hk.1.2.2.2.2⟩)), (Kd.V_mono HO_2.out (fun _ hk => ⟨hk.1.1, hk.2, hk.1.2.1, hk.1.2.2.1, hk.1.2.2.2.2⟩)), (Kd.V_mono HO_3.out (fun _ hk => ⟨hk.1.1, hk.2, hk.1.2.1, hk.1.2.2.1, hk.1.2.2.2.2⟩)), BK196.out, HB.out⟩)
                            skip
                            refine lit1 (N' := 69) ?hd (ok := (fun k_ => QQ P1_ P2_ P3_ w k_ ∧ NB (.slice Ao33 x11_2.length co33) k_ ∧ NB v208 k_ ∧ NB v216 k_ ∧ k_ ≠ gb196)) (Kd.V_mono (HO_2.out) (fun k_ hk => ⟨hk.1, hk.2.2.2.1, hk.2.1, hk.2.2.1, hk.2.2.2.2⟩)) (fun k_ hk => ⟨.inr (fW HB hk), Kd.fresh' (Kd.R_lt HO_11.out) k_ hk, fN HO209 hk, fN HO217 hk, fB BK196 hk⟩) ?hr HB.out ?_; (case hd => rfl); (case hr => first | (go_simp; done) | (go_simp; rfl))
                            intro v212 w33 ho34 hb hg_ hnew_
                            clear hg_ hnew_
                            rw [← Ny211.out] at ho34
                            replace HO_1 := vE HO_1 ho34 hb
                            replace HO_2 := vE HO_2 ho34 hb
                            replace HO_3 := vE HO_3 ho34 hb
                            replace HO_11 := rB HO_11 hb
                            replace HO209 := nE HO209 ho34 hb
                            replace HO217 := nE HO217 ho34 hb
                            have HO213 := nL ho34 HB
                            replace BK196 := bB BK196 hb
                            replace HB := hB HB hb
                            clear hb ho34
                            refine hK.out _ _ (BK196.out) (fun hHeld => ?_)
                            clear hK K
                            refine norm_ (a' := ?_) ?_ ?_
                            rotate_left
                            ·show Act.put _ (some 69) _ = _
                             simp only [Act.put, sA, sZ, sS, i64_w, i32_w]
                             rfl
                            exact norm_ (by simp only [putAll, Act.put, sA, sZ, sS] <;> rfl) (hJ8_12_17 (v208, v212, v216) _ ⟨hHeld, (Kd.N_mono HO209.out (fun _ hk => ⟨hk.1.1, hk.2, hk.1.2.1, hk.1.2.2.1, hk.1.2.2.2⟩)), (Kd.N_mono HO213.out (fun _ hk => ⟨hk.1, hk.2.2.1, hk.2.2.2.1, hk.2.1, hk.2.2.2.2⟩)), (Kd.N_mono HO217.out (fun _ hk => ⟨hk.1.1, hk.1.2.1, hk.2, hk.1.2.2.1, hk.1.2.2.2⟩)), (Kd.V_mono HO_1.out (fun _ hk => ⟨hk.1.1, hk.1.2.1, hk.2, hk.1.2.2.1, hk.1.2.2.2.1, hk.1.2.2.2.2⟩)), HO_11.out, (Kd.V_mono HO_2.out (fun _ hk => ⟨hk.1.1, hk.1.2.1, hk.2, hk.1.2.2.1, hk.1.2.2.2.1, hk.1.2.2.2.2⟩)), (Kd.V_mono HO_3.out (fun _ hk => ⟨hk.1.1, hk.1.2.1, hk.2, hk.1.2.2.1, hk.1.2.2.2.1, hk.1.2.2.2.2⟩)), BK196.out, HB.out⟩)
                           skip
                           rintro ⟨v208, v212⟩ w32 ⟨hS_, h0_, h1_, h2_, h3_, h4_, h5_, h6_, h7_⟩
                           have n0_ : Aside0 (VN w32 w (fun k_ => QQ P1_ P2_ P3_ w k_ ∧ NB v212 k_ ∧ NB (.slice Ao28 x11_2.length co28) k_ ∧ k_ ≠ gb196) v208 y207) := ⟨h0_⟩
                           have n1_ : Aside0 (VN w32 w (fun k_ => QQ P1_ P2_ P3_ w k_ ∧ NB v208 k_ ∧ NB (.slice Ao28 x11_2.length co28) k_ ∧ k_ ≠ gb196) v212 y211) := ⟨h1_⟩
                           have n2_ : Aside0 (VV w32 w (fun k_ => QQ P1_ P2_ P3_ w k_ ∧ NB v208 k_ ∧ NB v212 k_ ∧ NB (.slice Ao28 x11_2.length co28) k_ ∧ k_ ≠ gb196) (.slice A1 l1.length c1) l1) := ⟨h2_⟩
                           have n3_ : Aside0 (Kd.R (Kd.int .u8) 5 w32 w.heap.size (fun k_ => (w.heap.size ≤ k_)) (.slice Ao28 x11_2.length co28) x11_2) := ⟨h3_⟩
                           have n4_ : Aside0 (VV w32 w (fun k_ => QQ P1_ P2_ P3_ w k_ ∧ NB v208 k_ ∧ NB v212 k_ ∧ NB (.slice Ao28 x11_2.length co28) k_ ∧ k_ ≠ gb196) (.slice A2 l2.length c2) l2) := ⟨h4_⟩
                           have n5_ : Aside0 (VV w32 w (fun k_ => QQ P1_ P2_ P3_ w k_ ∧ NB v208 k_ ∧ NB v212 k_ ∧ NB (.slice Ao28 x11_2.length co28) k_ ∧ k_ ≠ gb196) (.slice A3 l3.length c3) l3) := ⟨h5_⟩
                           have n6_ : Aside0 (w32.heap[gb196]? = some (.cells (tabC t195) 24 (0, 0))) := ⟨h6_⟩
                           have n7_ : Aside0 (Below w.heap.size w w32) := ⟨h7_⟩
                           clear HO_1
                           clear HO_2
                           clear HO_3
                           clear HO_11
                           clear BK196
                           clear HB
                           clear h0_ h1_ h2_ h3_ h4_ h5_ h6_ h7_
                           have HO209 := n0_
                           have HO213 := n1_
                           have HO_1 := n2_
                           have HO_11 := n3_
                           have HO_2 := n4_
                           have HO_3 := n5_
                           have BK196 := n6_
                           have HB := n7_
                           clear n0_ n1_ n2_ n3_ n4_ n5_ n6_ n7_
                           have hHeld : w32.heap[gb196]? = some (.cells (tabC t195) 24 (0, 0)) := hS_
                           obtain ⟨Ao33, co33, eo33⟩ := Kd.R_slice HO_11.out
                           (first | subst eo33 | (injection eo33 with f1_ f2_ f3_; have f4_ := f1_.symm; have f5_ := f3_.symm; clear f1_ f2_ f3_; subst f4_; subst f5_))
                           refine norm_ (a' := ?_) ?_ ?_
                           rotate_left
                           ·simp only [putAll, Act.put, sA, sZ, sS]
                            rfl
                           refine two_ (i := 4) (j := 17) (Ni := some 61) (Nj := some 74) tq26 tq23 rfl rfl rfl rfl (two_of HT_.out (by kernel_rfl)) (by decide) (by decide) (fun K hK => ?_) (fun K hK => ?_)
                           ·skip
                            refine Kd.N_lit_step (Kd.slice 5 (Kd.int .u8)) _ 28 ?hg (N' := 61) ?hd (xs := ([x11_2] : List (List Int))) (inner := [.slice Ao33 x11_2.length co33]) (ok := (fun k_ => QQ P1_ P2_ P3_ w k_ ∧ NB v208 k_ ∧ NB v212 k_ ∧ k_ ≠ gb196)) (okp := (fun k_ => QQ P1_ P2_ P3_ w k_ ∧ NB v208 k_ ∧ NB v212 k_ ∧ k_ ≠ gb196)) ?hr ?hp (fun _ hk => hk) ((show ∀ k_, w32.heap.size ≤ k_ → (fun k_ => QQ P1_ P2_ P3_ w k_ ∧ NB v208 k_ ∧ NB v212 k_ ∧ k_ ≠ gb196) k_ from fun k_ hk => ⟨.inr (fW HB hk), fN HO209 hk, fN HO213 hk, fB BK196 hk⟩) _ (Nat.le_refl _)) (Below.refl _ _) (Nat.le_refl _) (by simp) ?_; (case hd => rfl); (case hg => rfl); (case hr => first | (go_simp; done) | (go_simp; rfl)); (case hp => exact (Reps.one (show Kd.FK (Kd.slice 5 (Kd.int .u8)) _ _ x11_2 [.slice Ao33 x11_2.length co33] from (Kd.FK_slice_mk (Kd.R_reads' (Kd.R_mono (ok' := (fun k_ => QQ P1_ P2_ P3_ w k_ ∧ NB v208 k_ ∧ NB v212 k_ ∧ k_ ≠ gb196)) (Kd.R_types (Kd.R_apart' (Kd.R_apart' (HO_11.out) (Kd.N_typed HO209.out) (by decide)) (Kd.N_typed HO213.out) (by decide)) BK196.out (by decide)) (fun k_ hk => ⟨(.inr (hk.1.1.1)), hk.1.1.2, hk.1.2, hk.2⟩))).2.1 (Kd.R_F (Kd.R_mono (ok' := (fun k_ => QQ P1_ P2_ P3_ w k_ ∧ NB v208 k_ ∧ NB v212 k_ ∧ k_ ≠ gb196)) (Kd.R_types (Kd.R_apart' (Kd.R_apart' (HO_11.out) (Kd.N_typed HO209.out) (by decide)) (Kd.N_typed HO213.out) (by decide)) BK196.out (by decide)) (fun k_ hk => ⟨(.inr (hk.1.1.1)), hk.1.1.2, hk.1.2, hk.2⟩))))) (Reps.none _ _)))
                            intro v204 w34 ho35 hb hg_ hnew_
                            clear hg_ hnew_
                            rw [← Ny203.out] at ho35
                            replace HO_1 := vE HO_1 ho35 hb
                            replace HO_2 := vE HO_2 ho35 hb
                            replace HO_3 := vE HO_3 ho35 hb
                            replace HO209 := nE HO209 ho35 hb
                            replace HO213 := nE HO213 ho35 hb
                            have HO205 := nL ho35 HB
                            replace BK196 := bB BK196 hb
                            replace HB := hB HB hb
                            clear HO_11
                            clear hb ho35
                            refine hK.out _ _ (BK196.out) (fun hHeld => ?_)
                            clear hK K
                            refine norm_ (a' := ?_) ?_ ?_
                            rotate_left
                            ·show Act.put _ (some 61) _ = _
                             simp only [Act.put, sA, sZ, sS, i64_w, i32_w]
                             rfl
                            exact norm_ (by simp only [putAll, Act.put, sA, sZ, sS] <;> rfl) (hJ4_8_12 (v204, v208, v212) _ ⟨hHeld, HO205.out, (Kd.N_mono HO209.out (fun _ hk => ⟨hk.1.1, hk.2, hk.1.2.1, hk.1.2.2.2⟩)), (Kd.N_mono HO213.out (fun _ hk => ⟨hk.1.1, hk.2, hk.1.2.1, hk.1.2.2.2⟩)), (Kd.V_mono HO_1.out (fun _ hk => ⟨hk.1.1, hk.2, hk.1.2.1, hk.1.2.2.1, hk.1.2.2.2.2⟩)), (Kd.V_mono HO_2.out (fun _ hk => ⟨hk.1.1, hk.2, hk.1.2.1, hk.1.2.2.1, hk.1.2.2.2.2⟩)), (Kd.V_mono HO_3.out (fun _ hk => ⟨hk.1.1, hk.2, hk.1.2.1, hk.1.2.2.1, hk.1.2.2.2.2⟩)), BK196.out, HB.out⟩)
                           skip
                           refine lit1 (N' := 74) ?hd (ok := (fun k_ => QQ P1_ P2_ P3_ w k_ ∧ NB (.slice Ao33 x11_2.length co33) k_ ∧ NB v208 k_ ∧ NB v212 k_ ∧ k_ ≠ gb196)) (Kd.V_mono (HO_3.out) (fun k_ hk => ⟨hk.1, hk.2.2.2.1, hk.2.1, hk.2.2.1, hk.2.2.2.2⟩)) (fun k_ hk => ⟨.inr (fW HB hk), Kd.fresh' (Kd.R_lt HO_11.out) k_ hk, fN HO209 hk, fN HO213 hk, fB BK196 hk⟩) ?hr HB.out ?_; (case hd => rfl); (case hr => first | (go_simp; done) | (go_simp; rfl))
                           intro v216 w33 ho34 hb hg_ hnew_
                           clear hg_ hnew_
                           rw [← Ny215.out] at ho34
                           replace HO_1 := vE HO_1 ho34 hb
                           replace HO_2 := vE HO_2 ho34 hb
                           replace HO_3 := vE HO_3 ho34 hb
                           replace HO_11 := rB HO_11 hb
                           replace HO209 := nE HO209 ho34 hb
                           replace HO213 := nE HO213 ho34 hb
                           have HO217 := nL ho34 HB
                           replace BK196 := bB BK196 hb
                           replace HB := hB HB hb
                           clear hb ho34
                           refine hK.out _ _ (BK196.out) (fun hHeld => ?_)
                           clear hK K
                           refine norm_ (a' := ?_) ?_ ?_
                           rotate_left
                           ·show Act.put _ (some 74) _ = _
                            simp only [Act.put, sA, sZ, sS, i64_w, i32_w]
                            rfl
                           exact norm_ (by simp only [putAll, Act.put, sA, sZ, sS] <;> rfl) (hJ8_12_17 (v208, v212, v216) _ ⟨hHeld, (Kd.N_mono HO209.out (fun _ hk => ⟨hk.1.1, hk.1.2.1, hk.2, hk.1.2.2.1, hk.1.2.2.2⟩)), (Kd.N_mono HO213.out (fun _ hk => ⟨hk.1.1, hk.1.2.1, hk.2, hk.1.2.2.1, hk.1.2.2.2⟩)), (Kd.N_mono HO217.out (fun _ hk => ⟨hk.1, hk.2.2.1, hk.2.2.2.1, hk.2.1, hk.2.2.2.2⟩)), (Kd.V_mono HO_1.out (fun _ hk => ⟨hk.1.1, hk.1.2.1, hk.1.2.2.1, hk.2, hk.1.2.2.2.1, hk.1.2.2.2.2⟩)), HO_11.out, (Kd.V_mono HO_2.out (fun _ hk => ⟨hk.1.1, hk.1.2.1, hk.1.2.2.1, hk.2, hk.1.2.2.2.1, hk.1.2.2.2.2⟩)), (Kd.V_mono HO_3.out (fun _ hk => ⟨hk.1.1, hk.1.2.1, hk.1.2.2.1, hk.2, hk.1.2.2.2.1, hk.1.2.2.2.2⟩)), BK196.out, HB.out⟩)
                          skip
                          rintro ⟨v204, v216⟩ w33 ⟨hS_, h0_, h1_, h2_, h3_, h4_, h5_, h6_⟩
                          have n0_ : Aside0 (VN w33 w (fun k_ => QQ P1_ P2_ P3_ w k_ ∧ NB v216 k_ ∧ k_ ≠ gb196) v204 y203) := ⟨h0_⟩
                          have n1_ : Aside0 (VN w33 w (fun k_ => QQ P1_ P2_ P3_ w k_ ∧ NB v204 k_ ∧ k_ ≠ gb196) v216 y215) := ⟨h1_⟩
                          have n2_ : Aside0 (VV w33 w (fun k_ => QQ P1_ P2_ P3_ w k_ ∧ NB v204 k_ ∧ NB v216 k_ ∧ k_ ≠ gb196) (.slice A1 l1.length c1) l1) := ⟨h2_⟩
                          have n3_ : Aside0 (VV w33 w (fun k_ => QQ P1_ P2_ P3_ w k_ ∧ NB v204 k_ ∧ NB v216 k_ ∧ k_ ≠ gb196) (.slice A2 l2.length c2) l2) := ⟨h3_⟩
                          have n4_ : Aside0 (VV w33 w (fun k_ => QQ P1_ P2_ P3_ w k_ ∧ NB v204 k_ ∧ NB v216 k_ ∧ k_ ≠ gb196) (.slice A3 l3.length c3) l3) := ⟨h4_⟩
                          have n5_ : Aside0 (w33.heap[gb196]? = some (.cells (tabC t195) 24 (0, 0))) := ⟨h5_⟩
                          have n6_ : Aside0 (Below w.heap.size w w33) := ⟨h6_⟩
                          clear HO_1
                          clear HO_2
                          clear HO_3
                          clear HO_11
                          clear BK196
                          clear HB
                          clear h0_ h1_ h2_ h3_ h4_ h5_ h6_
                          have HO205 := n0_
                          have HO217 := n1_
                          have HO_1 := n2_
                          have HO_2 := n3_
                          have HO_3 := n4_
                          have BK196 := n5_
                          have HB := n6_
                          clear n0_ n1_ n2_ n3_ n4_ n5_ n6_
                          have hHeld : w33.heap[gb196]? = some (.cells (tabC t195) 24 (0, 0)) := hS_
                          obtain ⟨Ao34, co34, eo34⟩ := Kd.N_slice HO205.out
                          (first | subst eo34 | (injection eo34 with f1_ f2_ f3_; have f4_ := f1_.symm; have f5_ := f3_.symm; clear f1_ f2_ f3_; subst f4_; subst f5_))
                          refine norm_ (a' := ?_) ?_ ?_
                          rotate_left
                          ·simp only [putAll, Act.put, sA, sZ, sS]
                           rfl
                          refine three_ (i := 5) (j := 8) (k := 12) (Ni := some 62) (Nj := some 65) (Nk := some 69) tq27 tq25 tq24 rfl rfl rfl rfl rfl rfl (three_of HT_.out (by kernel_rfl)) (by decide) (by decide) (by decide) (fun K hK => ?_) (fun K hK => ?_) (fun K hK => ?_)
                          ·skip
                           refine goes_ Try.func15 (by kernel_rfl) rfl #[.agg (tabC t195), .slice Ao34 y203.length co34] (by rfl) rfl rfl (by (try simp only [List.map_toArray, List.map_cons, List.map_nil]); first | done | rfl | (simp only [List.length_drop, List.length_take]; rfl)) ?_
                           with_reducible refine (crc_Sum.calls k2 t195 _ _ y203 t206 _ ?side1 ?side2 A23.out).mono ?_
                           (case side1 => repeat (first | exact (Kd.N_reads' HO205.out).2.2 | (with_reducible refine Kd.C_alloc ?_ _) | (with_reducible refine Kd.C_drewN ?_ _) | (with_reducible refine Kd.C_drew ?_)))
                           (case side2 => exact (Kd.N_reads' HO205.out).2.1)
                           rintro e w35 ⟨rfl, hb⟩
                           refine ⟨_, rfl, ?_⟩
                           replace HO_1 := vB HO_1 hb
                           replace HO_2 := vB HO_2 hb
                           replace HO_3 := vB HO_3 hb
                           replace HO205 := nB HO205 hb
                           replace HO217 := nB HO217 hb
                           replace BK196 := bB BK196 hb
                           replace HB := hB HB hb
                           (try clear hb)
                           (try clear hb2)
                           (try clear hk)
                           (try clear hi)
                           refine hK.out _ _ (BK196.out) (fun hHeld => ?_)
                           clear hK K
                           refine norm_ (a' := ?_) ?_ ?_
                           rotate_left
                           ·show Act.put _ (some 62) _ = _
                            simp only [Act.put, sA, sZ, sS, i64_w, i32_w]
                            rfl
                           exact norm_ (by simp only [putAll, Act.put, sA, sZ, sS] <;> rfl) (hJ4_5_17 (.slice Ao34 y203.length co34, v216) _ ⟨hHeld, HO205.out, HO217.out, HO_1.out, HO_2.out, HO_3.out, BK196.out, HB.out⟩)
                          ·skip
                           refine lit1 (N' := 65) ?hd (ok := (fun k_ => QQ P1_ P2_ P3_ w k_ ∧ NB (.slice Ao34 y203.length co34) k_ ∧ NB v216 k_ ∧ k_ ≠ gb196)) (Kd.V_mono (HO_1.out) (fun k_ hk => ⟨hk.1, hk.2.1, hk.2.2.1, hk.2.2.2⟩)) (fun k_ hk => ⟨.inr (fW HB hk), fN HO205 hk, fN HO217 hk, fB BK196 hk⟩) ?hr HB.out ?_; (case hd => rfl); (case hr => first | (go_simp; done) | (go_simp; rfl))
                           intro v208 w34 ho35 hb hg_ hnew_
                           clear hg_ hnew_
                           rw [← Ny207.out] at ho35
                           replace HO_1 := vE HO_1 ho35 hb
                           replace HO_2 := vE HO_2 ho35 hb
                           replace HO_3 := vE HO_3 ho35 hb
                           replace HO205 := nE HO205 ho35 hb
                           replace HO217 := nE HO217 ho35 hb
                           have HO209 := nL ho35 HB
                           replace BK196 := bB BK196 hb
                           replace HB := hB HB hb
                           clear hb ho35
                           refine hK.out _ _ (BK196.out) (fun hHeld => ?_)
                           clear hK K
                           refine norm_ (a' := ?_) ?_ ?_
                           rotate_left
                           ·show Act.put _ (some 65) _ = _
                            simp only [Act.put, sA, sZ, sS, i64_w, i32_w]
                            rfl
                           exact norm_ (by simp only [putAll, Act.put, sA, sZ, sS] <;> rfl) (hJ4_8_17 (.slice Ao34 y203.length co34, v208, v216) _ ⟨hHeld, (Kd.N_mono HO205.out (fun _ hk => ⟨hk.1.1, hk.2, hk.1.2.1, hk.1.2.2⟩)), HO209.out, (Kd.N_mono HO217.out (fun _ hk => ⟨hk.1.1, hk.1.2.1, hk.2, hk.1.2.2⟩)), (Kd.V_mono HO_1.out (fun _ hk => ⟨hk.1.1, hk.1.2.1, hk.2, hk.1.2.2.1, hk.1.2.2.2⟩)), (Kd.V_mono HO_2.out (fun _ hk => ⟨hk.1.1, hk.1.2.1, hk.2, hk.1.2.2.1, hk.1.2.2.2⟩)), (Kd.V_mono HO_3.out (fun _ hk => ⟨hk.1.1, hk.1.2.1, hk.2, hk.1.2.2.1, hk.1.2.2.2⟩)), BK196.out, HB.out⟩)
                          skip
                          refine lit1 (N' := 69) ?hd (ok := (fun k_ => QQ P1_ P2_ P3_ w k_ ∧ NB (.slice Ao34 y203.length co34) k_ ∧ NB v216 k_ ∧ k_ ≠ gb196)) (Kd.V_mono (HO_2.out) (fun k_ hk => ⟨hk.1, hk.2.1, hk.2.2.1, hk.2.2.2⟩)) (fun k_ hk => ⟨.inr (fW HB hk), fN HO205 hk, fN HO217 hk, fB BK196 hk⟩) ?hr HB.out ?_; (case hd => rfl); (case hr => first | (go_simp; done) | (go_simp; rfl))
                          intro v212 w34 ho35 hb hg_ hnew_
                          clear hg_ hnew_
                          rw [← Ny211.out] at ho35
                          replace HO_1 := vE HO_1 ho35 hb
                          replace HO_2 := vE HO_2 ho35 hb
                          replace HO_3 := vE HO_3 ho35 hb
                          replace HO205 := nE HO205 ho35 hb
                          replace HO217 := nE HO217 ho35 hb
                          have HO213 := nL ho35 HB
                          replace BK196 := bB BK196 hb
                          replace HB := hB HB hb
                          clear hb ho35
                          refine hK.out _ _ (BK196.out) (fun hHeld => ?_)
                          clear hK K
                          refine norm_ (a' := ?_) ?_ ?_
                          rotate_left
                          ·show Act.put _ (some 69) _ = _
                           simp only [Act.put, sA, sZ, sS, i64_w, i32_w]
                           rfl
                          exact norm_ (by simp only [putAll, Act.put, sA, sZ, sS] <;> rfl) (hJ4_12_17 (.slice Ao34 y203.length co34, v212, v216) _ ⟨hHeld, (Kd.N_mono HO205.out (fun _ hk => ⟨hk.1.1, hk.2, hk.1.2.1, hk.1.2.2⟩)), HO213.out, (Kd.N_mono HO217.out (fun _ hk => ⟨hk.1.1, hk.1.2.1, hk.2, hk.1.2.2⟩)), (Kd.V_mono HO_1.out (fun _ hk => ⟨hk.1.1, hk.1.2.1, hk.2, hk.1.2.2.1, hk.1.2.2.2⟩)), (Kd.V_mono HO_2.out (fun _ hk => ⟨hk.1.1, hk.1.2.1, hk.2, hk.1.2.2.1, hk.1.2.2.2⟩)), (Kd.V_mono HO_3.out (fun _ hk => ⟨hk.1.1, hk.1.2.1, hk.2, hk.1.2.2.1, hk.1.2.2.2⟩)), BK196.out, HB.out⟩)
                         skip
                         rintro ⟨v204, v212⟩ w33 ⟨hS_, h0_, h1_, h2_, h3_, h4_, h5_, h6_⟩
                         have n0_ : Aside0 (VN w33 w (fun k_ => QQ P1_ P2_ P3_ w k_ ∧ NB v212 k_ ∧ k_ ≠ gb196) v204 y203) := ⟨h0_⟩
                         have n1_ : Aside0 (VN w33 w (fun k_ => QQ P1_ P2_ P3_ w k_ ∧ NB v204 k_ ∧ k_ ≠ gb196) v212 y211) := ⟨h1_⟩
                         have n2_ : Aside0 (VV w33 w (fun k_ => QQ P1_ P2_ P3_ w k_ ∧ NB v204 k_ ∧ NB v212 k_ ∧ k_ ≠ gb196) (.slice A1 l1.length c1) l1) := ⟨h2_⟩
                         have n3_ : Aside0 (VV w33 w (fun k_ => QQ P1_ P2_ P3_ w k_ ∧ NB v204 k_ ∧ NB v212 k_ ∧ k_ ≠ gb196) (.slice A2 l2.length c2) l2) := ⟨h3_⟩
                         have n4_ : Aside0 (VV w33 w (fun k_ => QQ P1_ P2_ P3_ w k_ ∧ NB v204 k_ ∧ NB v212 k_ ∧ k_ ≠ gb196) (.slice A3 l3.length c3) l3) := ⟨h4_⟩
                         have n5_ : Aside0 (w33.heap[gb196]? = some (.cells (tabC t195) 24 (0, 0))) := ⟨h5_⟩
                         have n6_ : Aside0 (Below w.heap.size w w33) := ⟨h6_⟩
                         clear HO_1
                         clear HO_2
                         clear HO_3
                         clear HO_11
                         clear BK196
                         clear HB
                         clear h0_ h1_ h2_ h3_ h4_ h5_ h6_
                         have HO205 := n0_
                         have HO213 := n1_
                         have HO_1 := n2_
                         have HO_2 := n3_
                         have HO_3 := n4_
                         have BK196 := n5_
                         have HB := n6_
                         clear n0_ n1_ n2_ n3_ n4_ n5_ n6_
                         have hHeld : w33.heap[gb196]? = some (.cells (tabC t195) 24 (0, 0)) := hS_
                         obtain ⟨Ao34, co34, eo34⟩ := Kd.N_slice HO205.out
                         (first | subst eo34 | (injection eo34 with f1_ f2_ f3_; have f4_ := f1_.symm; have f5_ := f3_.symm; clear f1_ f2_ f3_; subst f4_; subst f5_))
                         refine norm_ (a' := ?_) ?_ ?_
                         rotate_left
                         ·simp only [putAll, Act.put, sA, sZ, sS]
                          rfl
                         refine three_ (i := 5) (j := 8) (k := 17) (Ni := some 62) (Nj := some 65) (Nk := some 74) tq28 tq26 tq24 rfl rfl rfl rfl rfl rfl (three_of HT_.out (by kernel_rfl)) (by decide) (by decide) (by decide) (fun K hK => ?_) (fun K hK => ?_) (fun K hK => ?_)
                         ·skip
                          refine goes_ Try.func15 (by kernel_rfl) rfl #[.agg (tabC t195), .slice Ao34 y203.length co34] (by rfl) rfl rfl (by (try simp only [List.map_toArray, List.map_cons, List.map_nil]); first | done | rfl | (simp only [List.length_drop, List.length_take]; rfl)) ?_
                          with_reducible refine (crc_Sum.calls k2 t195 _ _ y203 t206 _ ?side1 ?side2 A23.out).mono ?_
                          (case side1 => repeat (first | exact (Kd.N_reads' HO205.out).2.2 | (with_reducible refine Kd.C_alloc ?_ _) | (with_reducible refine Kd.C_drewN ?_ _) | (with_reducible refine Kd.C_drew ?_)))
                          (case side2 => exact (Kd.N_reads' HO205.out).2.1)
                          rintro e w35 ⟨rfl, hb⟩
                          refine ⟨_, rfl, ?_⟩
                          replace HO_1 := vB HO_1 hb
                          replace HO_2 := vB HO_2 hb
                          replace HO_3 := vB HO_3 hb
                          replace HO205 := nB HO205 hb
                          replace HO213 := nB HO213 hb
                          replace BK196 := bB BK196 hb
                          replace HB := hB HB hb
                          (try clear hb)
                          (try clear hb2)
                          (try clear hk)
                          (try clear hi)
                          refine hK.out _ _ (BK196.out) (fun hHeld => ?_)
                          clear hK K
                          refine norm_ (a' := ?_) ?_ ?_
                          rotate_left
                          ·show Act.put _ (some 62) _ = _
                           simp only [Act.put, sA, sZ, sS, i64_w, i32_w]
                           rfl
                          exact norm_ (by simp only [putAll, Act.put, sA, sZ, sS] <;> rfl) (hJ4_5_12 (.slice Ao34 y203.length co34, v212) _ ⟨hHeld, HO205.out, HO213.out, HO_1.out, HO_2.out, HO_3.out, BK196.out, HB.out⟩)
                         ·skip
                          refine lit1 (N' := 65) ?hd (ok := (fun k_ => QQ P1_ P2_ P3_ w k_ ∧ NB (.slice Ao34 y203.length co34) k_ ∧ NB v212 k_ ∧ k_ ≠ gb196)) (Kd.V_mono (HO_1.out) (fun k_ hk => ⟨hk.1, hk.2.1, hk.2.2.1, hk.2.2.2⟩)) (fun k_ hk => ⟨.inr (fW HB hk), fN HO205 hk, fN HO213 hk, fB BK196 hk⟩) ?hr HB.out ?_; (case hd => rfl); (case hr => first | (go_simp; done) | (go_simp; rfl))
                          intro v208 w34 ho35 hb hg_ hnew_
                          clear hg_ hnew_
                          rw [← Ny207.out] at ho35
                          replace HO_1 := vE HO_1 ho35 hb
                          replace HO_2 := vE HO_2 ho35 hb
                          replace HO_3 := vE HO_3 ho35 hb
                          replace HO205 := nE HO205 ho35 hb
                          replace HO213 := nE HO213 ho35 hb
                          have HO209 := nL ho35 HB
                          replace BK196 := bB BK196 hb
                          replace HB := hB HB hb
                          clear hb ho35
                          refine hK.out _ _ (BK196.out) (fun hHeld => ?_)
                          clear hK K
                          refine norm_ (a' := ?_) ?_ ?_
                          rotate_left
                          ·show Act.put _ (some 65) _ = _
                           simp only [Act.put, sA, sZ, sS, i64_w, i32_w]
                           rfl
                          exact norm_ (by simp only [putAll, Act.put, sA, sZ, sS] <;> rfl) (hJ4_8_12 (.slice Ao34 y203.length co34, v208, v212) _ ⟨hHeld, (Kd.N_mono HO205.out (fun _ hk => ⟨hk.1.1, hk.2, hk.1.2.1, hk.1.2.2⟩)), HO209.out, (Kd.N_mono HO213.out (fun _ hk => ⟨hk.1.1, hk.1.2.1, hk.2, hk.1.2.2⟩)), (Kd.V_mono HO_1.out (fun _ hk => ⟨hk.1.1, hk.1.2.1, hk.2, hk.1.2.2.1, hk.1.2.2.2⟩)), (Kd.V_mono HO_2.out (fun _ hk => ⟨hk.1.1, hk.1.2.1, hk.2, hk.1.2.2.1, hk.1.2.2.2⟩)), (Kd.V_mono HO_3.out (fun _ hk => ⟨hk.1.1, hk.1.2.1, hk.2, hk.1.2.2.1, hk.1.2.2.2⟩)), BK196.out, HB.out⟩)
                         skip
                         refine lit1 (N' := 74) ?hd (ok := (fun k_ => QQ P1_ P2_ P3_ w k_ ∧ NB (.slice Ao34 y203.length co34) k_ ∧ NB v212 k_ ∧ k_ ≠ gb196)) (Kd.V_mono (HO_3.out) (fun k_ hk => ⟨hk.1, hk.2.1, hk.2.2.1, hk.2.2.2⟩)) (fun k_ hk => ⟨.inr (fW HB hk), fN HO205 hk, fN HO213 hk, fB BK196 hk⟩) ?hr HB.out ?_; (case hd => rfl); (case hr => first | (go_simp; done) | (go_simp; rfl))
                         intro v216 w34 ho35 hb hg_ hnew_
                         clear hg_ hnew_
                         rw [← Ny215.out] at ho35
                         replace HO_1 := vE HO_1 ho35 hb
                         replace HO_2 := vE HO_2 ho35 hb
                         replace HO_3 := vE HO_3 ho35 hb
                         replace HO205 := nE HO205 ho35 hb
                         replace HO213 := nE HO213 ho35 hb
                         have HO217 := nL ho35 HB
                         replace BK196 := bB BK196 hb
                         replace HB := hB HB hb
                         clear hb ho35
                         refine hK.out _ _ (BK196.out) (fun hHeld => ?_)
                         clear hK K
                         refine norm_ (a' := ?_) ?_ ?_
                         rotate_left
                         ·show Act.put _ (some 74) _ = _
                          simp only [Act.put, sA, sZ, sS, i64_w, i32_w]
                          rfl
                         exact norm_ (by simp only [putAll, Act.put, sA, sZ, sS] <;> rfl) (hJ4_12_17 (.slice Ao34 y203.length co34, v212, v216) _ ⟨hHeld, (Kd.N_mono HO205.out (fun _ hk => ⟨hk.1.1, hk.1.2.1, hk.2, hk.1.2.2⟩)), (Kd.N_mono HO213.out (fun _ hk => ⟨hk.1.1, hk.1.2.1, hk.2, hk.1.2.2⟩)), HO217.out, (Kd.V_mono HO_1.out (fun _ hk => ⟨hk.1.1, hk.1.2.1, hk.1.2.2.1, hk.2, hk.1.2.2.2⟩)), (Kd.V_mono HO_2.out (fun _ hk => ⟨hk.1.1, hk.1.2.1, hk.1.2.2.1, hk.2, hk.1.2.2.2⟩)), (Kd.V_mono HO_3.out (fun _ hk => ⟨hk.1.1, hk.1.2.1, hk.1.2.2.1, hk.2, hk.1.2.2.2⟩)), BK196.out, HB.out⟩)
                        skip
                        rintro ⟨v204, v208⟩ w33 ⟨hS_, h0_, h1_, h2_, h3_, h4_, h5_, h6_⟩
                        have n0_ : Aside0 (VN w33 w (fun k_ => QQ P1_ P2_ P3_ w k_ ∧ NB v208 k_ ∧ k_ ≠ gb196) v204 y203) := ⟨h0_⟩
                        have n1_ : Aside0 (VN w33 w (fun k_ => QQ P1_ P2_ P3_ w k_ ∧ NB v204 k_ ∧ k_ ≠ gb196) v208 y207) := ⟨h1_⟩
                        have n2_ : Aside0 (VV w33 w (fun k_ => QQ P1_ P2_ P3_ w k_ ∧ NB v204 k_ ∧ NB v208 k_ ∧ k_ ≠ gb196) (.slice A1 l1.length c1) l1) := ⟨h2_⟩
                        have n3_ : Aside0 (VV w33 w (fun k_ => QQ P1_ P2_ P3_ w k_ ∧ NB v204 k_ ∧ NB v208 k_ ∧ k_ ≠ gb196) (.slice A2 l2.length c2) l2) := ⟨h3_⟩
                        have n4_ : Aside0 (VV w33 w (fun k_ => QQ P1_ P2_ P3_ w k_ ∧ NB v204 k_ ∧ NB v208 k_ ∧ k_ ≠ gb196) (.slice A3 l3.length c3) l3) := ⟨h4_⟩
                        have n5_ : Aside0 (w33.heap[gb196]? = some (.cells (tabC t195) 24 (0, 0))) := ⟨h5_⟩
                        have n6_ : Aside0 (Below w.heap.size w w33) := ⟨h6_⟩
                        clear HO_1
                        clear HO_2
                        clear HO_3
                        clear HO_11
                        clear BK196
                        clear HB
                        clear h0_ h1_ h2_ h3_ h4_ h5_ h6_
                        have HO205 := n0_
                        have HO209 := n1_
                        have HO_1 := n2_
                        have HO_2 := n3_
                        have HO_3 := n4_
                        have BK196 := n5_
                        have HB := n6_
                        clear n0_ n1_ n2_ n3_ n4_ n5_ n6_
                        have hHeld : w33.heap[gb196]? = some (.cells (tabC t195) 24 (0, 0)) := hS_
                        obtain ⟨Ao34, co34, eo34⟩ := Kd.N_slice HO205.out
                        (first | subst eo34 | (injection eo34 with f1_ f2_ f3_; have f4_ := f1_.symm; have f5_ := f3_.symm; clear f1_ f2_ f3_; subst f4_; subst f5_))
                        refine norm_ (a' := ?_) ?_ ?_
                        rotate_left
                        ·simp only [putAll, Act.put, sA, sZ, sS]
                         rfl
                        refine three_ (i := 5) (j := 12) (k := 17) (Ni := some 62) (Nj := some 69) (Nk := some 74) tq29 tq26 tq25 rfl rfl rfl rfl rfl rfl (three_of HT_.out (by kernel_rfl)) (by decide) (by decide) (by decide) (fun K hK => ?_) (fun K hK => ?_) (fun K hK => ?_)
                        ·skip
                         refine goes_ Try.func15 (by kernel_rfl) rfl #[.agg (tabC t195), .slice Ao34 y203.length co34] (by rfl) rfl rfl (by (try simp only [List.map_toArray, List.map_cons, List.map_nil]); first | done | rfl | (simp only [List.length_drop, List.length_take]; rfl)) ?_
                         with_reducible refine (crc_Sum.calls k2 t195 _ _ y203 t206 _ ?side1 ?side2 A23.out).mono ?_
                         (case side1 => repeat (first | exact (Kd.N_reads' HO205.out).2.2 | (with_reducible refine Kd.C_alloc ?_ _) | (with_reducible refine Kd.C_drewN ?_ _) | (with_reducible refine Kd.C_drew ?_)))
                         (case side2 => exact (Kd.N_reads' HO205.out).2.1)
                         rintro e w35 ⟨rfl, hb⟩
                         refine ⟨_, rfl, ?_⟩
                         replace HO_1 := vB HO_1 hb
                         replace HO_2 := vB HO_2 hb
                         replace HO_3 := vB HO_3 hb
                         replace HO205 := nB HO205 hb
                         replace HO209 := nB HO209 hb
                         replace BK196 := bB BK196 hb
                         replace HB := hB HB hb
                         (try clear hb)
                         (try clear hb2)
                         (try clear hk)
                         (try clear hi)
                         refine hK.out _ _ (BK196.out) (fun hHeld => ?_)
                         clear hK K
                         refine norm_ (a' := ?_) ?_ ?_
                         rotate_left
                         ·show Act.put _ (some 62) _ = _
                          simp only [Act.put, sA, sZ, sS, i64_w, i32_w]
                          rfl
                         exact norm_ (by simp only [putAll, Act.put, sA, sZ, sS] <;> rfl) (hJ4_5_8 (.slice Ao34 y203.length co34, v208) _ ⟨hHeld, HO205.out, HO209.out, HO_1.out, HO_2.out, HO_3.out, BK196.out, HB.out⟩)
                        ·skip
                         refine lit1 (N' := 69) ?hd (ok := (fun k_ => QQ P1_ P2_ P3_ w k_ ∧ NB (.slice Ao34 y203.length co34) k_ ∧ NB v208 k_ ∧ k_ ≠ gb196)) (Kd.V_mono (HO_2.out) (fun k_ hk => ⟨hk.1, hk.2.1, hk.2.2.1, hk.2.2.2⟩)) (fun k_ hk => ⟨.inr (fW HB hk), fN HO205 hk, fN HO209 hk, fB BK196 hk⟩) ?hr HB.out ?_; (case hd => rfl); (case hr => first | (go_simp; done) | (go_simp; rfl))
                         intro v212 w34 ho35 hb hg_ hnew_
                         clear hg_ hnew_
                         rw [← Ny211.out] at ho35
                         replace HO_1 := vE HO_1 ho35 hb
                         replace HO_2 := vE HO_2 ho35 hb
                         replace HO_3 := vE HO_3 ho35 hb
                         replace HO205 := nE HO205 ho35 hb
                         replace HO209 := nE HO209 ho35 hb
                         have HO213 := nL ho35 HB
                         replace BK196 := bB BK196 hb
                         replace HB := hB HB hb
                         clear hb ho35
                         refine hK.out _ _ (BK196.out) (fun hHeld => ?_)
                         clear hK K
                         refine norm_ (a' := ?_) ?_ ?_
                         rotate_left
                         ·show Act.put _ (some 69) _ = _
                          simp only [Act.put, sA, sZ, sS, i64_w, i32_w]
                          rfl
                         exact norm_ (by simp only [putAll, Act.put, sA, sZ, sS] <;> rfl) (hJ4_8_12 (.slice Ao34 y203.length co34, v208, v212) _ ⟨hHeld, (Kd.N_mono HO205.out (fun _ hk => ⟨hk.1.1, hk.1.2.1, hk.2, hk.1.2.2⟩)), (Kd.N_mono HO209.out (fun _ hk => ⟨hk.1.1, hk.1.2.1, hk.2, hk.1.2.2⟩)), HO213.out, (Kd.V_mono HO_1.out (fun _ hk => ⟨hk.1.1, hk.1.2.1, hk.1.2.2.1, hk.2, hk.1.2.2.2⟩)), (Kd.V_mono HO_2.out (fun _ hk => ⟨hk.1.1, hk.1.2.1, hk.1.2.2.1, hk.2, hk.1.2.2.2⟩)), (Kd.V_mono HO_3.out (fun _ hk => ⟨hk.1.1, hk.1.2.1, hk.1.2.2.1, hk.2, hk.1.2.2.2⟩)), BK196.out, HB.out⟩)
                        skip
                        refine lit1 (N' := 74) ?hd (ok := (fun k_ => QQ P1_ P2_ P3_ w k_ ∧ NB (.slice Ao34 y203.length co34) k_ ∧ NB v208 k_ ∧ k_ ≠ gb196)) (Kd.V_mono (HO_3.out) (fun k_ hk => ⟨hk.1, hk.2.1, hk.2.2.1, hk.2.2.2⟩)) (fun k_ hk => ⟨.inr (fW HB hk), fN HO205 hk, fN HO209 hk, fB BK196 hk⟩) ?hr HB.out ?_; (case hd => rfl); (case hr => first | (go_simp; done) | (go_simp; rfl))
                        intro v216 w34 ho35 hb hg_ hnew_
                        clear hg_ hnew_
                        rw [← Ny215.out] at ho35
                        replace HO_1 := vE HO_1 ho35 hb
                        replace HO_2 := vE HO_2 ho35 hb
                        replace HO_3 := vE HO_3 ho35 hb
                        replace HO205 := nE HO205 ho35 hb
                        replace HO209 := nE HO209 ho35 hb
                        have HO217 := nL ho35 HB
                        replace BK196 := bB BK196 hb
                        replace HB := hB HB hb
                        clear hb ho35
                        refine hK.out _ _ (BK196.out) (fun hHeld => ?_)
                        clear hK K
                        refine norm_ (a' := ?_) ?_ ?_
                        rotate_left
                        ·show Act.put _ (some 74) _ = _
                         simp only [Act.put, sA, sZ, sS, i64_w, i32_w]
                         rfl
                        exact norm_ (by simp only [putAll, Act.put, sA, sZ, sS] <;> rfl) (hJ4_8_17 (.slice Ao34 y203.length co34, v208, v216) _ ⟨hHeld, (Kd.N_mono HO205.out (fun _ hk => ⟨hk.1.1, hk.1.2.1, hk.2, hk.1.2.2⟩)), (Kd.N_mono HO209.out (fun _ hk => ⟨hk.1.1, hk.1.2.1, hk.2, hk.1.2.2⟩)), HO217.out, (Kd.V_mono HO_1.out (fun _ hk => ⟨hk.1.1, hk.1.2.1, hk.1.2.2.1, hk.2, hk.1.2.2.2⟩)), (Kd.V_mono HO_2.out (fun _ hk => ⟨hk.1.1, hk.1.2.1, hk.1.2.2.1, hk.2, hk.1.2.2.2⟩)), (Kd.V_mono HO_3.out (fun _ hk => ⟨hk.1.1, hk.1.2.1, hk.1.2.2.1, hk.2, hk.1.2.2.2⟩)), BK196.out, HB.out⟩)
                       skip
                       rintro v204 w33 ⟨hS_, h0_, h1_, h2_, h3_, h4_, h5_⟩
                       have n0_ : Aside0 (VN w33 w (fun k_ => QQ P1_ P2_ P3_ w k_ ∧ k_ ≠ gb196) v204 y203) := ⟨h0_⟩
                       have n1_ : Aside0 (VV w33 w (fun k_ => QQ P1_ P2_ P3_ w k_ ∧ NB v204 k_ ∧ k_ ≠ gb196) (.slice A1 l1.length c1) l1) := ⟨h1_⟩
                       have n2_ : Aside0 (VV w33 w (fun k_ => QQ P1_ P2_ P3_ w k_ ∧ NB v204 k_ ∧ k_ ≠ gb196) (.slice A2 l2.length c2) l2) := ⟨h2_⟩
                       have n3_ : Aside0 (VV w33 w (fun k_ => QQ P1_ P2_ P3_ w k_ ∧ NB v204 k_ ∧ k_ ≠ gb196) (.slice A3 l3.length c3) l3) := ⟨h3_⟩
                       have n4_ : Aside0 (w33.heap[gb196]? = some (.cells (tabC t195) 24 (0, 0))) := ⟨h4_⟩
                       have n5_ : Aside0 (Below w.heap.size w w33) := ⟨h5_⟩
                       clear HO_1
                       clear HO_2
                       clear HO_3
                       clear HO_11
                       clear BK196
                       clear HB
                       clear h0_ h1_ h2_ h3_ h4_ h5_
                       have HO205 := n0_
                       have HO_1 := n1_
                       have HO_2 := n2_
                       have HO_3 := n3_
                       have BK196 := n4_
                       have HB := n5_
                       clear n0_ n1_ n2_ n3_ n4_ n5_
                       have hHeld : w33.heap[gb196]? = some (.cells (tabC t195) 24 (0, 0)) := hS_
                       refine norm_ (a' := ?_) ?_ ?_
                       rotate_left
                       ·simp only [putAll, Act.put, sA, sZ, sS]
                        rfl
                       refine three_ (i := 8) (j := 12) (k := 17) (Ni := some 65) (Nj := some 69) (Nk := some 74) tq29 tq28 tq27 rfl rfl rfl rfl rfl rfl (three_of HT_.out (by kernel_rfl)) (by decide) (by decide) (by decide) (fun K hK => ?_) (fun K hK => ?_) (fun K hK => ?_)
                       ·skip
                        refine lit1 (N' := 65) ?hd (ok := (fun k_ => QQ P1_ P2_ P3_ w k_ ∧ NB v204 k_ ∧ k_ ≠ gb196)) (Kd.V_mono (HO_1.out) (fun k_ hk => ⟨hk.1, hk.2.1, hk.2.2⟩)) (fun k_ hk => ⟨.inr (fW HB hk), fN HO205 hk, fB BK196 hk⟩) ?hr HB.out ?_; (case hd => rfl); (case hr => first | (go_simp; done) | (go_simp; rfl))
                        intro v208 w34 ho35 hb hg_ hnew_
                        clear hg_ hnew_
                        rw [← Ny207.out] at ho35
                        replace HO_1 := vE HO_1 ho35 hb
                        replace HO_2 := vE HO_2 ho35 hb
                        replace HO_3 := vE HO_3 ho35 hb
                        replace HO205 := nE HO205 ho35 hb
                        have HO209 := nL ho35 HB
                        replace BK196 := bB BK196 hb
                        replace HB := hB HB hb
                        clear hb ho35
                        refine hK.out _ _ (BK196.out) (fun hHeld => ?_)
                        clear hK K
                        refine norm_ (a' := ?_) ?_ ?_
                        rotate_left
                        ·show Act.put _ (some 65) _ = _
                         simp only [Act.put, sA, sZ, sS, i64_w, i32_w]
                         rfl
                        exact norm_ (by simp only [putAll, Act.put, sA, sZ, sS] <;> rfl) (hJ4_5_8 (v204, v208) _ ⟨hHeld, (Kd.N_mono HO205.out (fun _ hk => ⟨hk.1.1, hk.2, hk.1.2⟩)), HO209.out, (Kd.V_mono HO_1.out (fun _ hk => ⟨hk.1.1, hk.1.2.1, hk.2, hk.1.2.2⟩)), (Kd.V_mono HO_2.out (fun _ hk => ⟨hk.1.1, hk.1.2.1, hk.2, hk.1.2.2⟩)), (Kd.V_mono HO_3.out (fun _ hk => ⟨hk.1.1, hk.1.2.1, hk.2, hk.1.2.2⟩)), BK196.out, HB.out⟩)
                       ·skip
                        refine lit1 (N' := 69) ?hd (ok := (fun k_ => QQ P1_ P2_ P3_ w k_ ∧ NB v204 k_ ∧ k_ ≠ gb196)) (Kd.V_mono (HO_2.out) (fun k_ hk => ⟨hk.1, hk.2.1, hk.2.2⟩)) (fun k_ hk => ⟨.inr (fW HB hk), fN HO205 hk, fB BK196 hk⟩) ?hr HB.out ?_; (case hd => rfl); (case hr => first | (go_simp; done) | (go_simp; rfl))
                        intro v212 w34 ho35 hb hg_ hnew_
                        clear hg_ hnew_
                        rw [← Ny211.out] at ho35
                        replace HO_1 := vE HO_1 ho35 hb
                        replace HO_2 := vE HO_2 ho35 hb
                        replace HO_3 := vE HO_3 ho35 hb
                        replace HO205 := nE HO205 ho35 hb
                        have HO213 := nL ho35 HB
                        replace BK196 := bB BK196 hb
                        replace HB := hB HB hb
                        clear hb ho35
                        refine hK.out _ _ (BK196.out) (fun hHeld => ?_)
                        clear hK K
                        refine norm_ (a' := ?_) ?_ ?_
                        rotate_left
                        ·show Act.put _ (some 69) _ = _
                         simp only [Act.put, sA, sZ, sS, i64_w, i32_w]
                         rfl
                        exact norm_ (by simp only [putAll, Act.put, sA, sZ, sS] <;> rfl) (hJ4_5_12 (v204, v212) _ ⟨hHeld, (Kd.N_mono HO205.out (fun _ hk => ⟨hk.1.1, hk.2, hk.1.2⟩)), HO213.out, (Kd.V_mono HO_1.out (fun _ hk => ⟨hk.1.1, hk.1.2.1, hk.2, hk.1.2.2⟩)), (Kd.V_mono HO_2.out (fun _ hk => ⟨hk.1.1, hk.1.2.1, hk.2, hk.1.2.2⟩)), (Kd.V_mono HO_3.out (fun _ hk => ⟨hk.1.1, hk.1.2.1, hk.2, hk.1.2.2⟩)), BK196.out, HB.out⟩)
                       skip
                       refine lit1 (N' := 74) ?hd (ok := (fun k_ => QQ P1_ P2_ P3_ w k_ ∧ NB v204 k_ ∧ k_ ≠ gb196)) (Kd.V_mono (HO_3.out) (fun k_ hk => ⟨hk.1, hk.2.1, hk.2.2⟩)) (fun k_ hk => ⟨.inr (fW HB hk), fN HO205 hk, fB BK196 hk⟩) ?hr HB.out ?_; (case hd => rfl); (case hr => first | (go_simp; done) | (go_simp; rfl))
                       intro v216 w34 ho35 hb hg_ hnew_
                       clear hg_ hnew_
                       rw [← Ny215.out] at ho35
                       replace HO_1 := vE HO_1 ho35 hb
                       replace HO_2 := vE HO_2 ho35 hb
                       replace HO_3 := vE HO_3 ho35 hb
                       replace HO205 := nE HO205 ho35 hb
                       have HO217 := nL ho35 HB
                       replace BK196 := bB BK196 hb
                       replace HB := hB HB hb
                       clear hb ho35
                       refine hK.out _ _ (BK196.out) (fun hHeld => ?_)
                       clear hK K
                       refine norm_ (a' := ?_) ?_ ?_
                       rotate_left
                       ·show Act.put _ (some 74) _ = _
                        simp only [Act.put, sA, sZ, sS, i64_w, i32_w]
                        rfl
                       exact norm_ (by simp only [putAll, Act.put, sA, sZ, sS] <;> rfl) (hJ4_5_17 (v204, v216) _ ⟨hHeld, (Kd.N_mono HO205.out (fun _ hk => ⟨hk.1.1, hk.2, hk.1.2⟩)), HO217.out, (Kd.V_mono HO_1.out (fun _ hk => ⟨hk.1.1, hk.1.2.1, hk.2, hk.1.2.2⟩)), (Kd.V_mono HO_2.out (fun _ hk => ⟨hk.1.1, hk.1.2.1, hk.2, hk.1.2.2⟩)), (Kd.V_mono HO_3.out (fun _ hk => ⟨hk.1.1, hk.1.2.1, hk.2, hk.1.2.2⟩)), BK196.out, HB.out⟩)
                      skip
                      rintro ⟨v208, v212, v216⟩ w34 ⟨hS_, h0_, h1_, h2_, h3_, h4_, h5_, h6_, h7_, h8_⟩
                      have n0_ : Aside0 (VN w34 w (fun k_ => QQ P1_ P2_ P3_ w k_ ∧ NB v212 k_ ∧ NB v216 k_ ∧ NB (.slice Ao28 x11_2.length co28) k_ ∧ k_ ≠ gb196) v208 y207) := ⟨h0_⟩
                      have n1_ : Aside0 (VN w34 w (fun k_ => QQ P1_ P2_ P3_ w k_ ∧ NB v208 k_ ∧ NB v216 k_ ∧ NB (.slice Ao28 x11_2.length co28) k_ ∧ k_ ≠ gb196) v212 y211) := ⟨h1_⟩
                      have n2_ : Aside0 (VN w34 w (fun k_ => QQ P1_ P2_ P3_ w k_ ∧ NB v208 k_ ∧ NB v212 k_ ∧ NB (.slice Ao28 x11_2.length co28) k_ ∧ k_ ≠ gb196) v216 y215) := ⟨h2_⟩
                      have n3_ : Aside0 (VV w34 w (fun k_ => QQ P1_ P2_ P3_ w k_ ∧ NB v208 k_ ∧ NB v212 k_ ∧ NB v216 k_ ∧ NB (.slice Ao28 x11_2.length co28) k_ ∧ k_ ≠ gb196) (.slice A1 l1.length c1) l1) := ⟨h3_⟩
                      have n4_ : Aside0 (Kd.R (Kd.int .u8) 5 w34 w.heap.size (fun k_ => (w.heap.size ≤ k_)) (.slice Ao28 x11_2.length co28) x11_2) := ⟨h4_⟩
                      have n5_ : Aside0 (VV w34 w (fun k_ => QQ P1_ P2_ P3_ w k_ ∧ NB v208 k_ ∧ NB v212 k_ ∧ NB v216 k_ ∧ NB (.slice Ao28 x11_2.length co28) k_ ∧ k_ ≠ gb196) (.slice A2 l2.length c2) l2) := ⟨h5_⟩
                      have n6_ : Aside0 (VV w34 w (fun k_ => QQ P1_ P2_ P3_ w k_ ∧ NB v208 k_ ∧ NB v212 k_ ∧ NB v216 k_ ∧ NB (.slice Ao28 x11_2.length co28) k_ ∧ k_ ≠ gb196) (.slice A3 l3.length c3) l3) := ⟨h6_⟩
                      have n7_ : Aside0 (w34.heap[gb196]? = some (.cells (tabC t195) 24 (0, 0))) := ⟨h7_⟩
                      have n8_ : Aside0 (Below w.heap.size w w34) := ⟨h8_⟩
                      clear HO_1
                      clear HO_2
                      clear HO_3
                      clear HO_11
                      clear BK196
                      clear HB
                      clear h0_ h1_ h2_ h3_ h4_ h5_ h6_ h7_ h8_
                      have HO209 := n0_
                      have HO213 := n1_
                      have HO217 := n2_
                      have HO_1 := n3_
                      have HO_11 := n4_
                      have HO_2 := n5_
                      have HO_3 := n6_
                      have BK196 := n7_
                      have HB := n8_
                      clear n0_ n1_ n2_ n3_ n4_ n5_ n6_ n7_ n8_
                      have hHeld : w34.heap[gb196]? = some (.cells (tabC t195) 24 (0, 0)) := hS_
                      obtain ⟨Ao35, co35, eo35⟩ := Kd.R_slice HO_11.out
                      (first | subst eo35 | (injection eo35 with f1_ f2_ f3_; have f4_ := f1_.symm; have f5_ := f3_.symm; clear f1_ f2_ f3_; subst f4_; subst f5_))
                      refine norm_ (a' := ?_) ?_ ?_
                      rotate_left
                      ·simp only [putAll, Act.put, sA, sZ, sS]
                       rfl
                      refine one_ (i := 4) (N := some 61) tq17 rfl rfl (one_of HT_.out (by kernel_rfl)) (by decide) (fun K hK => ?_)
                      refine Kd.N_lit_step (Kd.slice 5 (Kd.int .u8)) _ 28 ?hg (N' := 61) ?hd (xs := ([x11_2] : List (List Int))) (inner := [.slice Ao35 x11_2.length co35]) (ok := (fun k_ => QQ P1_ P2_ P3_ w k_ ∧ NB v208 k_ ∧ NB v212 k_ ∧ NB v216 k_ ∧ k_ ≠ gb196)) (okp := (fun k_ => QQ P1_ P2_ P3_ w k_ ∧ NB v208 k_ ∧ NB v212 k_ ∧ NB v216 k_ ∧ k_ ≠ gb196)) ?hr ?hp (fun _ hk => hk) ((show ∀ k_, w34.heap.size ≤ k_ → (fun k_ => QQ P1_ P2_ P3_ w k_ ∧ NB v208 k_ ∧ NB v212 k_ ∧ NB v216 k_ ∧ k_ ≠ gb196) k_ from fun k_ hk => ⟨.inr (fW HB hk), fN HO209 hk, fN HO213 hk, fN HO217 hk, fB BK196 hk⟩) _ (Nat.le_refl _)) (Below.refl _ _) (Nat.le_refl _) (by simp) ?_; (case hd => rfl); (case hg => rfl); (case hr => first | (go_simp; done) | (go_simp; rfl)); (case hp => exact (Reps.one (show Kd.FK (Kd.slice 5 (Kd.int .u8)) _ _ x11_2 [.slice Ao35 x11_2.length co35] from (Kd.FK_slice_mk (Kd.R_reads' (Kd.R_mono (ok' := (fun k_ => QQ P1_ P2_ P3_ w k_ ∧ NB v208 k_ ∧ NB v212 k_ ∧ NB v216 k_ ∧ k_ ≠ gb196)) (Kd.R_types (Kd.R_apart' (Kd.R_apart' (Kd.R_apart' (HO_11.out) (Kd.N_typed HO209.out) (by decide)) (Kd.N_typed HO213.out) (by decide)) (Kd.N_typed HO217.out) (by decide)) BK196.out (by decide)) (fun k_ hk => ⟨(.inr (hk.1.1.1.1)), hk.1.1.1.2, hk.1.1.2, hk.1.2, hk.2⟩))).2.1 (Kd.R_F (Kd.R_mono (ok' := (fun k_ => QQ P1_ P2_ P3_ w k_ ∧ NB v208 k_ ∧ NB v212 k_ ∧ NB v216 k_ ∧ k_ ≠ gb196)) (Kd.R_types (Kd.R_apart' (Kd.R_apart' (Kd.R_apart' (HO_11.out) (Kd.N_typed HO209.out) (by decide)) (Kd.N_typed HO213.out) (by decide)) (Kd.N_typed HO217.out) (by decide)) BK196.out (by decide)) (fun k_ hk => ⟨(.inr (hk.1.1.1.1)), hk.1.1.1.2, hk.1.1.2, hk.1.2, hk.2⟩))))) (Reps.none _ _)))
                      intro v204 w36 ho37 hb hg_ hnew_
                      clear hg_ hnew_
                      rw [← Ny203.out] at ho37
                      replace HO_1 := vE HO_1 ho37 hb
                      replace HO_2 := vE HO_2 ho37 hb
                      replace HO_3 := vE HO_3 ho37 hb
                      replace HO209 := nE HO209 ho37 hb
                      replace HO213 := nE HO213 ho37 hb
                      replace HO217 := nE HO217 ho37 hb
                      have HO205 := nL ho37 HB
                      replace BK196 := bB BK196 hb
                      replace HB := hB HB hb
                      clear HO_11
                      clear hb ho37
                      refine hK.out _ _ (BK196.out) (fun hHeld => ?_)
                      clear hK K
                      refine norm_ (a' := ?_) ?_ ?_
                      rotate_left
                      ·show Act.put _ (some 61) _ = _
                       simp only [Act.put, sA, sZ, sS, i64_w, i32_w]
                       rfl
                      exact norm_ (by simp only [putAll, Act.put, sA, sZ, sS] <;> rfl) (hJ4_8_12_17 (v204, v208, v212, v216) _ ⟨hHeld, HO205.out, (Kd.N_mono HO209.out (fun _ hk => ⟨hk.1.1, hk.2, hk.1.2.1, hk.1.2.2.1, hk.1.2.2.2.2⟩)), (Kd.N_mono HO213.out (fun _ hk => ⟨hk.1.1, hk.2, hk.1.2.1, hk.1.2.2.1, hk.1.2.2.2.2⟩)), (Kd.N_mono HO217.out (fun _ hk => ⟨hk.1.1, hk.2, hk.1.2.1, hk.1.2.2.1, hk.1.2.2.2.2⟩)), (Kd.V_mono HO_1.out (fun _ hk => ⟨hk.1.1, hk.2, hk.1.2.1, hk.1.2.2.1, hk.1.2.2.2.1, hk.1.2.2.2.2.2⟩)), (Kd.V_mono HO_2.out (fun _ hk => ⟨hk.1.1, hk.2, hk.1.2.1, hk.1.2.2.1, hk.1.2.2.2.1, hk.1.2.2.2.2.2⟩)), (Kd.V_mono HO_3.out (fun _ hk => ⟨hk.1.1, hk.2, hk.1.2.1, hk.1.2.2.1, hk.1.2.2.2.1, hk.1.2.2.2.2.2⟩)), BK196.out, HB.out⟩)
                     skip
                     rintro ⟨v204, v212, v216⟩ w35 ⟨hS_, h0_, h1_, h2_, h3_, h4_, h5_, h6_, h7_⟩
                     have n0_ : Aside0 (VN w35 w (fun k_ => QQ P1_ P2_ P3_ w k_ ∧ NB v212 k_ ∧ NB v216 k_ ∧ k_ ≠ gb196) v204 y203) := ⟨h0_⟩
                     have n1_ : Aside0 (VN w35 w (fun k_ => QQ P1_ P2_ P3_ w k_ ∧ NB v204 k_ ∧ NB v216 k_ ∧ k_ ≠ gb196) v212 y211) := ⟨h1_⟩
                     have n2_ : Aside0 (VN w35 w (fun k_ => QQ P1_ P2_ P3_ w k_ ∧ NB v204 k_ ∧ NB v212 k_ ∧ k_ ≠ gb196) v216 y215) := ⟨h2_⟩
                     have n3_ : Aside0 (VV w35 w (fun k_ => QQ P1_ P2_ P3_ w k_ ∧ NB v204 k_ ∧ NB v212 k_ ∧ NB v216 k_ ∧ k_ ≠ gb196) (.slice A1 l1.length c1) l1) := ⟨h3_⟩
                     have n4_ : Aside0 (VV w35 w (fun k_ => QQ P1_ P2_ P3_ w k_ ∧ NB v204 k_ ∧ NB v212 k_ ∧ NB v216 k_ ∧ k_ ≠ gb196) (.slice A2 l2.length c2) l2) := ⟨h4_⟩
                     have n5_ : Aside0 (VV w35 w (fun k_ => QQ P1_ P2_ P3_ w k_ ∧ NB v204 k_ ∧ NB v212 k_ ∧ NB v216 k_ ∧ k_ ≠ gb196) (.slice A3 l3.length c3) l3) := ⟨h5_⟩
                     have n6_ : Aside0 (w35.heap[gb196]? = some (.cells (tabC t195) 24 (0, 0))) := ⟨h6_⟩
                     have n7_ : Aside0 (Below w.heap.size w w35) := ⟨h7_⟩
                     clear HO_1
                     clear HO_2
                     clear HO_3
                     clear HO_11
                     clear BK196
                     clear HB
                     clear h0_ h1_ h2_ h3_ h4_ h5_ h6_ h7_
                     have HO205 := n0_
                     have HO213 := n1_
                     have HO217 := n2_
                     have HO_1 := n3_
                     have HO_2 := n4_
                     have HO_3 := n5_
                     have BK196 := n6_
                     have HB := n7_
                     clear n0_ n1_ n2_ n3_ n4_ n5_ n6_ n7_
                     have hHeld : w35.heap[gb196]? = some (.cells (tabC t195) 24 (0, 0)) := hS_
                     obtain ⟨Ao36, co36, eo36⟩ := Kd.N_slice HO205.out
                     (first | subst eo36 | (injection eo36 with f1_ f2_ f3_; have f4_ := f1_.symm; have f5_ := f3_.symm; clear f1_ f2_ f3_; subst f4_; subst f5_))
                     refine norm_ (a' := ?_) ?_ ?_
                     rotate_left
                     ·simp only [putAll, Act.put, sA, sZ, sS]
                      rfl
                     refine two_ (i := 5) (j := 8) (Ni := some 62) (Nj := some 65) tq18 tq17 rfl rfl rfl rfl (two_of HT_.out (by kernel_rfl)) (by decide) (by decide) (fun K hK => ?_) (fun K hK => ?_)
                     ·skip
                      refine goes_ Try.func15 (by kernel_rfl) rfl #[.agg (tabC t195), .slice Ao36 y203.length co36] (by rfl) rfl rfl (by (try simp only [List.map_toArray, List.map_cons, List.map_nil]); first | done | rfl | (simp only [List.length_drop, List.length_take]; rfl)) ?_
                      with_reducible refine (crc_Sum.calls k2 t195 _ _ y203 t206 _ ?side1 ?side2 A23.out).mono ?_
                      (case side1 => repeat (first | exact (Kd.N_reads' HO205.out).2.2 | (with_reducible refine Kd.C_alloc ?_ _) | (with_reducible refine Kd.C_drewN ?_ _) | (with_reducible refine Kd.C_drew ?_)))
                      (case side2 => exact (Kd.N_reads' HO205.out).2.1)
                      rintro e w37 ⟨rfl, hb⟩
                      refine ⟨_, rfl, ?_⟩
                      replace HO_1 := vB HO_1 hb
                      replace HO_2 := vB HO_2 hb
                      replace HO_3 := vB HO_3 hb
                      replace HO205 := nB HO205 hb
                      replace HO213 := nB HO213 hb
                      replace HO217 := nB HO217 hb
                      replace BK196 := bB BK196 hb
                      replace HB := hB HB hb
                      (try clear hb)
                      (try clear hb2)
                      (try clear hk)
                      (try clear hi)
                      refine hK.out _ _ (BK196.out) (fun hHeld => ?_)
                      clear hK K
                      refine norm_ (a' := ?_) ?_ ?_
                      rotate_left
                      ·show Act.put _ (some 62) _ = _
                       simp only [Act.put, sA, sZ, sS, i64_w, i32_w]
                       rfl
                      exact norm_ (by simp only [putAll, Act.put, sA, sZ, sS] <;> rfl) (hJ4_5_12_17 (.slice Ao36 y203.length co36, v212, v216) _ ⟨hHeld, HO205.out, HO213.out, HO217.out, HO_1.out, HO_2.out, HO_3.out, BK196.out, HB.out⟩)
                     skip
                     refine lit1 (N' := 65) ?hd (ok := (fun k_ => QQ P1_ P2_ P3_ w k_ ∧ NB (.slice Ao36 y203.length co36) k_ ∧ NB v212 k_ ∧ NB v216 k_ ∧ k_ ≠ gb196)) (Kd.V_mono (HO_1.out) (fun k_ hk => ⟨hk.1, hk.2.1, hk.2.2.1, hk.2.2.2.1, hk.2.2.2.2⟩)) (fun k_ hk => ⟨.inr (fW HB hk), fN HO205 hk, fN HO213 hk, fN HO217 hk, fB BK196 hk⟩) ?hr HB.out ?_; (case hd => rfl); (case hr => first | (go_simp; done) | (go_simp; rfl))
                     intro v208 w36 ho37 hb hg_ hnew_
                     clear hg_ hnew_
                     rw [← Ny207.out] at ho37
                     replace HO_1 := vE HO_1 ho37 hb
                     replace HO_2 := vE HO_2 ho37 hb
                     replace HO_3 := vE HO_3 ho37 hb
                     replace HO205 := nE HO205 ho37 hb
                     replace HO213 := nE HO213 ho37 hb
                     replace HO217 := nE HO217 ho37 hb
                     have HO209 := nL ho37 HB
                     replace BK196 := bB BK196 hb
                     replace HB := hB HB hb
                     clear hb ho37
                     refine hK.out _ _ (BK196.out) (fun hHeld => ?_)
                     clear hK K
                     refine norm_ (a' := ?_) ?_ ?_
                     rotate_left
                     ·show Act.put _ (some 65) _ = _
                      simp only [Act.put, sA, sZ, sS, i64_w, i32_w]
                      rfl
                     exact norm_ (by simp only [putAll, Act.put, sA, sZ, sS] <;> rfl) (hJ4_8_12_17 (.slice Ao36 y203.length co36, v208, v212, v216) _ ⟨hHeld, (Kd.N_mono HO205.out (fun _ hk => ⟨hk.1.1, hk.2, hk.1.2.1, hk.1.2.2.1, hk.1.2.2.2⟩)), HO209.out, (Kd.N_mono HO213.out (fun _ hk => ⟨hk.1.1, hk.1.2.1, hk.2, hk.1.2.2.1, hk.1.2.2.2⟩)), (Kd.N_mono HO217.out (fun _ hk => ⟨hk.1.1, hk.1.2.1, hk.2, hk.1.2.2.1, hk.1.2.2.2⟩)), (Kd.V_mono HO_1.out (fun _ hk => ⟨hk.1.1, hk.1.2.1, hk.2, hk.1.2.2.1, hk.1.2.2.2.1, hk.1.2.2.2.2⟩)), (Kd.V_mono HO_2.out (fun _ hk => ⟨hk.1.1, hk.1.2.1, hk.2, hk.1.2.2.1, hk.1.2.2.2.1, hk.1.2.2.2.2⟩)), (Kd.V_mono HO_3.out (fun _ hk => ⟨hk.1.1, hk.1.2.1, hk.2, hk.1.2.2.1, hk.1.2.2.2.1, hk.1.2.2.2.2⟩)), BK196.out, HB.out⟩)
                    skip
                    rintro ⟨v204, v208, v216⟩ w35 ⟨hS_, h0_, h1_, h2_, h3_, h4_, h5_, h6_, h7_⟩
                    have n0_ : Aside0 (VN w35 w (fun k_ => QQ P1_ P2_ P3_ w k_ ∧ NB v208 k_ ∧ NB v216 k_ ∧ k_ ≠ gb196) v204 y203) := ⟨h0_⟩
                    have n1_ : Aside0 (VN w35 w (fun k_ => QQ P1_ P2_ P3_ w k_ ∧ NB v204 k_ ∧ NB v216 k_ ∧ k_ ≠ gb196) v208 y207) := ⟨h1_⟩
                    have n2_ : Aside0 (VN w35 w (fun k_ => QQ P1_ P2_ P3_ w k_ ∧ NB v204 k_ ∧ NB v208 k_ ∧ k_ ≠ gb196) v216 y215) := ⟨h2_⟩
                    have n3_ : Aside0 (VV w35 w (fun k_ => QQ P1_ P2_ P3_ w k_ ∧ NB v204 k_ ∧ NB v208 k_ ∧ NB v216 k_ ∧ k_ ≠ gb196) (.slice A1 l1.length c1) l1) := ⟨h3_⟩
                    have n4_ : Aside0 (VV w35 w (fun k_ => QQ P1_ P2_ P3_ w k_ ∧ NB v204 k_ ∧ NB v208 k_ ∧ NB v216 k_ ∧ k_ ≠ gb196) (.slice A2 l2.length c2) l2) := ⟨h4_⟩
                    have n5_ : Aside0 (VV w35 w (fun k_ => QQ P1_ P2_ P3_ w k_ ∧ NB v204 k_ ∧ NB v208 k_ ∧ NB v216 k_ ∧ k_ ≠ gb196) (.slice A3 l3.length c3) l3) := ⟨h5_⟩
                    have n6_ : Aside0 (w35.heap[gb196]? = some (.cells (tabC t195) 24 (0, 0))) := ⟨h6_⟩
                    have n7_ : Aside0 (Below w.heap.size w w35) := ⟨h7_⟩
                    clear HO_1
                    clear HO_2
                    clear HO_3
                    clear HO_11
                    clear BK196
                    clear HB
                    clear h0_ h1_ h2_ h3_ h4_ h5_ h6_ h7_
                    have HO205 := n0_
                    have HO209 := n1_
                    have HO217 := n2_
                    have HO_1 := n3_
                    have HO_2 := n4_
                    have HO_3 := n5_
                    have BK196 := n6_
                    have HB := n7_
                    clear n0_ n1_ n2_ n3_ n4_ n5_ n6_ n7_
                    have hHeld : w35.heap[gb196]? = some (.cells (tabC t195) 24 (0, 0)) := hS_
                    obtain ⟨Ao36, co36, eo36⟩ := Kd.N_slice HO205.out
                    (first | subst eo36 | (injection eo36 with f1_ f2_ f3_; have f4_ := f1_.symm; have f5_ := f3_.symm; clear f1_ f2_ f3_; subst f4_; subst f5_))
                    refine norm_ (a' := ?_) ?_ ?_
                    rotate_left
                    ·simp only [putAll, Act.put, sA, sZ, sS]
                     rfl
                    refine two_ (i := 5) (j := 12) (Ni := some 62) (Nj := some 69) tq19 tq17 rfl rfl rfl rfl (two_of HT_.out (by kernel_rfl)) (by decide) (by decide) (fun K hK => ?_) (fun K hK => ?_)
                    ·skip
                     refine goes_ Try.func15 (by kernel_rfl) rfl #[.agg (tabC t195), .slice Ao36 y203.length co36] (by rfl) rfl rfl (by (try simp only [List.map_toArray, List.map_cons, List.map_nil]); first | done | rfl | (simp only [List.length_drop, List.length_take]; rfl)) ?_
                     with_reducible refine (crc_Sum.calls k2 t195 _ _ y203 t206 _ ?side1 ?side2 A23.out).mono ?_
                     (case side1 => repeat (first | exact (Kd.N_reads' HO205.out).2.2 | (with_reducible refine Kd.C_alloc ?_ _) | (with_reducible refine Kd.C_drewN ?_ _) | (with_reducible refine Kd.C_drew ?_)))
                     (case side2 => exact (Kd.N_reads' HO205.out).2.1)
                     rintro e w37 ⟨rfl, hb⟩
                     refine ⟨_, rfl, ?_⟩
                     replace HO_1 := vB HO_1 hb
                     replace HO_2 := vB HO_2 hb
                     replace HO_3 := vB HO_3 hb
                     replace HO205 := nB HO205 hb
                     replace HO209 := nB HO209 hb
                     replace HO217 := nB HO217 hb
                     replace BK196 := bB BK196 hb
                     replace HB := hB HB hb
                     (try clear hb)
                     (try clear hb2)
                     (try clear hk)
                     (try clear hi)
                     refine hK.out _ _ (BK196.out) (fun hHeld => ?_)
                     clear hK K
                     refine norm_ (a' := ?_) ?_ ?_
                     rotate_left
                     ·show Act.put _ (some 62) _ = _
                      simp only [Act.put, sA, sZ, sS, i64_w, i32_w]
                      rfl
                     exact norm_ (by simp only [putAll, Act.put, sA, sZ, sS] <;> rfl) (hJ4_5_8_17 (.slice Ao36 y203.length co36, v208, v216) _ ⟨hHeld, HO205.out, HO209.out, HO217.out, HO_1.out, HO_2.out, HO_3.out, BK196.out, HB.out⟩)
                    skip
                    refine lit1 (N' := 69) ?hd (ok := (fun k_ => QQ P1_ P2_ P3_ w k_ ∧ NB (.slice Ao36 y203.length co36) k_ ∧ NB v208 k_ ∧ NB v216 k_ ∧ k_ ≠ gb196)) (Kd.V_mono (HO_2.out) (fun k_ hk => ⟨hk.1, hk.2.1, hk.2.2.1, hk.2.2.2.1, hk.2.2.2.2⟩)) (fun k_ hk => ⟨.inr (fW HB hk), fN HO205 hk, fN HO209 hk, fN HO217 hk, fB BK196 hk⟩) ?hr HB.out ?_; (case hd => rfl); (case hr => first | (go_simp; done) | (go_simp; rfl))
                    intro v212 w36 ho37 hb hg_ hnew_
                    clear hg_ hnew_
                    rw [← Ny211.out] at ho37
                    replace HO_1 := vE HO_1 ho37 hb
                    replace HO_2 := vE HO_2 ho37 hb
                    replace HO_3 := vE HO_3 ho37 hb
                    replace HO205 := nE HO205 ho37 hb
                    replace HO209 := nE HO209 ho37 hb
                    replace HO217 := nE HO217 ho37 hb
                    have HO213 := nL ho37 HB
                    replace BK196 := bB BK196 hb
                    replace HB := hB HB hb
                    clear hb ho37
                    refine hK.out _ _ (BK196.out) (fun hHeld => ?_)
                    clear hK K
                    refine norm_ (a' := ?_) ?_ ?_
                    rotate_left
                    ·show Act.put _ (some 69) _ = _
                     simp only [Act.put, sA, sZ, sS, i64_w, i32_w]
                     rfl
                    exact norm_ (by simp only [putAll, Act.put, sA, sZ, sS] <;> rfl) (hJ4_8_12_17 (.slice Ao36 y203.length co36, v208, v212, v216) _ ⟨hHeld, (Kd.N_mono HO205.out (fun _ hk => ⟨hk.1.1, hk.1.2.1, hk.2, hk.1.2.2.1, hk.1.2.2.2⟩)), (Kd.N_mono HO209.out (fun _ hk => ⟨hk.1.1, hk.1.2.1, hk.2, hk.1.2.2.1, hk.1.2.2.2⟩)), HO213.out, (Kd.N_mono HO217.out (fun _ hk => ⟨hk.1.1, hk.1.2.1, hk.1.2.2.1, hk.2, hk.1.2.2.2⟩)), (Kd.V_mono HO_1.out (fun _ hk => ⟨hk.1.1, hk.1.2.1, hk.1.2.2.1, hk.2, hk.1.2.2.2.1, hk.1.2.2.2.2⟩)), (Kd.V_mono HO_2.out (fun _ hk => ⟨hk.1.1, hk.1.2.1, hk.1.2.2.1, hk.2, hk.1.2.2.2.1, hk.1.2.2.2.2⟩)), (Kd.V_mono HO_3.out (fun _ hk => ⟨hk.1.1, hk.1.2.1, hk.1.2.2.1, hk.2, hk.1.2.2.2.1, hk.1.2.2.2.2⟩)), BK196.out, HB.out⟩)
                   skip
                   rintro ⟨v204, v208, v212⟩ w35 ⟨hS_, h0_, h1_, h2_, h3_, h4_, h5_, h6_, h7_⟩
                   have n0_ : Aside0 (VN w35 w (fun k_ => QQ P1_ P2_ P3_ w k_ ∧ NB v208 k_ ∧ NB v212 k_ ∧ k_ ≠ gb196) v204 y203) := ⟨h0_⟩
                   have n1_ : Aside0 (VN w35 w (fun k_ => QQ P1_ P2_ P3_ w k_ ∧ NB v204 k_ ∧ NB v212 k_ ∧ k_ ≠ gb196) v208 y207) := ⟨h1_⟩
                   have n2_ : Aside0 (VN w35 w (fun k_ => QQ P1_ P2_ P3_ w k_ ∧ NB v204 k_ ∧ NB v208 k_ ∧ k_ ≠ gb196) v212 y211) := ⟨h2_⟩
                   have n3_ : Aside0 (VV w35 w (fun k_ => QQ P1_ P2_ P3_ w k_ ∧ NB v204 k_ ∧ NB v208 k_ ∧ NB v212 k_ ∧ k_ ≠ gb196) (.slice A1 l1.length c1) l1) := ⟨h3_⟩
                   have n4_ : Aside0 (VV w35 w (fun k_ => QQ P1_ P2_ P3_ w k_ ∧ NB v204 k_ ∧ NB v208 k_ ∧ NB v212 k_ ∧ k_ ≠ gb196) (.slice A2 l2.length c2) l2) := ⟨h4_⟩
                   have n5_ : Aside0 (VV w35 w (fun k_ => QQ P1_ P2_ P3_ w k_ ∧ NB v204 k_ ∧ NB v208 k_ ∧ NB v212 k_ ∧ k_ ≠ gb196) (.slice A3 l3.length c3) l3) := ⟨h5_⟩
                   have n6_ : Aside0 (w35.heap[gb196]? = some (.cells (tabC t195) 24 (0, 0))) := ⟨h6_⟩
                   have n7_ : Aside0 (Below w.heap.size w w35) := ⟨h7_⟩
                   clear HO_1
                   clear HO_2
                   clear HO_3
                   clear HO_11
                   clear BK196
                   clear HB
                   clear h0_ h1_ h2_ h3_ h4_ h5_ h6_ h7_
                   have HO205 := n0_
                   have HO209 := n1_
                   have HO213 := n2_
                   have HO_1 := n3_
                   have HO_2 := n4_
                   have HO_3 := n5_
                   have BK196 := n6_
                   have HB := n7_
                   clear n0_ n1_ n2_ n3_ n4_ n5_ n6_ n7_
                   have hHeld : w35.heap[gb196]? = some (.cells (tabC t195) 24 (0, 0)) := hS_
                   obtain ⟨Ao36, co36, eo36⟩ := Kd.N_slice HO205.out
                   (first | subst eo36 | (injection eo36 with f1_ f2_ f3_; have f4_ := f1_.symm; have f5_ := f3_.symm; clear f1_ f2_ f3_; subst f4_; subst f5_))
                   refine norm_ (a' := ?_) ?_ ?_
                   rotate_left
                   ·simp only [putAll, Act.put, sA, sZ, sS]
                    rfl
                   refine two_ (i := 5) (j := 17) (Ni := some 62) (Nj := some 74) tq20 tq17 rfl rfl rfl rfl (two_of HT_.out (by kernel_rfl)) (by decide) (by decide) (fun K hK => ?_) (fun K hK => ?_)
                   ·skip
                    refine goes_ Try.func15 (by kernel_rfl) rfl #[.agg (tabC t195), .slice Ao36 y203.length co36] (by rfl) rfl rfl (by (try simp only [List.map_toArray, List.map_cons, List.map_nil]); first | done | rfl | (simp only [List.length_drop, List.length_take]; rfl)) ?_
                    with_reducible refine (crc_Sum.calls k2 t195 _ _ y203 t206 _ ?side1 ?side2 A23.out).mono ?_
                    (case side1 => repeat (first | exact (Kd.N_reads' HO205.out).2.2 | (with_reducible refine Kd.C_alloc ?_ _) | (with_reducible refine Kd.C_drewN ?_ _) | (with_reducible refine Kd.C_drew ?_)))
                    (case side2 => exact (Kd.N_reads' HO205.out).2.1)
                    rintro e w37 ⟨rfl, hb⟩
                    refine ⟨_, rfl, ?_⟩
                    replace HO_1 := vB HO_1 hb
                    replace HO_2 := vB HO_2 hb
                    replace HO_3 := vB HO_3 hb
                    replace HO205 := nB HO205 hb
                    replace HO209 := nB HO209 hb
                    replace HO213 := nB HO213 hb
                    replace BK196 := bB BK196 hb
                    replace HB := hB HB hb
                    (try clear hb)
                    (try clear hb2)
                    (try clear hk)
                    (try clear hi)
                    refine hK.out _ _ (BK196.out) (fun hHeld => ?_)
                    clear hK K
                    refine norm_ (a' := ?_) ?_ ?_
                    rotate_left
                    ·show Act.put _ (some 62) _ = _
                     simp only [Act.put, sA, sZ, sS, i64_w, i32_w]
                     rfl
                    exact norm_ (by simp only [putAll, Act.put, sA, sZ, sS] <;> rfl) (hJ4_5_8_12 (.slice Ao36 y203.length co36, v208, v212) _ ⟨hHeld, HO205.out, HO209.out, HO213.out, HO_1.out, HO_2.out, HO_3.out, BK196.out, HB.out⟩)
                   skip
                   refine lit1 (N' := 74) ?hd (ok := (fun k_ => QQ P1_ P2_ P3_ w k_ ∧ NB (.slice Ao36 y203.length co36) k_ ∧ NB v208 k_ ∧ NB v212 k_ ∧ k_ ≠ gb196)) (Kd.V_mono (HO_3.out) (fun k_ hk => ⟨hk.1, hk.2.1, hk.2.2.1, hk.2.2.2.1, hk.2.2.2.2⟩)) (fun k_ hk => ⟨.inr (fW HB hk), fN HO205 hk, fN HO209 hk, fN HO213 hk, fB BK196 hk⟩) ?hr HB.out ?_; (case hd => rfl); (case hr => first | (go_simp; done) | (go_simp; rfl))
                   intro v216 w36 ho37 hb hg_ hnew_
                   clear hg_ hnew_
                   rw [← Ny215.out] at ho37
                   replace HO_1 := vE HO_1 ho37 hb
                   replace HO_2 := vE HO_2 ho37 hb
                   replace HO_3 := vE HO_3 ho37 hb
                   replace HO205 := nE HO205 ho37 hb
                   replace HO209 := nE HO209 ho37 hb
                   replace HO213 := nE HO213 ho37 hb
                   have HO217 := nL ho37 HB
                   replace BK196 := bB BK196 hb
                   replace HB := hB HB hb
                   clear hb ho37
                   refine hK.out _ _ (BK196.out) (fun hHeld => ?_)
                   clear hK K
                   refine norm_ (a' := ?_) ?_ ?_
                   rotate_left
                   ·show Act.put _ (some 74) _ = _
                    simp only [Act.put, sA, sZ, sS, i64_w, i32_w]
                    rfl
                   exact norm_ (by simp only [putAll, Act.put, sA, sZ, sS] <;> rfl) (hJ4_8_12_17 (.slice Ao36 y203.length co36, v208, v212, v216) _ ⟨hHeld, (Kd.N_mono HO205.out (fun _ hk => ⟨hk.1.1, hk.1.2.1, hk.1.2.2.1, hk.2, hk.1.2.2.2⟩)), (Kd.N_mono HO209.out (fun _ hk => ⟨hk.1.1, hk.1.2.1, hk.1.2.2.1, hk.2, hk.1.2.2.2⟩)), (Kd.N_mono HO213.out (fun _ hk => ⟨hk.1.1, hk.1.2.1, hk.1.2.2.1, hk.2, hk.1.2.2.2⟩)), HO217.out, (Kd.V_mono HO_1.out (fun _ hk => ⟨hk.1.1, hk.1.2.1, hk.1.2.2.1, hk.1.2.2.2.1, hk.2, hk.1.2.2.2.2⟩)), (Kd.V_mono HO_2.out (fun _ hk => ⟨hk.1.1, hk.1.2.1, hk.1.2.2.1, hk.1.2.2.2.1, hk.2, hk.1.2.2.2.2⟩)), (Kd.V_mono HO_3.out (fun _ hk => ⟨hk.1.1, hk.1.2.1, hk.1.2.2.1, hk.1.2.2.2.1, hk.2, hk.1.2.2.2.2⟩)), BK196.out, HB.out⟩)
                  skip
                  rintro ⟨v204, v216⟩ w35 ⟨hS_, h0_, h1_, h2_, h3_, h4_, h5_, h6_⟩
                  have n0_ : Aside0 (VN w35 w (fun k_ => QQ P1_ P2_ P3_ w k_ ∧ NB v216 k_ ∧ k_ ≠ gb196) v204 y203) := ⟨h0_⟩
                  have n1_ : Aside0 (VN w35 w (fun k_ => QQ P1_ P2_ P3_ w k_ ∧ NB v204 k_ ∧ k_ ≠ gb196) v216 y215) := ⟨h1_⟩
                  have n2_ : Aside0 (VV w35 w (fun k_ => QQ P1_ P2_ P3_ w k_ ∧ NB v204 k_ ∧ NB v216 k_ ∧ k_ ≠ gb196) (.slice A1 l1.length c1) l1) := ⟨h2_⟩
                  have n3_ : Aside0 (VV w35 w (fun k_ => QQ P1_ P2_ P3_ w k_ ∧ NB v204 k_ ∧ NB v216 k_ ∧ k_ ≠ gb196) (.slice A2 l2.length c2) l2) := ⟨h3_⟩
                  have n4_ : Aside0 (VV w35 w (fun k_ => QQ P1_ P2_ P3_ w k_ ∧ NB v204 k_ ∧ NB v216 k_ ∧ k_ ≠ gb196) (.slice A3 l3.length c3) l3) := ⟨h4_⟩
                  have n5_ : Aside0 (w35.heap[gb196]? = some (.cells (tabC t195) 24 (0, 0))) := ⟨h5_⟩
                  have n6_ : Aside0 (Below w.heap.size w w35) := ⟨h6_⟩
                  clear HO_1
                  clear HO_2
                  clear HO_3
                  clear HO_11
                  clear BK196
                  clear HB
                  clear h0_ h1_ h2_ h3_ h4_ h5_ h6_
                  have HO205 := n0_
                  have HO217 := n1_
                  have HO_1 := n2_
                  have HO_2 := n3_
                  have HO_3 := n4_
                  have BK196 := n5_
                  have HB := n6_
                  clear n0_ n1_ n2_ n3_ n4_ n5_ n6_
                  have hHeld : w35.heap[gb196]? = some (.cells (tabC t195) 24 (0, 0)) := hS_
                  refine norm_ (a' := ?_) ?_ ?_
                  rotate_left
                  ·simp only [putAll, Act.put, sA, sZ, sS]
                   rfl
                  refine two_ (i := 8) (j := 12) (Ni := some 65) (Nj := some 69) tq19 tq18 rfl rfl rfl rfl (two_of HT_.out (by kernel_rfl)) (by decide) (by decide) (fun K hK => ?_) (fun K hK => ?_)
                  ·skip
                   refine lit1 (N' := 65) ?hd (ok := (fun k_ => QQ P1_ P2_ P3_ w k_ ∧ NB v204 k_ ∧ NB v216 k_ ∧ k_ ≠ gb196)) (Kd.V_mono (HO_1.out) (fun k_ hk => ⟨hk.1, hk.2.1, hk.2.2.1, hk.2.2.2⟩)) (fun k_ hk => ⟨.inr (fW HB hk), fN HO205 hk, fN HO217 hk, fB BK196 hk⟩) ?hr HB.out ?_; (case hd => rfl); (case hr => first | (go_simp; done) | (go_simp; rfl))
                   intro v208 w36 ho37 hb hg_ hnew_
                   clear hg_ hnew_
                   rw [← Ny207.out] at ho37
                   replace HO_1 := vE HO_1 ho37 hb
                   replace HO_2 := vE HO_2 ho37 hb
                   replace HO_3 := vE HO_3 ho37 hb
                   replace HO205 := nE HO205 ho37 hb
                   replace HO217 := nE HO217 ho37 hb
                   have HO209 := nL ho37 HB
                   replace BK196 := bB BK196 hb
                   replace HB := hB HB hb
                   clear hb ho37
                   refine hK.out _ _ (BK196.out) (fun hHeld => ?_)
                   clear hK K
                   refine norm_ (a' := ?_) ?_ ?_
                   rotate_left
                   ·show Act.put _ (some 65) _ = _
                    simp only [Act.put, sA, sZ, sS, i64_w, i32_w]
                    rfl
                   exact norm_ (by simp only [putAll, Act.put, sA, sZ, sS] <;> rfl) (hJ4_5_8_17 (v204, v208, v216) _ ⟨hHeld, (Kd.N_mono HO205.out (fun _ hk => ⟨hk.1.1, hk.2, hk.1.2.1, hk.1.2.2⟩)), HO209.out, (Kd.N_mono HO217.out (fun _ hk => ⟨hk.1.1, hk.1.2.1, hk.2, hk.1.2.2⟩)), (Kd.V_mono HO_1.out (fun _ hk => ⟨hk.1.1, hk.1.2.1, hk.2, hk.1.2.2.1, hk.1.2.2.2⟩)), (Kd.V_mono HO_2.out (fun _ hk => ⟨hk.1.1, hk.1.2.1, hk.2, hk.1.2.2.1, hk.1.2.2.2⟩)), (Kd.V_mono HO_3.out (fun _ hk => ⟨hk.1.1, hk.1.2.1, hk.2, hk.1.2.2.1, hk.1.2.2.2⟩)), BK196.out, HB.out⟩)
                  skip
                  refine lit1 (N' := 69) ?hd (ok := (fun k_ => QQ P1_ P2_ P3_ w k_ ∧ NB v204 k_ ∧ NB v216 k_ ∧ k_ ≠ gb196)) (Kd.V_mono (HO_2.out) (fun k_ hk => ⟨hk.1, hk.2.1, hk.2.2.1, hk.2.2.2⟩)) (fun k_ hk => ⟨.inr (fW HB hk), fN HO205 hk, fN HO217 hk, fB BK196 hk⟩) ?hr HB.out ?_; (case hd => rfl); (case hr => first | (go_simp; done) | (go_simp; rfl))
                  intro v212 w36 ho37 hb hg_ hnew_
                  clear hg_ hnew_
                  rw [← Ny211.out] at ho37
                  replace HO_1 := vE HO_1 ho37 hb
                  replace HO_2 := vE HO_2 ho37 hb
                  replace HO_3 := vE HO_3 ho37 hb
                  replace HO205 := nE HO205 ho37 hb
                  replace HO217 := nE HO217 ho37 hb
                  have HO213 := nL ho37 HB
                  replace BK196 := bB BK196 hb
                  replace HB := hB HB hb
                  clear hb ho37
                  refine hK.out _ _ (BK196.out) (fun hHeld => ?_)
                  clear hK K
                  refine norm_ (a' := ?_) ?_ ?_
                  rotate_left
                  ·show Act.put _ (some 69) _ = _
                   simp only [Act.put, sA, sZ, sS, i64_w, i32_w]
                   rfl
                  exact norm_ (by simp only [putAll, Act.put, sA, sZ, sS] <;> rfl) (hJ4_5_12_17 (v204, v212, v216) _ ⟨hHeld, (Kd.N_mono HO205.out (fun _ hk => ⟨hk.1.1, hk.2, hk.1.2.1, hk.1.2.2⟩)), HO213.out, (Kd.N_mono HO217.out (fun _ hk => ⟨hk.1.1, hk.1.2.1, hk.2, hk.1.2.2⟩)), (Kd.V_mono HO_1.out (fun _ hk => ⟨hk.1.1, hk.1.2.1, hk.2, hk.1.2.2.1, hk.1.2.2.2⟩)), (Kd.V_mono HO_2.out (fun _ hk => ⟨hk.1.1, hk.1.2.1, hk.2, hk.1.2.2.1, hk.1.2.2.2⟩)), (Kd.V_mono HO_3.out (fun _ hk => ⟨hk.1.1, hk.1.2.1, hk.2, hk.1.2.2.1, hk.1.2.2.2⟩)), BK196.out, HB.out⟩)
                 skip
                 rintro ⟨v204, v212⟩ w35 ⟨hS_, h0_, h1_, h2_, h3_, h4_, h5_, h6_⟩
                 have n0_ : Aside0 (VN w35 w (fun k_ => QQ P1_ P2_ P3_ w k_ ∧ NB v212 k_ ∧ k_ ≠ gb196) v204 y203) := ⟨h0_⟩
                 have n1_ : Aside0 (VN w35 w (fun k_ => QQ P1_ P2_ P3_ w k_ ∧ NB v204 k_ ∧ k_ ≠ gb196) v212 y211) := ⟨h1_⟩
                 have n2_ : Aside0 (VV w35 w (fun k_ => QQ P1_ P2_ P3_ w k_ ∧ NB v204 k_ ∧ NB v212 k_ ∧ k_ ≠ gb196) (.slice A1 l1.length c1) l1) := ⟨h2_⟩
                 have n3_ : Aside0 (VV w35 w (fun k_ => QQ P1_ P2_ P3_ w k_ ∧ NB v204 k_ ∧ NB v212 k_ ∧ k_ ≠ gb196) (.slice A2 l2.length c2) l2) := ⟨h3_⟩
                 have n4_ : Aside0 (VV w35 w (fun k_ => QQ P1_ P2_ P3_ w k_ ∧ NB v204 k_ ∧ NB v212 k_ ∧ k_ ≠ gb196) (.slice A3 l3.length c3) l3) := ⟨h4_⟩
                 have n5_ : Aside0 (w35.heap[gb196]? = some (.cells (tabC t195) 24 (0, 0))) := ⟨h5_⟩
                 have n6_ : Aside0 (Below w.heap.size w w35) := ⟨h6_⟩
                 clear HO_1
                 clear HO_2
                 clear HO_3
                 clear HO_11
                 clear BK196
                 clear HB
                 clear h0_ h1_ h2_ h3_ h4_ h5_ h6_
                 have HO205 := n0_
                 have HO213 := n1_
                 have HO_1 := n2_
                 have HO_2 := n3_
                 have HO_3 := n4_
                 have BK196 := n5_
                 have HB := n6_
                 clear n0_ n1_ n2_ n3_ n4_ n5_ n6_
                 have hHeld : w35.heap[gb196]? = some (.cells (tabC t195) 24 (0, 0)) := hS_
                 refine norm_ (a' := ?_) ?_ ?_
                 rotate_left
                 ·simp only [putAll, Act.put, sA, sZ, sS]
                  rfl
                 refine two_ (i := 8) (j := 17) (Ni := some 65) (Nj := some 74) tq20 tq18 rfl rfl rfl rfl (two_of HT_.out (by kernel_rfl)) (by decide) (by decide) (fun K hK => ?_) (fun K hK => ?_)
                 ·skip
                  refine lit1 (N' := 65) ?hd (ok := (fun k_ => QQ P1_ P2_ P3_ w k_ ∧ NB v204 k_ ∧ NB v212 k_ ∧ k_ ≠ gb196)) (Kd.V_mono (HO_1.out) (fun k_ hk => ⟨hk.1, hk.2.1, hk.2.2.1, hk.2.2.2⟩)) (fun k_ hk => ⟨.inr (fW HB hk), fN HO205 hk, fN HO213 hk, fB BK196 hk⟩) ?hr HB.out ?_; (case hd => rfl); (case hr => first | (go_simp; done) | (go_simp; rfl))
                  intro v208 w36 ho37 hb hg_ hnew_
                  clear hg_ hnew_
                  rw [← Ny207.out] at ho37
                  replace HO_1 := vE HO_1 ho37 hb
                  replace HO_2 := vE HO_2 ho37 hb
                  replace HO_3 := vE HO_3 ho37 hb
                  replace HO205 := nE HO205 ho37 hb
                  replace HO213 := nE HO213 ho37 hb
                  have HO209 := nL ho37 HB
                  replace BK196 := bB BK196 hb
                  replace HB := hB HB hb
                  clear hb ho37
                  refine hK.out _ _ (BK196.out) (fun hHeld => ?_)
                  clear hK K
                  refine norm_ (a' := ?_) ?_ ?_
                  rotate_left
                  ·show Act.put _ (some 65) _ = _
                   simp only [Act.put, sA, sZ, sS, i64_w, i32_w]
                   rfl
                  exact norm_ (by simp only [putAll, Act.put, sA, sZ, sS] <;> rfl) (hJ4_5_8_12 (v204, v208, v212) _ ⟨hHeld, (Kd.N_mono HO205.out (fun _ hk => ⟨hk.1.1, hk.2, hk.1.2.1, hk.1.2.2⟩)), HO209.out, (Kd.N_mono HO213.out (fun _ hk => ⟨hk.1.1, hk.1.2.1, hk.2, hk.1.2.2⟩)), (Kd.V_mono HO_1.out (fun _ hk => ⟨hk.1.1, hk.1.2.1, hk.2, hk.1.2.2.1, hk.1.2.2.2⟩)), (Kd.V_mono HO_2.out (fun _ hk => ⟨hk.1.1, hk.1.2.1, hk.2, hk.1.2.2.1, hk.1.2.2.2⟩)), (Kd.V_mono HO_3.out (fun _ hk => ⟨hk.1.1, hk.1.2.1, hk.2, hk.1.2.2.1, hk.1.2.2.2⟩)), BK196.out, HB.out⟩)
                 skip
                 refine lit1 (N' := 74) ?hd (ok := (fun k_ => QQ P1_ P2_ P3_ w k_ ∧ NB v204 k_ ∧ NB v212 k_ ∧ k_ ≠ gb196)) (Kd.V_mono (HO_3.out) (fun k_ hk => ⟨hk.1, hk.2.1, hk.2.2.1, hk.2.2.2⟩)) (fun k_ hk => ⟨.inr (fW HB hk), fN HO205 hk, fN HO213 hk, fB BK196 hk⟩) ?hr HB.out ?_; (case hd => rfl); (case hr => first | (go_simp; done) | (go_simp; rfl))
                 intro v216 w36 ho37 hb hg_ hnew_
                 clear hg_ hnew_
                 rw [← Ny215.out] at ho37
                 replace HO_1 := vE HO_1 ho37 hb
                 replace HO_2 := vE HO_2 ho37 hb
                 replace HO_3 := vE HO_3 ho37 hb
                 replace HO205 := nE HO205 ho37 hb
                 replace HO213 := nE HO213 ho37 hb
                 have HO217 := nL ho37 HB
                 replace BK196 := bB BK196 hb
                 replace HB := hB HB hb
                 clear hb ho37
                 refine hK.out _ _ (BK196.out) (fun hHeld => ?_)
                 clear hK K
                 refine norm_ (a' := ?_) ?_ ?_
                 rotate_left
                 ·show Act.put _ (some 74) _ = _
                  simp only [Act.put, sA, sZ, sS, i64_w, i32_w]
                  rfl
                 exact norm_ (by simp only [putAll, Act.put, sA, sZ, sS] <;> rfl) (hJ4_5_12_17 (v204, v212, v216) _ ⟨hHeld, (Kd.N_mono HO205.out (fun _ hk => ⟨hk.1.1, hk.1.2.1, hk.2, hk.1.2.2⟩)), (Kd.N_mono HO213.out (fun _ hk => ⟨hk.1.1, hk.1.2.1, hk.2, hk.1.2.2⟩)), HO217.out, (Kd.V_mono HO_1.out (fun _ hk => ⟨hk.1.1, hk.1.2.1, hk.1.2.2.1, hk.2, hk.1.2.2.2⟩)), (Kd.V_mono HO_2.out (fun _ hk => ⟨hk.1.1, hk.1.2.1, hk.1.2.2.1, hk.2, hk.1.2.2.2⟩)), (Kd.V_mono HO_3.out (fun _ hk => ⟨hk.1.1, hk.1.2.1, hk.1.2.2.1, hk.2, hk.1.2.2.2⟩)), BK196.out, HB.out⟩)
                skip
                rintro ⟨v204, v208⟩ w35 ⟨hS_, h0_, h1_, h2_, h3_, h4_, h5_, h6_⟩
                have n0_ : Aside0 (VN w35 w (fun k_ => QQ P1_ P2_ P3_ w k_ ∧ NB v208 k_ ∧ k_ ≠ gb196) v204 y203) := ⟨h0_⟩
                have n1_ : Aside0 (VN w35 w (fun k_ => QQ P1_ P2_ P3_ w k_ ∧ NB v204 k_ ∧ k_ ≠ gb196) v208 y207) := ⟨h1_⟩
                have n2_ : Aside0 (VV w35 w (fun k_ => QQ P1_ P2_ P3_ w k_ ∧ NB v204 k_ ∧ NB v208 k_ ∧ k_ ≠ gb196) (.slice A1 l1.length c1) l1) := ⟨h2_⟩
                have n3_ : Aside0 (VV w35 w (fun k_ => QQ P1_ P2_ P3_ w k_ ∧ NB v204 k_ ∧ NB v208 k_ ∧ k_ ≠ gb196) (.slice A2 l2.length c2) l2) := ⟨h3_⟩
                have n4_ : Aside0 (VV w35 w (fun k_ => QQ P1_ P2_ P3_ w k_ ∧ NB v204 k_ ∧ NB v208 k_ ∧ k_ ≠ gb196) (.slice A3 l3.length c3) l3) := ⟨h4_⟩
                have n5_ : Aside0 (w35.heap[gb196]? = some (.cells (tabC t195) 24 (0, 0))) := ⟨h5_⟩
                have n6_ : Aside0 (Below w.heap.size w w35) := ⟨h6_⟩
                clear HO_1
                clear HO_2
                clear HO_3
                clear HO_11
                clear BK196
                clear HB
                clear h0_ h1_ h2_ h3_ h4_ h5_ h6_
                have HO205 := n0_
                have HO209 := n1_
                have HO_1 := n2_
                have HO_2 := n3_
                have HO_3 := n4_
                have BK196 := n5_
                have HB := n6_
                clear n0_ n1_ n2_ n3_ n4_ n5_ n6_
                have hHeld : w35.heap[gb196]? = some (.cells (tabC t195) 24 (0, 0)) := hS_
                obtain ⟨Ao36, co36, eo36⟩ := Kd.N_slice HO209.out
                (first | subst eo36 | (injection eo36 with f1_ f2_ f3_; have f4_ := f1_.symm; have f5_ := f3_.symm; clear f1_ f2_ f3_; subst f4_; subst f5_))
                refine norm_ (a' := ?_) ?_ ?_
                rotate_left
                ·simp only [putAll, Act.put, sA, sZ, sS]
                 rfl
                refine three_ (i := 9) (j := 12) (k := 17) (Ni := some 66) (Nj := some 69) (Nk := some 74) tq21 tq20 tq19 rfl rfl rfl rfl rfl rfl (three_of HT_.out (by kernel_rfl)) (by decide) (by decide) (by decide) (fun K hK => ?_) (fun K hK => ?_) (fun K hK => ?_)
                ·skip
                 refine goes_ Try.func15 (by kernel_rfl) rfl #[.agg (tabC t195), .slice Ao36 y207.length co36] (by rfl) rfl rfl (by (try simp only [List.map_toArray, List.map_cons, List.map_nil]); first | done | rfl | (simp only [List.length_drop, List.length_take]; rfl)) ?_
                 with_reducible refine (crc_Sum.calls k2 t195 _ _ y207 t210 _ ?side1 ?side2 A24.out).mono ?_
                 (case side1 => repeat (first | exact (Kd.N_reads' HO209.out).2.2 | (with_reducible refine Kd.C_alloc ?_ _) | (with_reducible refine Kd.C_drewN ?_ _) | (with_reducible refine Kd.C_drew ?_)))
                 (case side2 => exact (Kd.N_reads' HO209.out).2.1)
                 rintro e w37 ⟨rfl, hb⟩
                 refine ⟨_, rfl, ?_⟩
                 replace HO_1 := vB HO_1 hb
                 replace HO_2 := vB HO_2 hb
                 replace HO_3 := vB HO_3 hb
                 replace HO205 := nB HO205 hb
                 replace HO209 := nB HO209 hb
                 replace BK196 := bB BK196 hb
                 replace HB := hB HB hb
                 (try clear hb)
                 (try clear hb2)
                 (try clear hk)
                 (try clear hi)
                 refine hK.out _ _ (BK196.out) (fun hHeld => ?_)
                 clear hK K
                 refine norm_ (a' := ?_) ?_ ?_
                 rotate_left
                 ·show Act.put _ (some 66) _ = _
                  simp only [Act.put, sA, sZ, sS, i64_w, i32_w]
                  rfl
                 exact norm_ (by simp only [putAll, Act.put, sA, sZ, sS] <;> rfl) (hJ4_5_8_9 (v204, .slice Ao36 y207.length co36) _ ⟨hHeld, HO205.out, HO209.out, HO_1.out, HO_2.out, HO_3.out, BK196.out, HB.out⟩)
                ·skip
                 refine lit1 (N' := 69) ?hd (ok := (fun k_ => QQ P1_ P2_ P3_ w k_ ∧ NB v204 k_ ∧ NB (.slice Ao36 y207.length co36) k_ ∧ k_ ≠ gb196)) (Kd.V_mono (HO_2.out) (fun k_ hk => ⟨hk.1, hk.2.1, hk.2.2.1, hk.2.2.2⟩)) (fun k_ hk => ⟨.inr (fW HB hk), fN HO205 hk, fN HO209 hk, fB BK196 hk⟩) ?hr HB.out ?_; (case hd => rfl); (case hr => first | (go_simp; done) | (go_simp; rfl))
                 intro v212 w36 ho37 hb hg_ hnew_
                 clear hg_ hnew_
                 rw [← Ny211.out] at ho37
                 replace HO_1 := vE HO_1 ho37 hb
                 replace HO_2 := vE HO_2 ho37 hb
                 replace HO_3 := vE HO_3 ho37 hb
                 replace HO205 := nE HO205 ho37 hb
                 replace HO209 := nE HO209 ho37 hb
                 have HO213 := nL ho37 HB
                 replace BK196 := bB BK196 hb
                 replace HB := hB HB hb
                 clear hb ho37
                 refine hK.out _ _ (BK196.out) (fun hHeld => ?_)
                 clear hK K
                 refine norm_ (a' := ?_) ?_ ?_
                 rotate_left
                 ·show Act.put _ (some 69) _ = _
                  simp only [Act.put, sA, sZ, sS, i64_w, i32_w]
                  rfl
                 exact norm_ (by simp only [putAll, Act.put, sA, sZ, sS] <;> rfl) (hJ4_5_8_12 (v204, .slice Ao36 y207.length co36, v212) _ ⟨hHeld, (Kd.N_mono HO205.out (fun _ hk => ⟨hk.1.1, hk.1.2.1, hk.2, hk.1.2.2⟩)), (Kd.N_mono HO209.out (fun _ hk => ⟨hk.1.1, hk.1.2.1, hk.2, hk.1.2.2⟩)), HO213.out, (Kd.V_mono HO_1.out (fun _ hk => ⟨hk.1.1, hk.1.2.1, hk.1.2.2.1, hk.2, hk.1.2.2.2⟩)), (Kd.V_mono HO_2.out (fun _ hk => ⟨hk.1.1, hk.1.2.1, hk.1.2.2.1, hk.2, hk.1.2.2.2⟩)), (Kd.V_mono HO_3.out (fun _ hk => ⟨hk.1.1, hk.1.2.1, hk.1.2.2.1, hk.2, hk.1.2.2.2⟩)), BK196.out, HB.out⟩)
                skip
                refine lit1 (N' := 74) ?hd (ok := (fun k_ => QQ P1_ P2_ P3_ w k_ ∧ NB v204 k_ ∧ NB (.slice Ao36 y207.length co36) k_ ∧ k_ ≠ gb196)) (Kd.V_mono (HO_3.out) (fun k_ hk => ⟨hk.1, hk.2.1, hk.2.2.1, hk.2.2.2⟩)) (fun k_ hk => ⟨.inr (fW HB hk), fN HO205 hk, fN HO209 hk, fB BK196 hk⟩) ?hr HB.out ?_; (case hd => rfl); (case hr => first | (go_simp; done) | (go_simp; rfl))
                intro v216 w36 ho37 hb hg_ hnew_
                clear hg_ hnew_
                rw [← Ny215.out] at ho37
                replace HO_1 := vE HO_1 ho37 hb
                replace HO_2 := vE HO_2 ho37 hb
                replace HO_3 := vE HO_3 ho37 hb
                replace HO205 := nE HO205 ho37 hb
                replace HO209 := nE HO209 ho37 hb
                have HO217 := nL ho37 HB
                replace BK196 := bB BK196 hb
                replace HB := hB HB hb
                clear hb ho37
                refine hK.out _ _ (BK196.out) (fun hHeld => ?_)
                clear hK K
                refine norm_ (a' := ?_) ?_ ?_
                rotate_left
                ·show Act.put _ (some 74) _ = _
                 simp only [Act.put, sA, sZ, sS, i64_w, i32_w]
                 rfl
                exact norm_ (by simp only [putAll, Act.put, sA, sZ, sS] <;> rfl) (hJ4_5_8_17 (v204, .slice Ao36 y207.length co36, v216) _ ⟨hHeld, (Kd.N_mono HO205.out (fun _ hk => ⟨hk.1.1, hk.1.2.1, hk.2, hk.1.2.2⟩)), (Kd.N_mono HO209.out (fun _ hk => ⟨hk.1.1, hk.1.2.1, hk.2, hk.1.2.2⟩)), HO217.out, (Kd.V_mono HO_1.out (fun _ hk => ⟨hk.1.1, hk.1.2.1, hk.1.2.2.1, hk.2, hk.1.2.2.2⟩)), (Kd.V_mono HO_2.out (fun _ hk => ⟨hk.1.1, hk.1.2.1, hk.1.2.2.1, hk.2, hk.1.2.2.2⟩)), (Kd.V_mono HO_3.out (fun _ hk => ⟨hk.1.1, hk.1.2.1, hk.1.2.2.1, hk.2, hk.1.2.2.2⟩)), BK196.out, HB.out⟩)
               skip
               rintro ⟨v204, v208, v212, v216⟩ w37 ⟨hS_, h0_, h1_, h2_, h3_, h4_, h5_, h6_, h7_, h8_⟩
               have n0_ : Aside0 (VN w37 w (fun k_ => QQ P1_ P2_ P3_ w k_ ∧ NB v208 k_ ∧ NB v212 k_ ∧ NB v216 k_ ∧ k_ ≠ gb196) v204 y203) := ⟨h0_⟩
               have n1_ : Aside0 (VN w37 w (fun k_ => QQ P1_ P2_ P3_ w k_ ∧ NB v204 k_ ∧ NB v212 k_ ∧ NB v216 k_ ∧ k_ ≠ gb196) v208 y207) := ⟨h1_⟩
               have n2_ : Aside0 (VN w37 w (fun k_ => QQ P1_ P2_ P3_ w k_ ∧ NB v204 k_ ∧ NB v208 k_ ∧ NB v216 k_ ∧ k_ ≠ gb196) v212 y211) := ⟨h2_⟩
               have n3_ : Aside0 (VN w37 w (fun k_ => QQ P1_ P2_ P3_ w k_ ∧ NB v204 k_ ∧ NB v208 k_ ∧ NB v212 k_ ∧ k_ ≠ gb196) v216 y215) := ⟨h3_⟩
               have n4_ : Aside0 (VV w37 w (fun k_ => QQ P1_ P2_ P3_ w k_ ∧ NB v204 k_ ∧ NB v208 k_ ∧ NB v212 k_ ∧ NB v216 k_ ∧ k_ ≠ gb196) (.slice A1 l1.length c1) l1) := ⟨h4_⟩
               have n5_ : Aside0 (VV w37 w (fun k_ => QQ P1_ P2_ P3_ w k_ ∧ NB v204 k_ ∧ NB v208 k_ ∧ NB v212 k_ ∧ NB v216 k_ ∧ k_ ≠ gb196) (.slice A2 l2.length c2) l2) := ⟨h5_⟩
               have n6_ : Aside0 (VV w37 w (fun k_ => QQ P1_ P2_ P3_ w k_ ∧ NB v204 k_ ∧ NB v208 k_ ∧ NB v212 k_ ∧ NB v216 k_ ∧ k_ ≠ gb196) (.slice A3 l3.length c3) l3) := ⟨h6_⟩
               have n7_ : Aside0 (w37.heap[gb196]? = some (.cells (tabC t195) 24 (0, 0))) := ⟨h7_⟩
               have n8_ : Aside0 (Below w.heap.size w w37) := ⟨h8_⟩
               clear HO_1
               clear HO_2
               clear HO_3
               clear HO_11
               clear BK196
               clear HB
               clear h0_ h1_ h2_ h3_ h4_ h5_ h6_ h7_ h8_
               have HO205 := n0_
               have HO209 := n1_
               have HO213 := n2_
               have HO217 := n3_
               have HO_1 := n4_
               have HO_2 := n5_
               have HO_3 := n6_
               have BK196 := n7_
               have HB := n8_
               clear n0_ n1_ n2_ n3_ n4_ n5_ n6_ n7_ n8_
               have hHeld : w37.heap[gb196]? = some (.cells (tabC t195) 24 (0, 0)) := hS_
               obtain ⟨Ao38, co38, eo38⟩ := Kd.N_slice HO205.out
               (first | subst eo38 | (injection eo38 with f1_ f2_ f3_; have f4_ := f1_.symm; have f5_ := f3_.symm; clear f1_ f2_ f3_; subst f4_; subst f5_))
               refine norm_ (a' := ?_) ?_ ?_
               rotate_left
               ·simp only [putAll, Act.put, sA, sZ, sS]
                rfl
               refine one_ (i := 5) (N := some 62) tq13 rfl rfl (one_of HT_.out (by kernel_rfl)) (by decide) (fun K hK => ?_)
               refine goes_ Try.func15 (by kernel_rfl) rfl #[.agg (tabC t195), .slice Ao38 y203.length co38] (by rfl) rfl rfl (by (try simp only [List.map_toArray, List.map_cons, List.map_nil]); first | done | rfl | (simp only [List.length_drop, List.length_take]; rfl)) ?_
               with_reducible refine (crc_Sum.calls k2 t195 _ _ y203 t206 _ ?side1 ?side2 A23.out).mono ?_
               (case side1 => repeat (first | exact (Kd.N_reads' HO205.out).2.2 | (with_reducible refine Kd.C_alloc ?_ _) | (with_reducible refine Kd.C_drewN ?_ _) | (with_reducible refine Kd.C_drew ?_)))
               (case side2 => exact (Kd.N_reads' HO205.out).2.1)
               rintro e w39 ⟨rfl, hb⟩
               refine ⟨_, rfl, ?_⟩
               replace HO_1 := vB HO_1 hb
               replace HO_2 := vB HO_2 hb
               replace HO_3 := vB HO_3 hb
               replace HO205 := nB HO205 hb
               replace HO209 := nB HO209 hb
               replace HO213 := nB HO213 hb
               replace HO217 := nB HO217 hb
               replace BK196 := bB BK196 hb
               replace HB := hB HB hb
               (try clear hb)
               (try clear hb2)
               (try clear hk)
               (try clear hi)
               refine hK.out _ _ (BK196.out) (fun hHeld => ?_)
               clear hK K
               refine norm_ (a' := ?_) ?_ ?_
               rotate_left
               ·show Act.put _ (some 62) _ = _
                simp only [Act.put, sA, sZ, sS, i64_w, i32_w]
                rfl
               exact norm_ (by simp only [putAll, Act.put, sA, sZ, sS] <;> rfl) (hJ4_5_8_12_17 (.slice Ao38 y203.length co38, v208, v212, v216) _ ⟨hHeld, HO205.out, HO209.out, HO213.out, HO217.out, HO_1.out, HO_2.out, HO_3.out, BK196.out, HB.out⟩)
              skip
              rintro ⟨v204, v212, v216⟩ w37 ⟨hS_, h0_, h1_, h2_, h3_, h4_, h5_, h6_, h7_⟩
              have n0_ : Aside0 (VN w37 w (fun k_ => QQ P1_ P2_ P3_ w k_ ∧ NB v212 k_ ∧ NB v216 k_ ∧ k_ ≠ gb196) v204 y203) := ⟨h0_⟩
              have n1_ : Aside0 (VN w37 w (fun k_ => QQ P1_ P2_ P3_ w k_ ∧ NB v204 k_ ∧ NB v216 k_ ∧ k_ ≠ gb196) v212 y211) := ⟨h1_⟩
              have n2_ : Aside0 (VN w37 w (fun k_ => QQ P1_ P2_ P3_ w k_ ∧ NB v204 k_ ∧ NB v212 k_ ∧ k_ ≠ gb196) v216 y215) := ⟨h2_⟩
              have n3_ : Aside0 (VV w37 w (fun k_ => QQ P1_ P2_ P3_ w k_ ∧ NB v204 k_ ∧ NB v212 k_ ∧ NB v216 k_ ∧ k_ ≠ gb196) (.slice A1 l1.length c1) l1) := ⟨h3_⟩
              have n4_ : Aside0 (VV w37 w (fun k_ => QQ P1_ P2_ P3_ w k_ ∧ NB v204 k_ ∧ NB v212 k_ ∧ NB v216 k_ ∧ k_ ≠ gb196) (.slice A2 l2.length c2) l2) := ⟨h4_⟩
              have n5_ : Aside0 (VV w37 w (fun k_ => QQ P1_ P2_ P3_ w k_ ∧ NB v204 k_ ∧ NB v212 k_ ∧ NB v216 k_ ∧ k_ ≠ gb196) (.slice A3 l3.length c3) l3) := ⟨h5_⟩
              have n6_ : Aside0 (w37.heap[gb196]? = some (.cells (tabC t195) 24 (0, 0))) := ⟨h6_⟩
              have n7_ : Aside0 (Below w.heap.size w w37) := ⟨h7_⟩
              clear HO_1
              clear HO_2
              clear HO_3
              clear HO_11
              clear BK196
              clear HB
              clear h0_ h1_ h2_ h3_ h4_ h5_ h6_ h7_
              have HO205 := n0_
              have HO213 := n1_
              have HO217 := n2_
              have HO_1 := n3_
              have HO_2 := n4_
              have HO_3 := n5_
              have BK196 := n6_
              have HB := n7_
              clear n0_ n1_ n2_ n3_ n4_ n5_ n6_ n7_
              have hHeld : w37.heap[gb196]? = some (.cells (tabC t195) 24 (0, 0)) := hS_
              refine norm_ (a' := ?_) ?_ ?_
              rotate_left
              ·simp only [putAll, Act.put, sA, sZ, sS]
               rfl
              refine one_ (i := 8) (N := some 65) tq13 rfl rfl (one_of HT_.out (by kernel_rfl)) (by decide) (fun K hK => ?_)
              refine lit1 (N' := 65) ?hd (ok := (fun k_ => QQ P1_ P2_ P3_ w k_ ∧ NB v204 k_ ∧ NB v212 k_ ∧ NB v216 k_ ∧ k_ ≠ gb196)) (Kd.V_mono (HO_1.out) (fun k_ hk => ⟨hk.1, hk.2.1, hk.2.2.1, hk.2.2.2.1, hk.2.2.2.2⟩)) (fun k_ hk => ⟨.inr (fW HB hk), fN HO205 hk, fN HO213 hk, fN HO217 hk, fB BK196 hk⟩) ?hr HB.out ?_; (case hd => rfl); (case hr => first | (go_simp; done) | (go_simp; rfl))
              intro v208 w38 ho39 hb hg_ hnew_
              clear hg_ hnew_
              rw [← Ny207.out] at ho39
              replace HO_1 := vE HO_1 ho39 hb
              replace HO_2 := vE HO_2 ho39 hb
              replace HO_3 := vE HO_3 ho39 hb
              replace HO205 := nE HO205 ho39 hb
              replace HO213 := nE HO213 ho39 hb
              replace HO217 := nE HO217 ho39 hb
              have HO209 := nL ho39 HB
              replace BK196 := bB BK196 hb
              replace HB := hB HB hb
              clear hb ho39
              refine hK.out _ _ (BK196.out) (fun hHeld => ?_)
              clear hK K
              refine norm_ (a' := ?_) ?_ ?_
              rotate_left
              ·show Act.put _ (some 65) _ = _
               simp only [Act.put, sA, sZ, sS, i64_w, i32_w]
               rfl
              exact norm_ (by simp only [putAll, Act.put, sA, sZ, sS] <;> rfl) (hJ4_5_8_12_17 (v204, v208, v212, v216) _ ⟨hHeld, (Kd.N_mono HO205.out (fun _ hk => ⟨hk.1.1, hk.2, hk.1.2.1, hk.1.2.2.1, hk.1.2.2.2⟩)), HO209.out, (Kd.N_mono HO213.out (fun _ hk => ⟨hk.1.1, hk.1.2.1, hk.2, hk.1.2.2.1, hk.1.2.2.2⟩)), (Kd.N_mono HO217.out (fun _ hk => ⟨hk.1.1, hk.1.2.1, hk.2, hk.1.2.2.1, hk.1.2.2.2⟩)), (Kd.V_mono HO_1.out (fun _ hk => ⟨hk.1.1, hk.1.2.1, hk.2, hk.1.2.2.1, hk.1.2.2.2.1, hk.1.2.2.2.2⟩)), (Kd.V_mono HO_2.out (fun _ hk => ⟨hk.1.1, hk.1.2.1, hk.2, hk.1.2.2.1, hk.1.2.2.2.1, hk.1.2.2.2.2⟩)), (Kd.V_mono HO_3.out (fun _ hk => ⟨hk.1.1, hk.1.2.1, hk.2, hk.1.2.2.1, hk.1.2.2.2.1, hk.1.2.2.2.2⟩)), BK196.out, HB.out⟩)
             skip
             rintro ⟨v204, v208, v216⟩ w37 ⟨hS_, h0_, h1_, h2_, h3_, h4_, h5_, h6_, h7_⟩
             have n0_ : Aside0 (VN w37 w (fun k_ => QQ P1_ P2_ P3_ w k_ ∧ NB v208 k_ ∧ NB v216 k_ ∧ k_ ≠ gb196) v204 y203) := ⟨h0_⟩
             have n1_ : Aside0 (VN w37 w (fun k_ => QQ P1_ P2_ P3_ w k_ ∧ NB v204 k_ ∧ NB v216 k_ ∧ k_ ≠ gb196) v208 y207) := ⟨h1_⟩
             have n2_ : Aside0 (VN w37 w (fun k_ => QQ P1_ P2_ P3_ w k_ ∧ NB v204 k_ ∧ NB v208 k_ ∧ k_ ≠ gb196) v216 y215) := ⟨h2_⟩
             have n3_ : Aside0 (VV w37 w (fun k_ => QQ P1_ P2_ P3_ w k_ ∧ NB v204 k_ ∧ NB v208 k_ ∧ NB v216 k_ ∧ k_ ≠ gb196) (.slice A1 l1.length c1) l1) := ⟨h3_⟩
             have n4_ : Aside0 (VV w37 w (fun k_ => QQ P1_ P2_ P3_ w k_ ∧ NB v204 k_ ∧ NB v208 k_ ∧ NB v216 k_ ∧ k_ ≠ gb196) (.slice A2 l2.length c2) l2) := ⟨h4_⟩
             have n5_ : Aside0 (VV w37 w (fun k_ => QQ P1_ P2_ P3_ w k_ ∧ NB v204 k_ ∧ NB v208 k_ ∧ NB v216 k_ ∧ k_ ≠ gb196) (.slice A3 l3.length c3) l3) := ⟨h5_⟩
             have n6_ : Aside0 (w37.heap[gb196]? = some (.cells (tabC t195) 24 (0, 0))) := ⟨h6_⟩
             have n7_ : Aside0 (Below w.heap.size w w37) := ⟨h7_⟩
             clear HO_1
             clear HO_2
             clear HO_3
             clear HO_11
             clear BK196
             clear HB
             clear h0_ h1_ h2_ h3_ h4_ h5_ h6_ h7_
             have HO205 := n0_
             have HO209 := n1_
             have HO217 := n2_
             have HO_1 := n3_
             have HO_2 := n4_
             have HO_3 := n5_
             have BK196 := n6_
             have HB := n7_
             clear n0_ n1_ n2_ n3_ n4_ n5_ n6_ n7_
             have hHeld : w37.heap[gb196]? = some (.cells (tabC t195) 24 (0, 0)) := hS_
             obtain ⟨Ao38, co38, eo38⟩ := Kd.N_slice HO209.out
             (first | subst eo38 | (injection eo38 with f1_ f2_ f3_; have f4_ := f1_.symm; have f5_ := f3_.symm; clear f1_ f2_ f3_; subst f4_; subst f5_))
             refine norm_ (a' := ?_) ?_ ?_
             rotate_left
             ·simp only [putAll, Act.put, sA, sZ, sS]
              rfl
             refine two_ (i := 9) (j := 12) (Ni := some 66) (Nj := some 69) tq14 tq13 rfl rfl rfl rfl (two_of HT_.out (by kernel_rfl)) (by decide) (by decide) (fun K hK => ?_) (fun K hK => ?_)
             ·skip
              refine goes_ Try.func15 (by kernel_rfl) rfl #[.agg (tabC t195), .slice Ao38 y207.length co38] (by rfl) rfl rfl (by (try simp only [List.map_toArray, List.map_cons, List.map_nil]); first | done | rfl | (simp only [List.length_drop, List.length_take]; rfl)) ?_
              with_reducible refine (crc_Sum.calls k2 t195 _ _ y207 t210 _ ?side1 ?side2 A24.out).mono ?_
              (case side1 => repeat (first | exact (Kd.N_reads' HO209.out).2.2 | (with_reducible refine Kd.C_alloc ?_ _) | (with_reducible refine Kd.C_drewN ?_ _) | (with_reducible refine Kd.C_drew ?_)))
              (case side2 => exact (Kd.N_reads' HO209.out).2.1)
              rintro e w39 ⟨rfl, hb⟩
              refine ⟨_, rfl, ?_⟩
              replace HO_1 := vB HO_1 hb
              replace HO_2 := vB HO_2 hb
              replace HO_3 := vB HO_3 hb
              replace HO205 := nB HO205 hb
              replace HO209 := nB HO209 hb
              replace HO217 := nB HO217 hb
              replace BK196 := bB BK196 hb
              replace HB := hB HB hb
              (try clear hb)
              (try clear hb2)
              (try clear hk)
              (try clear hi)
              refine hK.out _ _ (BK196.out) (fun hHeld => ?_)
              clear hK K
              refine norm_ (a' := ?_) ?_ ?_
              rotate_left
              ·show Act.put _ (some 66) _ = _
               simp only [Act.put, sA, sZ, sS, i64_w, i32_w]
               rfl
              exact norm_ (by simp only [putAll, Act.put, sA, sZ, sS] <;> rfl) (hJ4_5_8_9_17 (v204, .slice Ao38 y207.length co38, v216) _ ⟨hHeld, HO205.out, HO209.out, HO217.out, HO_1.out, HO_2.out, HO_3.out, BK196.out, HB.out⟩)
             skip
             refine lit1 (N' := 69) ?hd (ok := (fun k_ => QQ P1_ P2_ P3_ w k_ ∧ NB v204 k_ ∧ NB (.slice Ao38 y207.length co38) k_ ∧ NB v216 k_ ∧ k_ ≠ gb196)) (Kd.V_mono (HO_2.out) (fun k_ hk => ⟨hk.1, hk.2.1, hk.2.2.1, hk.2.2.2.1, hk.2.2.2.2⟩)) (fun k_ hk => ⟨.inr (fW HB hk), fN HO205 hk, fN HO209 hk, fN HO217 hk, fB BK196 hk⟩) ?hr HB.out ?_; (case hd => rfl); (case hr => first | (go_simp; done) | (go_simp; rfl))
             intro v212 w38 ho39 hb hg_ hnew_
             clear hg_ hnew_
             rw [← Ny211.out] at ho39
             replace HO_1 := vE HO_1 ho39 hb
             replace HO_2 := vE HO_2 ho39 hb
             replace HO_3 := vE HO_3 ho39 hb
             replace HO205 := nE HO205 ho39 hb
             replace HO209 := nE HO209 ho39 hb
             replace HO217 := nE HO217 ho39 hb
             have HO213 := nL ho39 HB
             replace BK196 := bB BK196 hb
             replace HB := hB HB hb
             clear hb ho39
             refine hK.out _ _ (BK196.out) (fun hHeld => ?_)
             clear hK K
             refine norm_ (a' := ?_) ?_ ?_
             rotate_left
             ·show Act.put _ (some 69) _ = _
              simp only [Act.put, sA, sZ, sS, i64_w, i32_w]
              rfl
             exact norm_ (by simp only [putAll, Act.put, sA, sZ, sS] <;> rfl) (hJ4_5_8_12_17 (v204, .slice Ao38 y207.length co38, v212, v216) _ ⟨hHeld, (Kd.N_mono HO205.out (fun _ hk => ⟨hk.1.1, hk.1.2.1, hk.2, hk.1.2.2.1, hk.1.2.2.2⟩)), (Kd.N_mono HO209.out (fun _ hk => ⟨hk.1.1, hk.1.2.1, hk.2, hk.1.2.2.1, hk.1.2.2.2⟩)), HO213.out, (Kd.N_mono HO217.out (fun _ hk => ⟨hk.1.1, hk.1.2.1, hk.1.2.2.1, hk.2, hk.1.2.2.2⟩)), (Kd.V_mono HO_1.out (fun _ hk => ⟨hk.1.1, hk.1.2.1, hk.1.2.2.1, hk.2, hk.1.2.2.2.1, hk.1.2.2.2.2⟩)), (Kd.V_mono HO_2.out (fun _ hk => ⟨hk.1.1, hk.1.2.1, hk.1.2.2.1, hk.2, hk.1.2.2.2.1, hk.1.2.2.2.2⟩)), (Kd.V_mono HO_3.out (fun _ hk => ⟨hk.1.1, hk.1.2.1, hk.1.2.2.1, hk.2, hk.1.2.2.2.1, hk.1.2.2.2.2⟩)), BK196.out, HB.out⟩)
            skip
            rintro ⟨v204, v208, v212⟩ w37 ⟨hS_, h0_, h1_, h2_, h3_, h4_, h5_, h6_, h7_⟩
            have n0_ : Aside0 (VN w37 w (fun k_ => QQ P1_ P2_ P3_ w k_ ∧ NB v208 k_ ∧ NB v212 k_ ∧ k_ ≠ gb196) v204 y203) := ⟨h0_⟩
            have n1_ : Aside0 (VN w37 w (fun k_ => QQ P1_ P2_ P3_ w k_ ∧ NB v204 k_ ∧ NB v212 k_ ∧ k_ ≠ gb196) v208 y207) := ⟨h1_⟩
            have n2_ : Aside0 (VN w37 w (fun k_ => QQ P1_ P2_ P3_ w k_ ∧ NB v204 k_ ∧ NB v208 k_ ∧ k_ ≠ gb196) v212 y211) := ⟨h2_⟩
            have n3_ : Aside0 (VV w37 w (fun k_ => QQ P1_ P2_ P3_ w k_ ∧ NB v204 k_ ∧ NB v208 k_ ∧ NB v212 k_ ∧ k_ ≠ gb196) (.slice A1 l1.length c1) l1) := ⟨h3_⟩
            have n4_ : Aside0 (VV w37 w (fun k_ => QQ P1_ P2_ P3_ w k_ ∧ NB v204 k_ ∧ NB v208 k_ ∧ NB v212 k_ ∧ k_ ≠ gb196) (.slice A2 l2.length c2) l2) := ⟨h4_⟩
            have n5_ : Aside0 (VV w37 w (fun k_ => QQ P1_ P2_ P3_ w k_ ∧ NB v204 k_ ∧ NB v208 k_ ∧ NB v212 k_ ∧ k_ ≠ gb196) (.slice A3 l3.length c3) l3) := ⟨h5_⟩
            have n6_ : Aside0 (w37.heap[gb196]? = some (.cells (tabC t195) 24 (0, 0))) := ⟨h6_⟩
            have n7_ : Aside0 (Below w.heap.size w w37) := ⟨h7_⟩
            clear HO_1
            clear HO_2
            clear HO_3
            clear HO_11
            clear BK196
            clear HB
            clear h0_ h1_ h2_ h3_ h4_ h5_ h6_ h7_
            have HO205 := n0_
            have HO209 := n1_
            have HO213 := n2_
            have HO_1 := n3_
            have HO_2 := n4_
            have HO_3 := n5_
            have BK196 := n6_
            have HB := n7_
            clear n0_ n1_ n2_ n3_ n4_ n5_ n6_ n7_
            have hHeld : w37.heap[gb196]? = some (.cells (tabC t195) 24 (0, 0)) := hS_
            obtain ⟨Ao38, co38, eo38⟩ := Kd.N_slice HO209.out
            (first | subst eo38 | (injection eo38 with f1_ f2_ f3_; have f4_ := f1_.symm; have f5_ := f3_.symm; clear f1_ f2_ f3_; subst f4_; subst f5_))
            refine norm_ (a' := ?_) ?_ ?_
            rotate_left
            ·simp only [putAll, Act.put, sA, sZ, sS]
             rfl
            refine two_ (i := 9) (j := 17) (Ni := some 66) (Nj := some 74) tq15 tq13 rfl rfl rfl rfl (two_of HT_.out (by kernel_rfl)) (by decide) (by decide) (fun K hK => ?_) (fun K hK => ?_)
            ·skip
             refine goes_ Try.func15 (by kernel_rfl) rfl #[.agg (tabC t195), .slice Ao38 y207.length co38] (by rfl) rfl rfl (by (try simp only [List.map_toArray, List.map_cons, List.map_nil]); first | done | rfl | (simp only [List.length_drop, List.length_take]; rfl)) ?_
             with_reducible refine (crc_Sum.calls k2 t195 _ _ y207 t210 _ ?side1 ?side2 A24.out).mono ?_
             (case side1 => repeat (first | exact (Kd.N_reads' HO209.out).2.2 | (with_reducible refine Kd.C_alloc ?_ _) | (with_reducible refine Kd.C_drewN ?_ _) | (with_reducible refine Kd.C_drew ?_)))
             (case side2 => exact (Kd.N_reads' HO209.out).2.1)
             rintro e w39 ⟨rfl, hb⟩
             refine ⟨_, rfl, ?_⟩
             replace HO_1 := vB HO_1 hb
             replace HO_2 := vB HO_2 hb
             replace HO_3 := vB HO_3 hb
             replace HO205 := nB HO205 hb
             replace HO209 := nB HO209 hb
             replace HO213 := nB HO213 hb
             replace BK196 := bB BK196 hb
             replace HB := hB HB hb
             (try clear hb)
             (try clear hb2)
             (try clear hk)
             (try clear hi)
             refine hK.out _ _ (BK196.out) (fun hHeld => ?_)
             clear hK K
             refine norm_ (a' := ?_) ?_ ?_
             rotate_left
             ·show Act.put _ (some 66) _ = _
              simp only [Act.put, sA, sZ, sS, i64_w, i32_w]
              rfl
             exact norm_ (by simp only [putAll, Act.put, sA, sZ, sS] <;> rfl) (hJ4_5_8_9_12 (v204, .slice Ao38 y207.length co38, v212) _ ⟨hHeld, HO205.out, HO209.out, HO213.out, HO_1.out, HO_2.out, HO_3.out, BK196.out, HB.out⟩)
            skip
            refine lit1 (N' := 74) ?hd (ok := (fun k_ => QQ P1_ P2_ P3_ w k_ ∧ NB v204 k_ ∧ NB (.slice Ao38 y207.length co38) k_ ∧ NB v212 k_ ∧ k_ ≠ gb196)) (Kd.V_mono (HO_3.out) (fun k_ hk => ⟨hk.1, hk.2.1, hk.2.2.1, hk.2.2.2.1, hk.2.2.2.2⟩)) (fun k_ hk => ⟨.inr (fW HB hk), fN HO205 hk, fN HO209 hk, fN HO213 hk, fB BK196 hk⟩) ?hr HB.out ?_; (case hd => rfl); (case hr => first | (go_simp; done) | (go_simp; rfl))
            intro v216 w38 ho39 hb hg_ hnew_
            clear hg_ hnew_
            rw [← Ny215.out] at ho39
            replace HO_1 := vE HO_1 ho39 hb
            replace HO_2 := vE HO_2 ho39 hb
            replace HO_3 := vE HO_3 ho39 hb
            replace HO205 := nE HO205 ho39 hb
            replace HO209 := nE HO209 ho39 hb
            replace HO213 := nE HO213 ho39 hb
            have HO217 := nL ho39 HB
            replace BK196 := bB BK196 hb
            replace HB := hB HB hb
            clear hb ho39
            refine hK.out _ _ (BK196.out) (fun hHeld => ?_)
            clear hK K
            refine norm_ (a' := ?_) ?_ ?_
            rotate_left
            ·show Act.put _ (some 74) _ = _
             simp only [Act.put, sA, sZ, sS, i64_w, i32_w]
             rfl
            exact norm_ (by simp only [putAll, Act.put, sA, sZ, sS] <;> rfl) (hJ4_5_8_12_17 (v204, .slice Ao38 y207.length co38, v212, v216) _ ⟨hHeld, (Kd.N_mono HO205.out (fun _ hk => ⟨hk.1.1, hk.1.2.1, hk.1.2.2.1, hk.2, hk.1.2.2.2⟩)), (Kd.N_mono HO209.out (fun _ hk => ⟨hk.1.1, hk.1.2.1, hk.1.2.2.1, hk.2, hk.1.2.2.2⟩)), (Kd.N_mono HO213.out (fun _ hk => ⟨hk.1.1, hk.1.2.1, hk.1.2.2.1, hk.2, hk.1.2.2.2⟩)), HO217.out, (Kd.V_mono HO_1.out (fun _ hk => ⟨hk.1.1, hk.1.2.1, hk.1.2.2.1, hk.1.2.2.2.1, hk.2, hk.1.2.2.2.2⟩)), (Kd.V_mono HO_2.out (fun _ hk => ⟨hk.1.1, hk.1.2.1, hk.1.2.2.1, hk.1.2.2.2.1, hk.2, hk.1.2.2.2.2⟩)), (Kd.V_mono HO_3.out (fun _ hk => ⟨hk.1.1, hk.1.2.1, hk.1.2.2.1, hk.1.2.2.2.1, hk.2, hk.1.2.2.2.2⟩)), BK196.out, HB.out⟩)
           skip
           rintro ⟨v204, v208⟩ w37 ⟨hS_, h0_, h1_, h2_, h3_, h4_, h5_, h6_⟩
           have n0_ : Aside0 (VN w37 w (fun k_ => QQ P1_ P2_ P3_ w k_ ∧ NB v208 k_ ∧ k_ ≠ gb196) v204 y203) := ⟨h0_⟩
           have n1_ : Aside0 (VN w37 w (fun k_ => QQ P1_ P2_ P3_ w k_ ∧ NB v204 k_ ∧ k_ ≠ gb196) v208 y207) := ⟨h1_⟩
           have n2_ : Aside0 (VV w37 w (fun k_ => QQ P1_ P2_ P3_ w k_ ∧ NB v204 k_ ∧ NB v208 k_ ∧ k_ ≠ gb196) (.slice A1 l1.length c1) l1) := ⟨h2_⟩
           have n3_ : Aside0 (VV w37 w (fun k_ => QQ P1_ P2_ P3_ w k_ ∧ NB v204 k_ ∧ NB v208 k_ ∧ k_ ≠ gb196) (.slice A2 l2.length c2) l2) := ⟨h3_⟩
           have n4_ : Aside0 (VV w37 w (fun k_ => QQ P1_ P2_ P3_ w k_ ∧ NB v204 k_ ∧ NB v208 k_ ∧ k_ ≠ gb196) (.slice A3 l3.length c3) l3) := ⟨h4_⟩
           have n5_ : Aside0 (w37.heap[gb196]? = some (.cells (tabC t195) 24 (0, 0))) := ⟨h5_⟩
           have n6_ : Aside0 (Below w.heap.size w w37) := ⟨h6_⟩
           clear HO_1
           clear HO_2
           clear HO_3
           clear HO_11
           clear BK196
           clear HB
           clear h0_ h1_ h2_ h3_ h4_ h5_ h6_
           have HO205 := n0_
           have HO209 := n1_
           have HO_1 := n2_
           have HO_2 := n3_
           have HO_3 := n4_
           have BK196 := n5_
           have HB := n6_
           clear n0_ n1_ n2_ n3_ n4_ n5_ n6_
           have hHeld : w37.heap[gb196]? = some (.cells (tabC t195) 24 (0, 0)) := hS_
           refine norm_ (a' := ?_) ?_ ?_
           rotate_left
           ·simp only [putAll, Act.put, sA, sZ, sS]
            rfl
           refine two_ (i := 12) (j := 17) (Ni := some 69) (Nj := some 74) tq15 tq14 rfl rfl rfl rfl (two_of HT_.out (by kernel_rfl)) (by decide) (by decide) (fun K hK => ?_) (fun K hK => ?_)
           ·skip
            refine lit1 (N' := 69) ?hd (ok := (fun k_ => QQ P1_ P2_ P3_ w k_ ∧ NB v204 k_ ∧ NB v208 k_ ∧ k_ ≠ gb196)) (Kd.V_mono (HO_2.out) (fun k_ hk => ⟨hk.1, hk.2.1, hk.2.2.1, hk.2.2.2⟩)) (fun k_ hk => ⟨.inr (fW HB hk), fN HO205 hk, fN HO209 hk, fB BK196 hk⟩) ?hr HB.out ?_; (case hd => rfl); (case hr => first | (go_simp; done) | (go_simp; rfl))
            intro v212 w38 ho39 hb hg_ hnew_
            clear hg_ hnew_
            rw [← Ny211.out] at ho39
            replace HO_1 := vE HO_1 ho39 hb
            replace HO_2 := vE HO_2 ho39 hb
            replace HO_3 := vE HO_3 ho39 hb
            replace HO205 := nE HO205 ho39 hb
            replace HO209 := nE HO209 ho39 hb
            have HO213 := nL ho39 HB
            replace BK196 := bB BK196 hb
            replace HB := hB HB hb
            clear hb ho39
            refine hK.out _ _ (BK196.out) (fun hHeld => ?_)
            clear hK K
            refine norm_ (a' := ?_) ?_ ?_
            rotate_left
            ·show Act.put _ (some 69) _ = _
             simp only [Act.put, sA, sZ, sS, i64_w, i32_w]
             rfl
            exact norm_ (by simp only [putAll, Act.put, sA, sZ, sS] <;> rfl) (hJ4_5_8_9_12 (v204, v208, v212) _ ⟨hHeld, (Kd.N_mono HO205.out (fun _ hk => ⟨hk.1.1, hk.1.2.1, hk.2, hk.1.2.2⟩)), (Kd.N_mono HO209.out (fun _ hk => ⟨hk.1.1, hk.1.2.1, hk.2, hk.1.2.2⟩)), HO213.out, (Kd.V_mono HO_1.out (fun _ hk => ⟨hk.1.1, hk.1.2.1, hk.1.2.2.1, hk.2, hk.1.2.2.2⟩)), (Kd.V_mono HO_2.out (fun _ hk => ⟨hk.1.1, hk.1.2.1, hk.1.2.2.1, hk.2, hk.1.2.2.2⟩)), (Kd.V_mono HO_3.out (fun _ hk => ⟨hk.1.1, hk.1.2.1, hk.1.2.2.1, hk.2, hk.1.2.2.2⟩)), BK196.out, HB.out⟩)
           skip
           refine lit1 (N' := 74) ?hd (ok := (fun k_ => QQ P1_ P2_ P3_ w k_ ∧ NB v204 k_ ∧ NB v208 k_ ∧ k_ ≠ gb196)) (Kd.V_mono (HO_3.out) (fun k_ hk => ⟨hk.1, hk.2.1, hk.2.2.1, hk.2.2.2⟩)) (fun k_ hk => ⟨.inr (fW HB hk), fN HO205 hk, fN HO209 hk, fB BK196 hk⟩) ?hr HB.out ?_; (case hd => rfl); (case hr => first | (go_simp; done) | (go_simp; rfl))
           intro v216 w38 ho39 hb hg_ hnew_
           clear hg_ hnew_
           rw [← Ny215.out] at ho39
           replace HO_1 := vE HO_1 ho39 hb
           replace HO_2 := vE HO_2 ho39 hb
           replace HO_3 := vE HO_3 ho39 hb
           replace HO205 := nE HO205 ho39 hb
           replace HO209 := nE HO209 ho39 hb
           have HO217 := nL ho39 HB
           replace BK196 := bB BK196 hb
           replace HB := hB HB hb
           clear hb ho39
           refine hK.out _ _ (BK196.out) (fun hHeld => ?_)
           clear hK K
           refine norm_ (a' := ?_) ?_ ?_
           rotate_left
           ·show Act.put _ (some 74) _ = _
            simp only [Act.put, sA, sZ, sS, i64_w, i32_w]
            rfl
           exact norm_ (by simp only [putAll, Act.put, sA, sZ, sS] <;> rfl) (hJ4_5_8_9_17 (v204, v208, v216) _ ⟨hHeld, (Kd.N_mono HO205.out (fun _ hk => ⟨hk.1.1, hk.1.2.1, hk.2, hk.1.2.2⟩)), (Kd.N_mono HO209.out (fun _ hk => ⟨hk.1.1, hk.1.2.1, hk.2, hk.1.2.2⟩)), HO217.out, (Kd.V_mono HO_1.out (fun _ hk => ⟨hk.1.1, hk.1.2.1, hk.1.2.2.1, hk.2, hk.1.2.2.2⟩)), (Kd.V_mono HO_2.out (fun _ hk => ⟨hk.1.1, hk.1.2.1, hk.1.2.2.1, hk.2, hk.1.2.2.2⟩)), (Kd.V_mono HO_3.out (fun _ hk => ⟨hk.1.1, hk.1.2.1, hk.1.2.2.1, hk.2, hk.1.2.2.2⟩)), BK196.out, HB.out⟩)
          skip
          rintro ⟨v204, v208, v212, v216⟩ w39 ⟨hS_, h0_, h1_, h2_, h3_, h4_, h5_, h6_, h7_, h8_⟩
          have n0_ : Aside0 (VN w39 w (fun k_ => QQ P1_ P2_ P3_ w k_ ∧ NB v208 k_ ∧ NB v212 k_ ∧ NB v216 k_ ∧ k_ ≠ gb196) v204 y203) := ⟨h0_⟩
          have n1_ : Aside0 (VN w39 w (fun k_ => QQ P1_ P2_ P3_ w k_ ∧ NB v204 k_ ∧ NB v212 k_ ∧ NB v216 k_ ∧ k_ ≠ gb196) v208 y207) := ⟨h1_⟩
          have n2_ : Aside0 (VN w39 w (fun k_ => QQ P1_ P2_ P3_ w k_ ∧ NB v204 k_ ∧ NB v208 k_ ∧ NB v216 k_ ∧ k_ ≠ gb196) v212 y211) := ⟨h2_⟩
          have n3_ : Aside0 (VN w39 w (fun k_ => QQ P1_ P2_ P3_ w k_ ∧ NB v204 k_ ∧ NB v208 k_ ∧ NB v212 k_ ∧ k_ ≠ gb196) v216 y215) := ⟨h3_⟩
          have n4_ : Aside0 (VV w39 w (fun k_ => QQ P1_ P2_ P3_ w k_ ∧ NB v204 k_ ∧ NB v208 k_ ∧ NB v212 k_ ∧ NB v216 k_ ∧ k_ ≠ gb196) (.slice A1 l1.length c1) l1) := ⟨h4_⟩
          have n5_ : Aside0 (VV w39 w (fun k_ => QQ P1_ P2_ P3_ w k_ ∧ NB v204 k_ ∧ NB v208 k_ ∧ NB v212 k_ ∧ NB v216 k_ ∧ k_ ≠ gb196) (.slice A2 l2.length c2) l2) := ⟨h5_⟩
          have n6_ : Aside0 (VV w39 w (fun k_ => QQ P1_ P2_ P3_ w k_ ∧ NB v204 k_ ∧ NB v208 k_ ∧ NB v212 k_ ∧ NB v216 k_ ∧ k_ ≠ gb196) (.slice A3 l3.length c3) l3) := ⟨h6_⟩
          have n7_ : Aside0 (w39.heap[gb196]? = some (.cells (tabC t195) 24 (0, 0))) := ⟨h7_⟩
          have n8_ : Aside0 (Below w.heap.size w w39) := ⟨h8_⟩
          clear HO_1
          clear HO_2
          clear HO_3
          clear HO_11
          clear BK196
          clear HB
          clear h0_ h1_ h2_ h3_ h4_ h5_ h6_ h7_ h8_
          have HO205 := n0_
          have HO209 := n1_
          have HO213 := n2_
          have HO217 := n3_
          have HO_1 := n4_
          have HO_2 := n5_
          have HO_3 := n6_
          have BK196 := n7_
          have HB := n8_
          clear n0_ n1_ n2_ n3_ n4_ n5_ n6_ n7_ n8_
          have hHeld : w39.heap[gb196]? = some (.cells (tabC t195) 24 (0, 0)) := hS_
          obtain ⟨Ao40, co40, eo40⟩ := Kd.N_slice HO209.out
          (first | subst eo40 | (injection eo40 with f1_ f2_ f3_; have f4_ := f1_.symm; have f5_ := f3_.symm; clear f1_ f2_ f3_; subst f4_; subst f5_))
          refine norm_ (a' := ?_) ?_ ?_
          rotate_left
          ·simp only [putAll, Act.put, sA, sZ, sS]
           rfl
          refine one_ (i := 9) (N := some 66) tq10 rfl rfl (one_of HT_.out (by kernel_rfl)) (by decide) (fun K hK => ?_)
          refine goes_ Try.func15 (by kernel_rfl) rfl #[.agg (tabC t195), .slice Ao40 y207.length co40] (by rfl) rfl rfl (by (try simp only [List.map_toArray, List.map_cons, List.map_nil]); first | done | rfl | (simp only [List.length_drop, List.length_take]; rfl)) ?_
          with_reducible refine (crc_Sum.calls k2 t195 _ _ y207 t210 _ ?side1 ?side2 A24.out).mono ?_
          (case side1 => repeat (first | exact (Kd.N_reads' HO209.out).2.2 | (with_reducible refine Kd.C_alloc ?_ _) | (with_reducible refine Kd.C_drewN ?_ _) | (with_reducible refine Kd.C_drew ?_)))
          (case side2 => exact (Kd.N_reads' HO209.out).2.1)
          rintro e w41 ⟨rfl, hb⟩
          refine ⟨_, rfl, ?_⟩
          replace HO_1 := vB HO_1 hb
          replace HO_2 := vB HO_2 hb
          replace HO_3 := vB HO_3 hb
          replace HO205 := nB HO205 hb
          replace HO209 := nB HO209 hb
          replace HO213 := nB HO213 hb
          replace HO217 := nB HO217 hb
          replace BK196 := bB BK196 hb
          replace HB := hB HB hb
          (try clear hb)
          (try clear hb2)
          (try clear hk)
          (try clear hi)
          refine hK.out _ _ (BK196.out) (fun hHeld => ?_)
          clear hK K
          refine norm_ (a' := ?_) ?_ ?_
          rotate_left
          ·show Act.put _ (some 66) _ = _
           simp only [Act.put, sA, sZ, sS, i64_w, i32_w]
           rfl
          exact norm_ (by simp only [putAll, Act.put, sA, sZ, sS] <;> rfl) (hJ4_5_8_9_12_17 (v204, .slice Ao40 y207.length co40, v212, v216) _ ⟨hHeld, HO205.out, HO209.out, HO213.out, HO217.out, HO_1.out, HO_2.out, HO_3.out, BK196.out, HB.out⟩)
         skip
         rintro ⟨v204, v208, v216⟩ w39 ⟨hS_, h0_, h1_, h2_, h3_, h4_, h5_, h6_, h7_⟩
         have n0_ : Aside0 (VN w39 w (fun k_ => QQ P1_ P2_ P3_ w k_ ∧ NB v208 k_ ∧ NB v216 k_ ∧ k_ ≠ gb196) v204 y203) := ⟨h0_⟩
         have n1_ : Aside0 (VN w39 w (fun k_ => QQ P1_ P2_ P3_ w k_ ∧ NB v204 k_ ∧ NB v216 k_ ∧ k_ ≠ gb196) v208 y207) := ⟨h1_⟩
         have n2_ : Aside0 (VN w39 w (fun k_ => QQ P1_ P2_ P3_ w k_ ∧ NB v204 k_ ∧ NB v208 k_ ∧ k_ ≠ gb196) v216 y215) := ⟨h2_⟩
         have n3_ : Aside0 (VV w39 w (fun k_ => QQ P1_ P2_ P3_ w k_ ∧ NB v204 k_ ∧ NB v208 k_ ∧ NB v216 k_ ∧ k_ ≠ gb196) (.slice A1 l1.length c1) l1) := ⟨h3_⟩
         have n4_ : Aside0 (VV w39 w (fun k_ => QQ P1_ P2_ P3_ w k_ ∧ NB v204 k_ ∧ NB v208 k_ ∧ NB v216 k_ ∧ k_ ≠ gb196) (.slice A2 l2.length c2) l2) := ⟨h4_⟩
         have n5_ : Aside0 (VV w39 w (fun k_ => QQ P1_ P2_ P3_ w k_ ∧ NB v204 k_ ∧ NB v208 k_ ∧ NB v216 k_ ∧ k_ ≠ gb196) (.slice A3 l3.length c3) l3) := ⟨h5_⟩
         have n6_ : Aside0 (w39.heap[gb196]? = some (.cells (tabC t195) 24 (0, 0))) := ⟨h6_⟩
         have n7_ : Aside0 (Below w.heap.size w w39) := ⟨h7_⟩
         clear HO_1
         clear HO_2
         clear HO_3
         clear HO_11
         clear BK196
         clear HB
         clear h0_ h1_ h2_ h3_ h4_ h5_ h6_ h7_
         have HO205 := n0_
         have HO209 := n1_
         have HO217 := n2_
         have HO_1 := n3_
         have HO_2 := n4_
         have HO_3 := n5_
         have BK196 := n6_
         have HB := n7_
         clear n0_ n1_ n2_ n3_ n4_ n5_ n6_ n7_
         have hHeld : w39.heap[gb196]? = some (.cells (tabC t195) 24 (0, 0)) := hS_
         refine norm_ (a' := ?_) ?_ ?_
         rotate_left
         ·simp only [putAll, Act.put, sA, sZ, sS]
          rfl
         refine one_ (i := 12) (N := some 69) tq10 rfl rfl (one_of HT_.out (by kernel_rfl)) (by decide) (fun K hK => ?_)
         refine lit1 (N' := 69) ?hd (ok := (fun k_ => QQ P1_ P2_ P3_ w k_ ∧ NB v204 k_ ∧ NB v208 k_ ∧ NB v216 k_ ∧ k_ ≠ gb196)) (Kd.V_mono (HO_2.out) (fun k_ hk => ⟨hk.1, hk.2.1, hk.2.2.1, hk.2.2.2.1, hk.2.2.2.2⟩)) (fun k_ hk => ⟨.inr (fW HB hk), fN HO205 hk, fN HO209 hk, fN HO217 hk, fB BK196 hk⟩) ?hr HB.out ?_; (case hd => rfl); (case hr => first | (go_simp; done) | (go_simp; rfl))
         intro v212 w40 ho41 hb hg_ hnew_
         clear hg_ hnew_
         rw [← Ny211.out] at ho41
         replace HO_1 := vE HO_1 ho41 hb
         replace HO_2 := vE HO_2 ho41 hb
         replace HO_3 := vE HO_3 ho41 hb
         replace HO205 := nE HO205 ho41 hb
         replace HO209 := nE HO209 ho41 hb
         replace HO217 := nE HO217 ho41 hb
         have HO213 := nL ho41 HB
         replace BK196 := bB BK196 hb
         replace HB := hB HB hb
         clear hb ho41
         refine hK.out _ _ (BK196.out) (fun hHeld => ?_)
         clear hK K
         refine norm_ (a' := ?_) ?_ ?_
         rotate_left
         ·show Act.put _ (some 69) _ = _
          simp only [Act.put, sA, sZ, sS, i64_w, i32_w]
          rfl
         exact norm_ (by simp only [putAll, Act.put, sA, sZ, sS] <;> rfl) (hJ4_5_8_9_12_17 (v204, v208, v212, v216) _ ⟨hHeld, (Kd.N_mono HO205.out (fun _ hk => ⟨hk.1.1, hk.1.2.1, hk.2, hk.1.2.2.1, hk.1.2.2.2⟩)), (Kd.N_mono HO209.out (fun _ hk => ⟨hk.1.1, hk.1.2.1, hk.2, hk.1.2.2.1, hk.1.2.2.2⟩)), HO213.out, (Kd.N_mono HO217.out (fun _ hk => ⟨hk.1.1, hk.1.2.1, hk.1.2.2.1, hk.2, hk.1.2.2.2⟩)), (Kd.V_mono HO_1.out (fun _ hk => ⟨hk.1.1, hk.1.2.1, hk.1.2.2.1, hk.2, hk.1.2.2.2.1, hk.1.2.2.2.2⟩)), (Kd.V_mono HO_2.out (fun _ hk => ⟨hk.1.1, hk.1.2.1, hk.1.2.2.1, hk.2, hk.1.2.2.2.1, hk.1.2.2.2.2⟩)), (Kd.V_mono HO_3.out (fun _ hk => ⟨hk.1.1, hk.1.2.1, hk.1.2.2.1, hk.2, hk.1.2.2.2.1, hk.1.2.2.2.2⟩)), BK196.out, HB.out⟩)
        skip
        rintro ⟨v204, v208, v212⟩ w39 ⟨hS_, h0_, h1_, h2_, h3_, h4_, h5_, h6_, h7_⟩
        have n0_ : Aside0 (VN w39 w (fun k_ => QQ P1_ P2_ P3_ w k_ ∧ NB v208 k_ ∧ NB v212 k_ ∧ k_ ≠ gb196) v204 y203) := ⟨h0_⟩
        have n1_ : Aside0 (VN w39 w (fun k_ => QQ P1_ P2_ P3_ w k_ ∧ NB v204 k_ ∧ NB v212 k_ ∧ k_ ≠ gb196) v208 y207) := ⟨h1_⟩
        have n2_ : Aside0 (VN w39 w (fun k_ => QQ P1_ P2_ P3_ w k_ ∧ NB v204 k_ ∧ NB v208 k_ ∧ k_ ≠ gb196) v212 y211) := ⟨h2_⟩
        have n3_ : Aside0 (VV w39 w (fun k_ => QQ P1_ P2_ P3_ w k_ ∧ NB v204 k_ ∧ NB v208 k_ ∧ NB v212 k_ ∧ k_ ≠ gb196) (.slice A1 l1.length c1) l1) := ⟨h3_⟩
        have n4_ : Aside0 (VV w39 w (fun k_ => QQ P1_ P2_ P3_ w k_ ∧ NB v204 k_ ∧ NB v208 k_ ∧ NB v212 k_ ∧ k_ ≠ gb196) (.slice A2 l2.length c2) l2) := ⟨h4_⟩
        have n5_ : Aside0 (VV w39 w (fun k_ => QQ P1_ P2_ P3_ w k_ ∧ NB v204 k_ ∧ NB v208 k_ ∧ NB v212 k_ ∧ k_ ≠ gb196) (.slice A3 l3.length c3) l3) := ⟨h5_⟩
        have n6_ : Aside0 (w39.heap[gb196]? = some (.cells (tabC t195) 24 (0, 0))) := ⟨h6_⟩
        have n7_ : Aside0 (Below w.heap.size w w39) := ⟨h7_⟩
        clear HO_1
        clear HO_2
        clear HO_3
        clear HO_11
        clear BK196
        clear HB
        clear h0_ h1_ h2_ h3_ h4_ h5_ h6_ h7_
        have HO205 := n0_
        have HO209 := n1_
        have HO213 := n2_
        have HO_1 := n3_
        have HO_2 := n4_
        have HO_3 := n5_
        have BK196 := n6_
        have HB := n7_
        clear n0_ n1_ n2_ n3_ n4_ n5_ n6_ n7_
        have hHeld : w39.heap[gb196]? = some (.cells (tabC t195) 24 (0, 0)) := hS_
        obtain ⟨Ao40, co40, eo40⟩ := Kd.N_slice HO213.out
        (first | subst eo40 | (injection eo40 with f1_ f2_ f3_; have f4_ := f1_.symm; have f5_ := f3_.symm; clear f1_ f2_ f3_; subst f4_; subst f5_))
        refine norm_ (a' := ?_) ?_ ?_
        rotate_left
        ·simp only [putAll, Act.put, sA, sZ, sS]
         rfl
        refine two_ (i := 13) (j := 17) (Ni := some 70) (Nj := some 74) tq11 tq10 rfl rfl rfl rfl (two_of HT_.out (by kernel_rfl)) (by decide) (by decide) (fun K hK => ?_) (fun K hK => ?_)
        ·skip
         refine goes_ Try.func15 (by kernel_rfl) rfl #[.agg (tabC t195), .slice Ao40 y211.length co40] (by rfl) rfl rfl (by (try simp only [List.map_toArray, List.map_cons, List.map_nil]); first | done | rfl | (simp only [List.length_drop, List.length_take]; rfl)) ?_
         with_reducible refine (crc_Sum.calls k2 t195 _ _ y211 t214 _ ?side1 ?side2 A25.out).mono ?_
         (case side1 => repeat (first | exact (Kd.N_reads' HO213.out).2.2 | (with_reducible refine Kd.C_alloc ?_ _) | (with_reducible refine Kd.C_drewN ?_ _) | (with_reducible refine Kd.C_drew ?_)))
         (case side2 => exact (Kd.N_reads' HO213.out).2.1)
         rintro e w41 ⟨rfl, hb⟩
         refine ⟨_, rfl, ?_⟩
         replace HO_1 := vB HO_1 hb
         replace HO_2 := vB HO_2 hb
         replace HO_3 := vB HO_3 hb
         replace HO205 := nB HO205 hb
         replace HO209 := nB HO209 hb
         replace HO213 := nB HO213 hb
         replace BK196 := bB BK196 hb
         replace HB := hB HB hb
         (try clear hb)
         (try clear hb2)
         (try clear hk)
         (try clear hi)
         refine hK.out _ _ (BK196.out) (fun hHeld => ?_)
         clear hK K
         refine norm_ (a' := ?_) ?_ ?_
         rotate_left
         ·show Act.put _ (some 70) _ = _
          simp only [Act.put, sA, sZ, sS, i64_w, i32_w]
          rfl
         refine pure_ (i := 14) (N := some 71) (v := ?_) (a' := ?_) tq8 rfl rfl (any_of HT_.out (by kernel_rfl)) (fun _ _ _ h => h) (Or.inl ⟨by rfl, ?_⟩) ?_ ?_
         rotate_left
         ·intro w'
          go_simp
          with_reducible rfl
         rotate_left
         ·simp only [Act.put, sA, sZ, sS, i64_w, i32_w]
          rfl
         exact norm_ (by simp only [putAll, Act.put, sA, sZ, sS] <;> rfl) (hJ4_5_8_9_12_13 (v204, v208, .slice Ao40 y211.length co40) _ ⟨hHeld, HO205.out, HO209.out, HO213.out, HO_1.out, HO_2.out, HO_3.out, BK196.out, HB.out⟩)
        skip
        refine lit1 (N' := 74) ?hd (ok := (fun k_ => QQ P1_ P2_ P3_ w k_ ∧ NB v204 k_ ∧ NB v208 k_ ∧ NB (.slice Ao40 y211.length co40) k_ ∧ k_ ≠ gb196)) (Kd.V_mono (HO_3.out) (fun k_ hk => ⟨hk.1, hk.2.1, hk.2.2.1, hk.2.2.2.1, hk.2.2.2.2⟩)) (fun k_ hk => ⟨.inr (fW HB hk), fN HO205 hk, fN HO209 hk, fN HO213 hk, fB BK196 hk⟩) ?hr HB.out ?_; (case hd => rfl); (case hr => first | (go_simp; done) | (go_simp; rfl))
        intro v216 w40 ho41 hb hg_ hnew_
        clear hg_ hnew_
        rw [← Ny215.out] at ho41
        replace HO_1 := vE HO_1 ho41 hb
        replace HO_2 := vE HO_2 ho41 hb
        replace HO_3 := vE HO_3 ho41 hb
        replace HO205 := nE HO205 ho41 hb
        replace HO209 := nE HO209 ho41 hb
        replace HO213 := nE HO213 ho41 hb
        have HO217 := nL ho41 HB
        replace BK196 := bB BK196 hb
        replace HB := hB HB hb
        clear hb ho41
        refine hK.out _ _ (BK196.out) (fun hHeld => ?_)
        clear hK K
        refine norm_ (a' := ?_) ?_ ?_
        rotate_left
        ·show Act.put _ (some 74) _ = _
         simp only [Act.put, sA, sZ, sS, i64_w, i32_w]
         rfl
        exact norm_ (by simp only [putAll, Act.put, sA, sZ, sS] <;> rfl) (hJ4_5_8_9_12_17 (v204, v208, .slice Ao40 y211.length co40, v216) _ ⟨hHeld, (Kd.N_mono HO205.out (fun _ hk => ⟨hk.1.1, hk.1.2.1, hk.1.2.2.1, hk.2, hk.1.2.2.2⟩)), (Kd.N_mono HO209.out (fun _ hk => ⟨hk.1.1, hk.1.2.1, hk.1.2.2.1, hk.2, hk.1.2.2.2⟩)), (Kd.N_mono HO213.out (fun _ hk => ⟨hk.1.1, hk.1.2.1, hk.1.2.2.1, hk.2, hk.1.2.2.2⟩)), HO217.out, (Kd.V_mono HO_1.out (fun _ hk => ⟨hk.1.1, hk.1.2.1, hk.1.2.2.1, hk.1.2.2.2.1, hk.2, hk.1.2.2.2.2⟩)), (Kd.V_mono HO_2.out (fun _ hk => ⟨hk.1.1, hk.1.2.1, hk.1.2.2.1, hk.1.2.2.2.1, hk.2, hk.1.2.2.2.2⟩)), (Kd.V_mono HO_3.out (fun _ hk => ⟨hk.1.1, hk.1.2.1, hk.1.2.2.1, hk.1.2.2.2.1, hk.2, hk.1.2.2.2.2⟩)), BK196.out, HB.out⟩)
       skip
       rintro ⟨v204, v208, v212, v216⟩ w41 ⟨hS_, h0_, h1_, h2_, h3_, h4_, h5_, h6_, h7_, h8_⟩
       have n0_ : Aside0 (VN w41 w (fun k_ => QQ P1_ P2_ P3_ w k_ ∧ NB v208 k_ ∧ NB v212 k_ ∧ NB v216 k_ ∧ k_ ≠ gb196) v204 y203) := ⟨h0_⟩
       have n1_ : Aside0 (VN w41 w (fun k_ => QQ P1_ P2_ P3_ w k_ ∧ NB v204 k_ ∧ NB v212 k_ ∧ NB v216 k_ ∧ k_ ≠ gb196) v208 y207) := ⟨h1_⟩
       have n2_ : Aside0 (VN w41 w (fun k_ => QQ P1_ P2_ P3_ w k_ ∧ NB v204 k_ ∧ NB v208 k_ ∧ NB v216 k_ ∧ k_ ≠ gb196) v212 y211) := ⟨h2_⟩
       have n3_ : Aside0 (VN w41 w (fun k_ => QQ P1_ P2_ P3_ w k_ ∧ NB v204 k_ ∧ NB v208 k_ ∧ NB v212 k_ ∧ k_ ≠ gb196) v216 y215) := ⟨h3_⟩
       have n4_ : Aside0 (VV w41 w (fun k_ => QQ P1_ P2_ P3_ w k_ ∧ NB v204 k_ ∧ NB v208 k_ ∧ NB v212 k_ ∧ NB v216 k_ ∧ k_ ≠ gb196) (.slice A1 l1.length c1) l1) := ⟨h4_⟩
       have n5_ : Aside0 (VV w41 w (fun k_ => QQ P1_ P2_ P3_ w k_ ∧ NB v204 k_ ∧ NB v208 k_ ∧ NB v212 k_ ∧ NB v216 k_ ∧ k_ ≠ gb196) (.slice A2 l2.length c2) l2) := ⟨h5_⟩
       have n6_ : Aside0 (VV w41 w (fun k_ => QQ P1_ P2_ P3_ w k_ ∧ NB v204 k_ ∧ NB v208 k_ ∧ NB v212 k_ ∧ NB v216 k_ ∧ k_ ≠ gb196) (.slice A3 l3.length c3) l3) := ⟨h6_⟩
       have n7_ : Aside0 (w41.heap[gb196]? = some (.cells (tabC t195) 24 (0, 0))) := ⟨h7_⟩
       have n8_ : Aside0 (Below w.heap.size w w41) := ⟨h8_⟩
       clear HO_1
       clear HO_2
       clear HO_3
       clear HO_11
       clear BK196
       clear HB
       clear h0_ h1_ h2_ h3_ h4_ h5_ h6_ h7_ h8_
       have HO205 := n0_
       have HO209 := n1_
       have HO213 := n2_
       have HO217 := n3_
       have HO_1 := n4_
       have HO_2 := n5_
       have HO_3 := n6_
       have BK196 := n7_
       have HB := n8_
       clear n0_ n1_ n2_ n3_ n4_ n5_ n6_ n7_ n8_
       have hHeld : w41.heap[gb196]? = some (.cells (tabC t195) 24 (0, 0)) := hS_
       obtain ⟨Ao42, co42, eo42⟩ := Kd.N_slice HO213.out
       (first | subst eo42 | (injection eo42 with f1_ f2_ f3_; have f4_ := f1_.symm; have f5_ := f3_.symm; clear f1_ f2_ f3_; subst f4_; subst f5_))
       refine norm_ (a' := ?_) ?_ ?_
       rotate_left
       ·simp only [putAll, Act.put, sA, sZ, sS]
        rfl
       refine one_ (i := 13) (N := some 70) tq7 rfl rfl (one_of HT_.out (by kernel_rfl)) (by decide) (fun K hK => ?_)
       refine goes_ Try.func15 (by kernel_rfl) rfl #[.agg (tabC t195), .slice Ao42 y211.length co42] (by rfl) rfl rfl (by (try simp only [List.map_toArray, List.map_cons, List.map_nil]); first | done | rfl | (simp only [List.length_drop, List.length_take]; rfl)) ?_
       with_reducible refine (crc_Sum.calls k2 t195 _ _ y211 t214 _ ?side1 ?side2 A25.out).mono ?_
       (case side1 => repeat (first | exact (Kd.N_reads' HO213.out).2.2 | (with_reducible refine Kd.C_alloc ?_ _) | (with_reducible refine Kd.C_drewN ?_ _) | (with_reducible refine Kd.C_drew ?_)))
       (case side2 => exact (Kd.N_reads' HO213.out).2.1)
       rintro e w43 ⟨rfl, hb⟩
       refine ⟨_, rfl, ?_⟩
       replace HO_1 := vB HO_1 hb
       replace HO_2 := vB HO_2 hb
       replace HO_3 := vB HO_3 hb
       replace HO205 := nB HO205 hb
       replace HO209 := nB HO209 hb
       replace HO213 := nB HO213 hb
       replace HO217 := nB HO217 hb
       replace BK196 := bB BK196 hb
       replace HB := hB HB hb
       (try clear hb)
       (try clear hb2)
       (try clear hk)
       (try clear hi)
       refine hK.out _ _ (BK196.out) (fun hHeld => ?_)
       clear hK K
       refine norm_ (a' := ?_) ?_ ?_
       rotate_left
       ·show Act.put _ (some 70) _ = _
        simp only [Act.put, sA, sZ, sS, i64_w, i32_w]
        rfl
       refine pure_ (i := 14) (N := some 71) (v := ?_) (a' := ?_) tq5 rfl rfl (any_of HT_.out (by kernel_rfl)) (fun _ _ _ h => h) (Or.inl ⟨by rfl, ?_⟩) ?_ ?_
       rotate_left
       ·intro w'
        go_simp
        with_reducible rfl
       rotate_left
       ·simp only [Act.put, sA, sZ, sS, i64_w, i32_w]
        rfl
       exact norm_ (by simp only [putAll, Act.put, sA, sZ, sS] <;> rfl) (hJ4_5_8_9_12_13_17 (v204, v208, .slice Ao42 y211.length co42, v216) _ ⟨hHeld, HO205.out, HO209.out, HO213.out, HO217.out, HO_1.out, HO_2.out, HO_3.out, BK196.out, HB.out⟩)
      skip
      rintro ⟨v204, v208, v212⟩ w41 ⟨hS_, h0_, h1_, h2_, h3_, h4_, h5_, h6_, h7_⟩
      have n0_ : Aside0 (VN w41 w (fun k_ => QQ P1_ P2_ P3_ w k_ ∧ NB v208 k_ ∧ NB v212 k_ ∧ k_ ≠ gb196) v204 y203) := ⟨h0_⟩
      have n1_ : Aside0 (VN w41 w (fun k_ => QQ P1_ P2_ P3_ w k_ ∧ NB v204 k_ ∧ NB v212 k_ ∧ k_ ≠ gb196) v208 y207) := ⟨h1_⟩
      have n2_ : Aside0 (VN w41 w (fun k_ => QQ P1_ P2_ P3_ w k_ ∧ NB v204 k_ ∧ NB v208 k_ ∧ k_ ≠ gb196) v212 y211) := ⟨h2_⟩
      have n3_ : Aside0 (VV w41 w (fun k_ => QQ P1_ P2_ P3_ w k_ ∧ NB v204 k_ ∧ NB v208 k_ ∧ NB v212 k_ ∧ k_ ≠ gb196) (.slice A1 l1.length c1) l1) := ⟨h3_⟩
      have n4_ : Aside0 (VV w41 w (fun k_ => QQ P1_ P2_ P3_ w k_ ∧ NB v204 k_ ∧ NB v208 k_ ∧ NB v212 k_ ∧ k_ ≠ gb196) (.slice A2 l2.length c2) l2) := ⟨h4_⟩
      have n5_ : Aside0 (VV w41 w (fun k_ => QQ P1_ P2_ P3_ w k_ ∧ NB v204 k_ ∧ NB v208 k_ ∧ NB v212 k_ ∧ k_ ≠ gb196) (.slice A3 l3.length c3) l3) := ⟨h5_⟩
      have n6_ : Aside0 (w41.heap[gb196]? = some (.cells (tabC t195) 24 (0, 0))) := ⟨h6_⟩
      have n7_ : Aside0 (Below w.heap.size w w41) := ⟨h7_⟩
      clear HO_1
      clear HO_2
      clear HO_3
      clear HO_11
      clear BK196
      clear HB
      clear h0_ h1_ h2_ h3_ h4_ h5_ h6_ h7_
      have HO205 := n0_
      have HO209 := n1_
      have HO213 := n2_
      have HO_1 := n3_
      have HO_2 := n4_
      have HO_3 := n5_
      have BK196 := n6_
      have HB := n7_
      clear n0_ n1_ n2_ n3_ n4_ n5_ n6_ n7_
      have hHeld : w41.heap[gb196]? = some (.cells (tabC t195) 24 (0, 0)) := hS_
      refine norm_ (a' := ?_) ?_ ?_
      rotate_left
      ·simp only [putAll, Act.put, sA, sZ, sS]
       rfl
      refine one_ (i := 17) (N := some 74) tq5 rfl rfl (one_of HT_.out (by kernel_rfl)) (by decide) (fun K hK => ?_)
      refine lit1 (N' := 74) ?hd (ok := (fun k_ => QQ P1_ P2_ P3_ w k_ ∧ NB v204 k_ ∧ NB v208 k_ ∧ NB v212 k_ ∧ k_ ≠ gb196)) (Kd.V_mono (HO_3.out) (fun k_ hk => ⟨hk.1, hk.2.1, hk.2.2.1, hk.2.2.2.1, hk.2.2.2.2⟩)) (fun k_ hk => ⟨.inr (fW HB hk), fN HO205 hk, fN HO209 hk, fN HO213 hk, fB BK196 hk⟩) ?hr HB.out ?_; (case hd => rfl); (case hr => first | (go_simp; done) | (go_simp; rfl))
      intro v216 w42 ho43 hb hg_ hnew_
      clear hg_ hnew_
      rw [← Ny215.out] at ho43
      replace HO_1 := vE HO_1 ho43 hb
      replace HO_2 := vE HO_2 ho43 hb
      replace HO_3 := vE HO_3 ho43 hb
      replace HO205 := nE HO205 ho43 hb
      replace HO209 := nE HO209 ho43 hb
      replace HO213 := nE HO213 ho43 hb
      have HO217 := nL ho43 HB
      replace BK196 := bB BK196 hb
      replace HB := hB HB hb
      clear hb ho43
      refine hK.out _ _ (BK196.out) (fun hHeld => ?_)
      clear hK K
      refine norm_ (a' := ?_) ?_ ?_
      rotate_left
      ·show Act.put _ (some 74) _ = _
       simp only [Act.put, sA, sZ, sS, i64_w, i32_w]
       rfl
      exact norm_ (by simp only [putAll, Act.put, sA, sZ, sS] <;> rfl) (hJ4_5_8_9_12_13_17 (v204, v208, v212, v216) _ ⟨hHeld, (Kd.N_mono HO205.out (fun _ hk => ⟨hk.1.1, hk.1.2.1, hk.1.2.2.1, hk.2, hk.1.2.2.2⟩)), (Kd.N_mono HO209.out (fun _ hk => ⟨hk.1.1, hk.1.2.1, hk.1.2.2.1, hk.2, hk.1.2.2.2⟩)), (Kd.N_mono HO213.out (fun _ hk => ⟨hk.1.1, hk.1.2.1, hk.1.2.2.1, hk.2, hk.1.2.2.2⟩)), HO217.out, (Kd.V_mono HO_1.out (fun _ hk => ⟨hk.1.1, hk.1.2.1, hk.1.2.2.1, hk.1.2.2.2.1, hk.2, hk.1.2.2.2.2⟩)), (Kd.V_mono HO_2.out (fun _ hk => ⟨hk.1.1, hk.1.2.1, hk.1.2.2.1, hk.1.2.2.2.1, hk.2, hk.1.2.2.2.2⟩)), (Kd.V_mono HO_3.out (fun _ hk => ⟨hk.1.1, hk.1.2.1, hk.1.2.2.1, hk.1.2.2.2.1, hk.2, hk.1.2.2.2.2⟩)), BK196.out, HB.out⟩)
     rintro ⟨v204, v208, v212, v216⟩ w43 ⟨hS_, h0_, h1_, h2_, h3_, h4_, h5_, h6_, h7_, h8_⟩
     have n0_ : Aside0 (VN w43 w (fun k_ => QQ P1_ P2_ P3_ w k_ ∧ NB v208 k_ ∧ NB v212 k_ ∧ NB v216 k_ ∧ k_ ≠ gb196) v204 y203) := ⟨h0_⟩
     have n1_ : Aside0 (VN w43 w (fun k_ => QQ P1_ P2_ P3_ w k_ ∧ NB v204 k_ ∧ NB v212 k_ ∧ NB v216 k_ ∧ k_ ≠ gb196) v208 y207) := ⟨h1_⟩
     have n2_ : Aside0 (VN w43 w (fun k_ => QQ P1_ P2_ P3_ w k_ ∧ NB v204 k_ ∧ NB v208 k_ ∧ NB v216 k_ ∧ k_ ≠ gb196) v212 y211) := ⟨h2_⟩
     have n3_ : Aside0 (VN w43 w (fun k_ => QQ P1_ P2_ P3_ w k_ ∧ NB v204 k_ ∧ NB v208 k_ ∧ NB v212 k_ ∧ k_ ≠ gb196) v216 y215) := ⟨h3_⟩
     have n4_ : Aside0 (VV w43 w (fun k_ => QQ P1_ P2_ P3_ w k_ ∧ NB v204 k_ ∧ NB v208 k_ ∧ NB v212 k_ ∧ NB v216 k_ ∧ k_ ≠ gb196) (.slice A1 l1.length c1) l1) := ⟨h4_⟩
     have n5_ : Aside0 (VV w43 w (fun k_ => QQ P1_ P2_ P3_ w k_ ∧ NB v204 k_ ∧ NB v208 k_ ∧ NB v212 k_ ∧ NB v216 k_ ∧ k_ ≠ gb196) (.slice A2 l2.length c2) l2) := ⟨h5_⟩
     have n6_ : Aside0 (VV w43 w (fun k_ => QQ P1_ P2_ P3_ w k_ ∧ NB v204 k_ ∧ NB v208 k_ ∧ NB v212 k_ ∧ NB v216 k_ ∧ k_ ≠ gb196) (.slice A3 l3.length c3) l3) := ⟨h6_⟩
     have n7_ : Aside0 (w43.heap[gb196]? = some (.cells (tabC t195) 24 (0, 0))) := ⟨h7_⟩
     have n8_ : Aside0 (Below w.heap.size w w43) := ⟨h8_⟩
     clear HO_1
     clear HO_2
     clear HO_3
     clear HO_11
     clear BK196
     clear HB
     clear h0_ h1_ h2_ h3_ h4_ h5_ h6_ h7_ h8_
     have HO205 := n0_
     have HO209 := n1_
     have HO213 := n2_
     have HO217 := n3_
     have HO_1 := n4_
     have HO_2 := n5_
     have HO_3 := n6_
     have BK196 := n7_
     have HB := n8_
     clear n0_ n1_ n2_ n3_ n4_ n5_ n6_ n7_ n8_
     have hHeld : w43.heap[gb196]? = some (.cells (tabC t195) 24 (0, 0)) := hS_
     obtain ⟨Ao44, co44, eo44⟩ := Kd.N_slice HO217.out
     (first | subst eo44 | (injection eo44 with f1_ f2_ f3_; have f4_ := f1_.symm; have f5_ := f3_.symm; clear f1_ f2_ f3_; subst f4_; subst f5_))
     refine norm_ (a' := ?_) ?_ ?_
     rotate_left
     ·simp only [putAll, Act.put, sA, sZ, sS]
      rfl
     refine one_ (i := 18) (N := some 75) tq4 rfl rfl (one_of HT_.out (by kernel_rfl)) (by decide) (fun K hK => ?_)
     refine goes_ Try.func15 (by kernel_rfl) rfl #[.agg (tabC t195), .slice Ao44 y215.length co44] (by rfl) rfl rfl (by (try simp only [List.map_toArray, List.map_cons, List.map_nil]); first | done | rfl | (simp only [List.length_drop, List.length_take]; rfl)) ?_
     with_reducible refine (crc_Sum.calls k2 t195 _ _ y215 t218 _ ?side1 ?side2 A26.out).mono ?_
     (case side1 => repeat (first | exact (Kd.N_reads' HO217.out).2.2 | (with_reducible refine Kd.C_alloc ?_ _) | (with_reducible refine Kd.C_drewN ?_ _) | (with_reducible refine Kd.C_drew ?_)))
     (case side2 => exact (Kd.N_reads' HO217.out).2.1)
     rintro e w45 ⟨rfl, hb⟩
     refine ⟨_, rfl, ?_⟩
     replace HO_1 := vB HO_1 hb
     replace HO_2 := vB HO_2 hb
     replace HO_3 := vB HO_3 hb
     replace HO205 := nB HO205 hb
     replace HO209 := nB HO209 hb
     replace HO213 := nB HO213 hb
     replace HO217 := nB HO217 hb
     replace BK196 := bB BK196 hb
     replace HB := hB HB hb
     (try clear hb)
     (try clear hb2)
     (try clear hk)
     (try clear hi)
     refine hK.out _ _ (BK196.out) (fun hHeld => ?_)
     clear hK K
     refine norm_ (a' := ?_) ?_ ?_
     rotate_left
     ·show Act.put _ (some 75) _ = _
      simp only [Act.put, sA, sZ, sS, i64_w, i32_w]
      rfl
     refine pure_ (i := 19) (N := some 76) (v := ?_) (a' := ?_) tq3 rfl rfl (any_of HT_.out (by kernel_rfl)) (fun _ _ _ h => h) (Or.inl ⟨by rfl, ?_⟩) ?_ ?_
     rotate_left
     ·intro w'
      go_simp
      with_reducible rfl
     rotate_left
     ·simp only [Act.put, sA, sZ, sS, i64_w, i32_w]
      rfl
     refine pure_ (i := 20) (N := some 77) (v := ?_) (a' := ?_) tq2 rfl rfl (any_of HT_.out (by kernel_rfl)) (fun _ _ _ h => h) (Or.inl ⟨by rfl, ?_⟩) ?_ ?_
     rotate_left
     ·intro w'
      go_simp
      with_reducible rfl
     rotate_left
     ·simp only [Act.put, sA, sZ, sS, i64_w, i32_w]
      rfl
     refine pure_ (i := 21) (N := some 78) (v := ?_) (a' := ?_) tq1 rfl rfl (any_of HT_.out (by kernel_rfl)) (fun _ _ _ h => h) (Or.inl ⟨by rfl, ?_⟩) ?_ ?_
     rotate_left
     ·intro w'
      go_simp
      with_reducible rfl
     rotate_left
     ·simp only [Act.put, sA, sZ, sS, i64_w, i32_w]
      rfl
     refine pure_ (i := 22) (N := some 8) (v := ?_) (a' := ?_) tq0 rfl rfl (any_of HT_.out (by kernel_rfl)) (fun _ _ _ h => h) (Or.inl ⟨by rfl, ?_⟩) ?_ ?_
     rotate_left
     ·intro w'
      go_simp
      with_reducible rfl
     rotate_left
     ·simp only [Act.put, sA, sZ, sS, i64_w, i32_w]
      rfl
     refine done_ (done_of HT_.out (by kernel_rfl)) ?_
     try go_wp2_with (first | ((with_reducible refine gate_load24 (x := .tmp _) rfl ?_); (try (refine gate_guard (by rfl) ?_; dsimp only)); refine tab_load rfl rfl rfl (Aside0.out (by assumption)) ?_) | ((with_reducible refine gate_load22 (x := .tmp _) rfl ?_); (try (refine gate_guard (by rfl) ?_; dsimp only)); refine tab_elem _ rfl rfl rfl (Aside0.out (by assumption)) (of_decide_eq_true (by first | (with_reducible assumption) | assumption)) (of_decide_eq_true (by first | (with_reducible assumption) | assumption)) ?_) | ((with_reducible refine gate_store24 (x := .tmp _) (v := .tmp _) rfl ?_); refine tab_store rfl rfl rfl rfl rfl BK196.out ?_; intro ws_ hs_ hS_ hK_; have HKs_ := Aside0.mk hK_; clear hK_; have BKOs_ := Aside0.mk BK196.out; have n0_ := Aside0.mk hs_; have n1_ := Aside0.mk (hS_ _ _ GE196.out HB.out); clear BK196; clear HB; have BK196 := n0_; have HB := n1_; clear n0_ n1_ hs_ hS_))
     go_ret
     exact ⟨by first | rfl | (simp [errW_none, errW_some] <;> rfl) | (simp [*, errW_none, errW_some] <;> rfl), by repeat (first | (with_reducible first | exact HB.out | apply below_alloc | apply pw_below_drewN | apply below_drew1 | refine below_set ?_ GE196.out) | exact HB.out)⟩


end Go.Proofs.Ytdoofhbapenhnaa.HCrcLinear
