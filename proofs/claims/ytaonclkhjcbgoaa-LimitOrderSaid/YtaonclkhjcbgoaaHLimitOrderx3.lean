-- Written by the session's program hy.py.
import Derived.Test.YtaonclkhjcbgoaaHLimitOrderx0
import Derived.Test.YtaonclkhjcbgoaaHLimitOrderx1
import Derived.Test.YtaonclkhjcbgoaaHLimitOrderx2
namespace Go.Proofs.Ytaonclkhjcbgoaa.HLimitOrder
open Go.RowKit Go.Proofs.YtaonclkhjcbgoaaW.PrintWords Go.Proofs.YtaonclkhjcbgoaaW.PrintLast Go.Proofs.YtaonclkhjcbgoaaW.PrintMore
attribute [local go_sem] max2_int min2_int max_two min_two max_three min_three max_four min_four   -- for this text's walks alone
set_option linter.unusedVariables false
set_option linter.unusedSimpArgs false

attribute [local go_sem high] eqA23
/-! ### limit_Admits: function 20 -/
def limit_Admits.f (a0_0 : Int) (a0_1 : Int) (a0_2 : Int) (a0_3 : Int) (a0_4 : Int) (a1_0 : Int) (a1_1 : Int) (a1_2 : Int) (a1_3 : Int) (a1_4 : Int) : Option (Bool) := (limit_fair.f a0_0 a0_1 a0_2 a0_3 a0_4).bind fun bt161 => ((limit_fair.f a1_0 a1_1 a1_2 a1_3 a1_4).bind fun bt166 => (some (bt166.1 == (mn bt161.1 bt166.1) && (bt166.2.1 == (mn bt161.2.1 bt166.2.1) && (bt166.2.2.1 == (mn bt161.2.2.1 bt166.2.2.1) && (bt166.2.2.2.1 == (mn bt161.2.2.2.1 bt166.2.2.2.1) && (bt166.2.2.2.2 == (mn bt161.2.2.2.2 bt166.2.2.2.2))))))))
def limit_Admits.T1 : Bool × List (List Nat × List Nat) := (true, [([], []), ([0], [0]), ([], []), ([2, 1], [2]), ([], []), ([], []), ([4, 1, 3, 0, 1, 4, 5], [1, 4]), ([5, 3, 6, 0, 1, 2, 3, 4, 5, 6], [3, 5])])
def limit_Admits.B1 : List Nat := [0, 1, 0, 7, 0, 0, 63, 127]
theorem limit_Admits.tab1 : rtab .any (opsOf Try.f20 1) = limit_Admits.T1 := by kernel_rfl
theorem limit_Admits.bits1 : waitsOk limit_Admits.T1.2 limit_Admits.B1 = true := by kernel_rfl
set_option maxHeartbeats 8000000 in
set_option maxRecDepth 100000 in
theorem limit_Admits.calls (a0_0 : Int) (a0_1 : Int) (a0_2 : Int) (a0_3 : Int) (a0_4 : Int) (a1_0 : Int) (a1_1 : Int) (a1_2 : Int) (a1_3 : Int) (a1_4 : Int) (r : Bool) (w : World) (h : limit_Admits.f a0_0 a0_1 a0_2 a0_3 a0_4 a1_0 a1_1 a1_2 a1_3 a1_4 = some r) :
    Calls Try.prog 20 #[.agg #[.int .i64 a0_0, .int .i64 a0_1, .int .i64 a0_2, .int .i64 a0_3, .int .i64 a0_4], .agg #[.int .i64 a1_0, .int .i64 a1_1, .int .i64 a1_2, .int .i64 a1_3, .int .i64 a1_4]] w fun e w' => e = .returned (.bool r) ∧ Below w.heap.size w w' := by
  have hu23 := Try.underlying23
  have HB := Aside0.mk (Below.refl w.heap.size w)
  have H : ((limit_fair.f a0_0 a0_1 a0_2 a0_3 a0_4).bind fun bt161 => ((limit_fair.f a1_0 a1_1 a1_2 a1_3 a1_4).bind fun bt166 => (some (bt166.1 == (mn bt161.1 bt166.1) && (bt166.2.1 == (mn bt161.2.1 bt166.2.1) && (bt166.2.2.1 == (mn bt161.2.2.1 bt166.2.2.1) && (bt166.2.2.2.1 == (mn bt161.2.2.2.1 bt166.2.2.2.1) && (bt166.2.2.2.2 == (mn bt161.2.2.2.2 bt166.2.2.2.2))))))))) = some r := h
  clear h
  replace H := Option.bind_eq_some_iff.mp H
  obtain ⟨⟨t161, t162, t163, t164, t165⟩, A30, H⟩ := H
  replace H : ((limit_fair.f a1_0 a1_1 a1_2 a1_3 a1_4).bind fun bt166 => (some (bt166.1 == (mn t161 bt166.1) && (bt166.2.1 == (mn t162 bt166.2.1) && (bt166.2.2.1 == (mn t163 bt166.2.2.1) && (bt166.2.2.2.1 == (mn t164 bt166.2.2.2.1) && (bt166.2.2.2.2 == (mn t165 bt166.2.2.2.2)))))))) = some r := H
  have A3 := Aside0.mk A30
  clear A30
  replace H := Option.bind_eq_some_iff.mp H
  obtain ⟨⟨t166, t167, t168, t169, t170⟩, A40, H⟩ := H
  replace H : (some (t166 == (mn t161 t166) && (t167 == (mn t162 t167) && (t168 == (mn t163 t168) && (t169 == (mn t164 t169) && (t170 == (mn t165 t170))))))) = some r := H
  have A4 := Aside0.mk A40
  clear A40
  obtain ⟨ji5, hji5⟩ : ∃ j_ : Int, (mn t161 t166) = j_ := ⟨_, rfl⟩
  replace H : (some (t166 == (ji5) && (t167 == (mn t162 t167) && (t168 == (mn t163 t168) && (t169 == (mn t164 t169) && (t170 == (mn t165 t170))))))) = some r := by first | (rw [hji5] at H; exact H) | (simp only [hji5] at H ⊢; exact H)
  (try rw [hji5] at A3)
  (try rw [hji5] at A4)
  have hji5_ : (if t166 < t161 then t166 else t161) = ji5 := hji5
  obtain ⟨ji6, hji6⟩ : ∃ j_ : Int, (mn t162 t167) = j_ := ⟨_, rfl⟩
  replace H : (some (t166 == (ji5) && (t167 == (ji6) && (t168 == (mn t163 t168) && (t169 == (mn t164 t169) && (t170 == (mn t165 t170))))))) = some r := by first | (rw [hji6] at H; exact H) | (simp only [hji6] at H ⊢; exact H)
  (try rw [hji6] at A3)
  (try rw [hji6] at A4)
  have hji6_ : (if t167 < t162 then t167 else t162) = ji6 := hji6
  obtain ⟨ji7, hji7⟩ : ∃ j_ : Int, (mn t163 t168) = j_ := ⟨_, rfl⟩
  replace H : (some (t166 == (ji5) && (t167 == (ji6) && (t168 == (ji7) && (t169 == (mn t164 t169) && (t170 == (mn t165 t170))))))) = some r := by first | (rw [hji7] at H; exact H) | (simp only [hji7] at H ⊢; exact H)
  (try rw [hji7] at A3)
  (try rw [hji7] at A4)
  have hji7_ : (if t168 < t163 then t168 else t163) = ji7 := hji7
  obtain ⟨ji8, hji8⟩ : ∃ j_ : Int, (mn t164 t169) = j_ := ⟨_, rfl⟩
  replace H : (some (t166 == (ji5) && (t167 == (ji6) && (t168 == (ji7) && (t169 == (ji8) && (t170 == (mn t165 t170))))))) = some r := by first | (rw [hji8] at H; exact H) | (simp only [hji8] at H ⊢; exact H)
  (try rw [hji8] at A3)
  (try rw [hji8] at A4)
  have hji8_ : (if t169 < t164 then t169 else t164) = ji8 := hji8
  obtain ⟨ji9, hji9⟩ : ∃ j_ : Int, (mn t165 t170) = j_ := ⟨_, rfl⟩
  replace H : (some (t166 == (ji5) && (t167 == (ji6) && (t168 == (ji7) && (t169 == (ji8) && (t170 == (ji9))))))) = some r := by first | (rw [hji9] at H; exact H) | (simp only [hji9] at H ⊢; exact H)
  (try rw [hji9] at A3)
  (try rw [hji9] at A4)
  have hji9_ : (if t170 < t165 then t170 else t165) = ji9 := hji9
  obtain rfl := Option.some.inj H
  go_enter Try.func20, Try.ntmps20
  try go_wp2_with (first | ((with_reducible refine gate_dst (N := 2) rfl ?_); refine box_event ?hg (N := 2) ?hd (cs := #[.int .i64 a0_0, .int .i64 a0_1, .int .i64 a0_2, .int .i64 a0_3, .int .i64 a0_4]) (t := 23) ?hr ?_; (case hd => rfl); (case hg => rfl); (case hr => first | (go_simp; done) | (go_simp; rfl)); intro gb159 hg w10 hbox hb; have n0_ := Aside0.mk (below_step (by repeat (first | (with_reducible first | exact HB.out | apply below_alloc | apply pw_below_drewN | apply below_drew1) | exact HB.out)) hb); have n1_ := Aside0.mk (hbox); have n2_ := Aside0.mk ((by rw [hg]; exact (below_size (by repeat (first | (with_reducible first | exact HB.out | apply below_alloc | apply pw_below_drewN | apply below_drew1) | exact HB.out))) : w.heap.size ≤ gb159)); have n3_ := Aside0.mk ((by rw [hg]; exact (below_size (by repeat (first | (with_reducible first | exact HB.out | apply below_alloc | apply pw_below_drewN | apply below_drew1) | exact HB.out))) : w.heap.size ≤ gb159)); clear HB; have HB := n0_; have BK159 := n1_; have GW159 := n2_; have GE159 := n3_; clear n0_ n1_ n2_ n3_; clear hb hbox hg) | ((with_reducible refine gate_dst (N := 3) rfl ?_); refine box_event ?hg (N := 3) ?hd (cs := #[.int .i64 a1_0, .int .i64 a1_1, .int .i64 a1_2, .int .i64 a1_3, .int .i64 a1_4]) (t := 23) ?hr ?_; (case hd => rfl); (case hg => rfl); (case hr => first | (go_simp; done) | (go_simp; rfl)); intro gb160 hg w11 hbox hb; have n0_ := Aside0.mk (blk_below (g := gb159) (o := .cells #[.int .i64 a0_0, .int .i64 a0_1, .int .i64 a0_2, .int .i64 a0_3, .int .i64 a0_4] 23 (0, 0)) (by (with_reducible repeat (first | refine blk_drewN ?_ _ | refine blk_drew ?_ | refine blk_alloc ?_ _)); exact BK159.out) hb); have n1_ := Aside0.mk (below_step (by repeat (first | (with_reducible first | exact HB.out | apply below_alloc | apply pw_below_drewN | apply below_drew1 | refine below_set ?_ GE159.out) | exact HB.out)) hb); have n2_ := Aside0.mk (hbox); have n3_ := Aside0.mk ((by rw [hg]; exact (below_size (by repeat (first | (with_reducible first | exact HB.out | apply below_alloc | apply pw_below_drewN | apply below_drew1 | refine below_set ?_ GE159.out) | exact HB.out))) : w.heap.size ≤ gb160)); have n4_ := Aside0.mk ((by rw [hg]; exact (below_size (by repeat (first | (with_reducible first | exact HB.out | apply below_alloc | apply pw_below_drewN | apply below_drew1 | refine below_set ?_ GE159.out) | exact HB.out))) : w.heap.size ≤ gb160)); have n5_ := Aside0.mk ((by rw [hg]; exact Nat.ne_of_lt (blk_lt (g := gb159) (o := .cells #[.int .i64 a0_0, .int .i64 a0_1, .int .i64 a0_2, .int .i64 a0_3, .int .i64 a0_4] 23 (0, 0)) (by (with_reducible repeat (first | refine blk_drewN ?_ _ | refine blk_drew ?_ | refine blk_alloc ?_ _)); exact BK159.out)) : gb159 ≠ gb160)); have n6_ := Aside0.mk ((by rw [hg]; exact Nat.ne_of_gt (blk_lt (g := gb159) (o := .cells #[.int .i64 a0_0, .int .i64 a0_1, .int .i64 a0_2, .int .i64 a0_3, .int .i64 a0_4] 23 (0, 0)) (by (with_reducible repeat (first | refine blk_drewN ?_ _ | refine blk_drew ?_ | refine blk_alloc ?_ _)); exact BK159.out)) : gb160 ≠ gb159)); clear BK159; clear HB; have BK159 := n0_; have HB := n1_; have BK160 := n2_; have GW160 := n3_; have GE160 := n4_; have NB159_160 := n5_; have NB160_159 := n6_; clear n0_ n1_ n2_ n3_ n4_ n5_ n6_; clear hb hbox hg))
  have n0_ := Aside0.mk (blk_drew BK159.out)
  have n1_ := Aside0.mk (blk_drew BK160.out)
  have n2_ := Aside0.mk (below_drew1 HB.out)
  clear BK159
  clear BK160
  clear HB
  have BK159 := n0_
  have BK160 := n1_
  have HB := n2_
  clear n0_ n1_ n2_
  refine start_ (n := 8) (S := fun w' => w'.cell? ⟨gb159, 0, none⟩ = some (.int .i64 a0_0) ∧ w'.cell? ⟨gb159, 1, none⟩ = some (.int .i64 a0_1) ∧ w'.cell? ⟨gb159, 2, none⟩ = some (.int .i64 a0_2) ∧ w'.cell? ⟨gb159, 3, none⟩ = some (.int .i64 a0_3) ∧ w'.cell? ⟨gb159, 4, none⟩ = some (.int .i64 a0_4) ∧ w'.cell? ⟨gb160, 0, none⟩ = some (.int .i64 a1_0) ∧ w'.cell? ⟨gb160, 1, none⟩ = some (.int .i64 a1_1) ∧ w'.cell? ⟨gb160, 2, none⟩ = some (.int .i64 a1_2) ∧ w'.cell? ⟨gb160, 3, none⟩ = some (.int .i64 a1_3) ∧ w'.cell? ⟨gb160, 4, none⟩ = some (.int .i64 a1_4)) (ds := []) #[false, false, false, false, false, false, false, false] (by kernel_rfl) rfl rfl ⟨(blk_cell BK159.out 0).trans rfl, (blk_cell BK159.out 1).trans rfl, (blk_cell BK159.out 2).trans rfl, (blk_cell BK159.out 3).trans rfl, (blk_cell BK159.out 4).trans rfl, (blk_cell BK160.out 0).trans rfl, (blk_cell BK160.out 1).trans rfl, (blk_cell BK160.out 2).trans rfl, (blk_cell BK160.out 3).trans rfl, (blk_cell BK160.out 4).trans rfl⟩ (fun hHeld => ?_); refine with_tabW limit_Admits.tab1 limit_Admits.bits1 (fun HT_ HW_ => ?_)
  generalize w11.drew = w12 at BK159 BK160 HB hHeld ⊢
  refine take_ (i := 0) (N := some 7) (v := ?_) (a' := ?_) #[true, false, false, false, false, false, false, false] rfl rfl (take_ofW HT_.out HW_.out (by kernel_rfl)) (fun _ _ _ h => h) (Or.inl ⟨by rfl, ?_⟩) hHeld ?_ ?_
  rotate_left
  · rintro w' ⟨s0, s1, s2, s3, s4, s5, s6, s7, s8, s9⟩
    go_simp
    with_reducible rfl
  rotate_left
  · simp only [Act.put, List.setIfInBounds_toArray, List.set_cons_zero, List.set_cons_succ, i64_w, i32_w]
    rfl
  refine take_ (i := 2) (N := some 9) (v := ?_) (a' := ?_) #[true, false, true, false, false, false, false, false] rfl rfl (take_ofW HT_.out HW_.out (by kernel_rfl)) (fun _ _ _ h => h) (Or.inl ⟨by rfl, ?_⟩) hHeld ?_ ?_
  rotate_left
  · rintro w' ⟨s0, s1, s2, s3, s4, s5, s6, s7, s8, s9⟩
    go_simp
    with_reducible rfl
  rotate_left
  · simp only [Act.put, List.setIfInBounds_toArray, List.set_cons_zero, List.set_cons_succ, i64_w, i32_w]
    rfl
  refine join_ (σ := Nat × Nat) 2 #[true, true, true, true, true, true, false, false] (fun s_ => [(8, .agg #[.int .i64 t161, .int .i64 t162, .int .i64 t163, .int .i64 t164, .int .i64 t165]), (10, .agg #[.int .i64 t166, .int .i64 t167, .int .i64 t168, .int .i64 t169, .int .i64 t170]), (5, .pointer (some ⟨s_.1, 0, none⟩)), (6, .pointer (some ⟨s_.2, 0, none⟩))]) (fun s_ w' => (w'.cell? ⟨gb159, 0, none⟩ = some (.int .i64 a0_0) ∧ w'.cell? ⟨gb159, 1, none⟩ = some (.int .i64 a0_1) ∧ w'.cell? ⟨gb159, 2, none⟩ = some (.int .i64 a0_2) ∧ w'.cell? ⟨gb159, 3, none⟩ = some (.int .i64 a0_3) ∧ w'.cell? ⟨gb159, 4, none⟩ = some (.int .i64 a0_4) ∧ w'.cell? ⟨gb160, 0, none⟩ = some (.int .i64 a1_0) ∧ w'.cell? ⟨gb160, 1, none⟩ = some (.int .i64 a1_1) ∧ w'.cell? ⟨gb160, 2, none⟩ = some (.int .i64 a1_2) ∧ w'.cell? ⟨gb160, 3, none⟩ = some (.int .i64 a1_3) ∧ w'.cell? ⟨gb160, 4, none⟩ = some (.int .i64 a1_4)) ∧ (w'.heap[gb159]? = some (.cells #[.int .i64 a0_0, .int .i64 a0_1, .int .i64 a0_2, .int .i64 a0_3, .int .i64 a0_4] 23 (0, 0))) ∧ (w'.heap[gb160]? = some (.cells #[.int .i64 a1_0, .int .i64 a1_1, .int .i64 a1_2, .int .i64 a1_3, .int .i64 a1_4] 23 (0, 0))) ∧ (w'.heap[s_.1]? = some (.cells #[.int .i64 0, .int .i64 0, .int .i64 0, .int .i64 0, .int .i64 0] 23 (0, 0))) ∧ (w'.heap[s_.2]? = some (.cells #[.int .i64 0, .int .i64 0, .int .i64 0, .int .i64 0, .int .i64 0] 23 (0, 0))) ∧ (w.heap.size ≤ s_.1) ∧ (w.heap.size ≤ s_.1) ∧ (gb159 ≠ s_.1) ∧ (s_.1 ≠ gb159) ∧ (gb160 ≠ s_.1) ∧ (s_.1 ≠ gb160) ∧ (s_.2 ≠ s_.1) ∧ (s_.1 ≠ s_.2) ∧ (w.heap.size ≤ s_.2) ∧ (w.heap.size ≤ s_.2) ∧ (gb159 ≠ s_.2) ∧ (s_.2 ≠ gb159) ∧ (gb160 ≠ s_.2) ∧ (s_.2 ≠ gb160) ∧ (Below w.heap.size w w')) ?_ ?_
  rotate_left
  · intro hJ1_3_4_5
    refine join_ (σ := Nat) 3 #[true, true, true, true, true, false, false, false] (fun s_ => [(8, .agg #[.int .i64 t161, .int .i64 t162, .int .i64 t163, .int .i64 t164, .int .i64 t165]), (10, .agg #[.int .i64 t166, .int .i64 t167, .int .i64 t168, .int .i64 t169, .int .i64 t170]), (5, .pointer (some ⟨s_, 0, none⟩))]) (fun s_ w' => (w'.cell? ⟨gb159, 0, none⟩ = some (.int .i64 a0_0) ∧ w'.cell? ⟨gb159, 1, none⟩ = some (.int .i64 a0_1) ∧ w'.cell? ⟨gb159, 2, none⟩ = some (.int .i64 a0_2) ∧ w'.cell? ⟨gb159, 3, none⟩ = some (.int .i64 a0_3) ∧ w'.cell? ⟨gb159, 4, none⟩ = some (.int .i64 a0_4) ∧ w'.cell? ⟨gb160, 0, none⟩ = some (.int .i64 a1_0) ∧ w'.cell? ⟨gb160, 1, none⟩ = some (.int .i64 a1_1) ∧ w'.cell? ⟨gb160, 2, none⟩ = some (.int .i64 a1_2) ∧ w'.cell? ⟨gb160, 3, none⟩ = some (.int .i64 a1_3) ∧ w'.cell? ⟨gb160, 4, none⟩ = some (.int .i64 a1_4)) ∧ (w'.heap[gb159]? = some (.cells #[.int .i64 a0_0, .int .i64 a0_1, .int .i64 a0_2, .int .i64 a0_3, .int .i64 a0_4] 23 (0, 0))) ∧ (w'.heap[gb160]? = some (.cells #[.int .i64 a1_0, .int .i64 a1_1, .int .i64 a1_2, .int .i64 a1_3, .int .i64 a1_4] 23 (0, 0))) ∧ (w'.heap[s_]? = some (.cells #[.int .i64 0, .int .i64 0, .int .i64 0, .int .i64 0, .int .i64 0] 23 (0, 0))) ∧ (w.heap.size ≤ s_) ∧ (w.heap.size ≤ s_) ∧ (gb159 ≠ s_) ∧ (s_ ≠ gb159) ∧ (gb160 ≠ s_) ∧ (s_ ≠ gb160) ∧ (Below w.heap.size w w')) ?_ ?_
    rotate_left
    · intro hJ1_3_4
      refine join_ (σ := Nat) 3 #[true, true, true, true, false, true, false, false] (fun s_ => [(8, .agg #[.int .i64 t161, .int .i64 t162, .int .i64 t163, .int .i64 t164, .int .i64 t165]), (10, .agg #[.int .i64 t166, .int .i64 t167, .int .i64 t168, .int .i64 t169, .int .i64 t170]), (6, .pointer (some ⟨s_, 0, none⟩))]) (fun s_ w' => (w'.cell? ⟨gb159, 0, none⟩ = some (.int .i64 a0_0) ∧ w'.cell? ⟨gb159, 1, none⟩ = some (.int .i64 a0_1) ∧ w'.cell? ⟨gb159, 2, none⟩ = some (.int .i64 a0_2) ∧ w'.cell? ⟨gb159, 3, none⟩ = some (.int .i64 a0_3) ∧ w'.cell? ⟨gb159, 4, none⟩ = some (.int .i64 a0_4) ∧ w'.cell? ⟨gb160, 0, none⟩ = some (.int .i64 a1_0) ∧ w'.cell? ⟨gb160, 1, none⟩ = some (.int .i64 a1_1) ∧ w'.cell? ⟨gb160, 2, none⟩ = some (.int .i64 a1_2) ∧ w'.cell? ⟨gb160, 3, none⟩ = some (.int .i64 a1_3) ∧ w'.cell? ⟨gb160, 4, none⟩ = some (.int .i64 a1_4)) ∧ (w'.heap[gb159]? = some (.cells #[.int .i64 a0_0, .int .i64 a0_1, .int .i64 a0_2, .int .i64 a0_3, .int .i64 a0_4] 23 (0, 0))) ∧ (w'.heap[gb160]? = some (.cells #[.int .i64 a1_0, .int .i64 a1_1, .int .i64 a1_2, .int .i64 a1_3, .int .i64 a1_4] 23 (0, 0))) ∧ (w'.heap[s_]? = some (.cells #[.int .i64 0, .int .i64 0, .int .i64 0, .int .i64 0, .int .i64 0] 23 (0, 0))) ∧ (w.heap.size ≤ s_) ∧ (w.heap.size ≤ s_) ∧ (gb159 ≠ s_) ∧ (s_ ≠ gb159) ∧ (gb160 ≠ s_) ∧ (s_ ≠ gb160) ∧ (Below w.heap.size w w')) ?_ ?_
      rotate_left
      · intro hJ1_3_5
        refine join_ (σ := Nat × Nat) 3 #[true, true, true, false, true, true, false, false] (fun s_ => [(8, .agg #[.int .i64 t161, .int .i64 t162, .int .i64 t163, .int .i64 t164, .int .i64 t165]), (5, .pointer (some ⟨s_.1, 0, none⟩)), (6, .pointer (some ⟨s_.2, 0, none⟩))]) (fun s_ w' => (w'.cell? ⟨gb159, 0, none⟩ = some (.int .i64 a0_0) ∧ w'.cell? ⟨gb159, 1, none⟩ = some (.int .i64 a0_1) ∧ w'.cell? ⟨gb159, 2, none⟩ = some (.int .i64 a0_2) ∧ w'.cell? ⟨gb159, 3, none⟩ = some (.int .i64 a0_3) ∧ w'.cell? ⟨gb159, 4, none⟩ = some (.int .i64 a0_4) ∧ w'.cell? ⟨gb160, 0, none⟩ = some (.int .i64 a1_0) ∧ w'.cell? ⟨gb160, 1, none⟩ = some (.int .i64 a1_1) ∧ w'.cell? ⟨gb160, 2, none⟩ = some (.int .i64 a1_2) ∧ w'.cell? ⟨gb160, 3, none⟩ = some (.int .i64 a1_3) ∧ w'.cell? ⟨gb160, 4, none⟩ = some (.int .i64 a1_4)) ∧ (w'.heap[gb159]? = some (.cells #[.int .i64 a0_0, .int .i64 a0_1, .int .i64 a0_2, .int .i64 a0_3, .int .i64 a0_4] 23 (0, 0))) ∧ (w'.heap[gb160]? = some (.cells #[.int .i64 a1_0, .int .i64 a1_1, .int .i64 a1_2, .int .i64 a1_3, .int .i64 a1_4] 23 (0, 0))) ∧ (w'.heap[s_.1]? = some (.cells #[.int .i64 0, .int .i64 0, .int .i64 0, .int .i64 0, .int .i64 0] 23 (0, 0))) ∧ (w'.heap[s_.2]? = some (.cells #[.int .i64 0, .int .i64 0, .int .i64 0, .int .i64 0, .int .i64 0] 23 (0, 0))) ∧ (w.heap.size ≤ s_.1) ∧ (w.heap.size ≤ s_.1) ∧ (gb159 ≠ s_.1) ∧ (s_.1 ≠ gb159) ∧ (gb160 ≠ s_.1) ∧ (s_.1 ≠ gb160) ∧ (s_.2 ≠ s_.1) ∧ (s_.1 ≠ s_.2) ∧ (w.heap.size ≤ s_.2) ∧ (w.heap.size ≤ s_.2) ∧ (gb159 ≠ s_.2) ∧ (s_.2 ≠ gb159) ∧ (gb160 ≠ s_.2) ∧ (s_.2 ≠ gb160) ∧ (Below w.heap.size w w')) ?_ ?_
        rotate_left
        · intro hJ1_4_5
          refine join_ (σ := Unit) 4 #[true, true, true, true, false, false, false, false] (fun s_ => [(8, .agg #[.int .i64 t161, .int .i64 t162, .int .i64 t163, .int .i64 t164, .int .i64 t165]), (10, .agg #[.int .i64 t166, .int .i64 t167, .int .i64 t168, .int .i64 t169, .int .i64 t170])]) (fun s_ w' => (w'.cell? ⟨gb159, 0, none⟩ = some (.int .i64 a0_0) ∧ w'.cell? ⟨gb159, 1, none⟩ = some (.int .i64 a0_1) ∧ w'.cell? ⟨gb159, 2, none⟩ = some (.int .i64 a0_2) ∧ w'.cell? ⟨gb159, 3, none⟩ = some (.int .i64 a0_3) ∧ w'.cell? ⟨gb159, 4, none⟩ = some (.int .i64 a0_4) ∧ w'.cell? ⟨gb160, 0, none⟩ = some (.int .i64 a1_0) ∧ w'.cell? ⟨gb160, 1, none⟩ = some (.int .i64 a1_1) ∧ w'.cell? ⟨gb160, 2, none⟩ = some (.int .i64 a1_2) ∧ w'.cell? ⟨gb160, 3, none⟩ = some (.int .i64 a1_3) ∧ w'.cell? ⟨gb160, 4, none⟩ = some (.int .i64 a1_4)) ∧ (w'.heap[gb159]? = some (.cells #[.int .i64 a0_0, .int .i64 a0_1, .int .i64 a0_2, .int .i64 a0_3, .int .i64 a0_4] 23 (0, 0))) ∧ (w'.heap[gb160]? = some (.cells #[.int .i64 a1_0, .int .i64 a1_1, .int .i64 a1_2, .int .i64 a1_3, .int .i64 a1_4] 23 (0, 0))) ∧ (Below w.heap.size w w')) ?_ ?_
          rotate_left
          · intro hJ1_3
            refine join_ (σ := Nat) 4 #[true, true, true, false, true, false, false, false] (fun s_ => [(8, .agg #[.int .i64 t161, .int .i64 t162, .int .i64 t163, .int .i64 t164, .int .i64 t165]), (5, .pointer (some ⟨s_, 0, none⟩))]) (fun s_ w' => (w'.cell? ⟨gb159, 0, none⟩ = some (.int .i64 a0_0) ∧ w'.cell? ⟨gb159, 1, none⟩ = some (.int .i64 a0_1) ∧ w'.cell? ⟨gb159, 2, none⟩ = some (.int .i64 a0_2) ∧ w'.cell? ⟨gb159, 3, none⟩ = some (.int .i64 a0_3) ∧ w'.cell? ⟨gb159, 4, none⟩ = some (.int .i64 a0_4) ∧ w'.cell? ⟨gb160, 0, none⟩ = some (.int .i64 a1_0) ∧ w'.cell? ⟨gb160, 1, none⟩ = some (.int .i64 a1_1) ∧ w'.cell? ⟨gb160, 2, none⟩ = some (.int .i64 a1_2) ∧ w'.cell? ⟨gb160, 3, none⟩ = some (.int .i64 a1_3) ∧ w'.cell? ⟨gb160, 4, none⟩ = some (.int .i64 a1_4)) ∧ (w'.heap[gb159]? = some (.cells #[.int .i64 a0_0, .int .i64 a0_1, .int .i64 a0_2, .int .i64 a0_3, .int .i64 a0_4] 23 (0, 0))) ∧ (w'.heap[gb160]? = some (.cells #[.int .i64 a1_0, .int .i64 a1_1, .int .i64 a1_2, .int .i64 a1_3, .int .i64 a1_4] 23 (0, 0))) ∧ (w'.heap[s_]? = some (.cells #[.int .i64 0, .int .i64 0, .int .i64 0, .int .i64 0, .int .i64 0] 23 (0, 0))) ∧ (w.heap.size ≤ s_) ∧ (w.heap.size ≤ s_) ∧ (gb159 ≠ s_) ∧ (s_ ≠ gb159) ∧ (gb160 ≠ s_) ∧ (s_ ≠ gb160) ∧ (Below w.heap.size w w')) ?_ ?_
            rotate_left
            · intro hJ1_4
              refine join_ (σ := Nat) 4 #[true, true, true, false, false, true, false, false] (fun s_ => [(8, .agg #[.int .i64 t161, .int .i64 t162, .int .i64 t163, .int .i64 t164, .int .i64 t165]), (6, .pointer (some ⟨s_, 0, none⟩))]) (fun s_ w' => (w'.cell? ⟨gb159, 0, none⟩ = some (.int .i64 a0_0) ∧ w'.cell? ⟨gb159, 1, none⟩ = some (.int .i64 a0_1) ∧ w'.cell? ⟨gb159, 2, none⟩ = some (.int .i64 a0_2) ∧ w'.cell? ⟨gb159, 3, none⟩ = some (.int .i64 a0_3) ∧ w'.cell? ⟨gb159, 4, none⟩ = some (.int .i64 a0_4) ∧ w'.cell? ⟨gb160, 0, none⟩ = some (.int .i64 a1_0) ∧ w'.cell? ⟨gb160, 1, none⟩ = some (.int .i64 a1_1) ∧ w'.cell? ⟨gb160, 2, none⟩ = some (.int .i64 a1_2) ∧ w'.cell? ⟨gb160, 3, none⟩ = some (.int .i64 a1_3) ∧ w'.cell? ⟨gb160, 4, none⟩ = some (.int .i64 a1_4)) ∧ (w'.heap[gb159]? = some (.cells #[.int .i64 a0_0, .int .i64 a0_1, .int .i64 a0_2, .int .i64 a0_3, .int .i64 a0_4] 23 (0, 0))) ∧ (w'.heap[gb160]? = some (.cells #[.int .i64 a1_0, .int .i64 a1_1, .int .i64 a1_2, .int .i64 a1_3, .int .i64 a1_4] 23 (0, 0))) ∧ (w'.heap[s_]? = some (.cells #[.int .i64 0, .int .i64 0, .int .i64 0, .int .i64 0, .int .i64 0] 23 (0, 0))) ∧ (w.heap.size ≤ s_) ∧ (w.heap.size ≤ s_) ∧ (gb159 ≠ s_) ∧ (s_ ≠ gb159) ∧ (gb160 ≠ s_) ∧ (s_ ≠ gb160) ∧ (Below w.heap.size w w')) ?_ ?_
              rotate_left
              · intro hJ1_5
                refine join_ (σ := Nat × Nat) 4 #[true, false, true, false, true, true, false, false] (fun s_ => [(5, .pointer (some ⟨s_.1, 0, none⟩)), (6, .pointer (some ⟨s_.2, 0, none⟩))]) (fun s_ w' => (w'.cell? ⟨gb159, 0, none⟩ = some (.int .i64 a0_0) ∧ w'.cell? ⟨gb159, 1, none⟩ = some (.int .i64 a0_1) ∧ w'.cell? ⟨gb159, 2, none⟩ = some (.int .i64 a0_2) ∧ w'.cell? ⟨gb159, 3, none⟩ = some (.int .i64 a0_3) ∧ w'.cell? ⟨gb159, 4, none⟩ = some (.int .i64 a0_4) ∧ w'.cell? ⟨gb160, 0, none⟩ = some (.int .i64 a1_0) ∧ w'.cell? ⟨gb160, 1, none⟩ = some (.int .i64 a1_1) ∧ w'.cell? ⟨gb160, 2, none⟩ = some (.int .i64 a1_2) ∧ w'.cell? ⟨gb160, 3, none⟩ = some (.int .i64 a1_3) ∧ w'.cell? ⟨gb160, 4, none⟩ = some (.int .i64 a1_4)) ∧ (w'.heap[gb159]? = some (.cells #[.int .i64 a0_0, .int .i64 a0_1, .int .i64 a0_2, .int .i64 a0_3, .int .i64 a0_4] 23 (0, 0))) ∧ (w'.heap[gb160]? = some (.cells #[.int .i64 a1_0, .int .i64 a1_1, .int .i64 a1_2, .int .i64 a1_3, .int .i64 a1_4] 23 (0, 0))) ∧ (w'.heap[s_.1]? = some (.cells #[.int .i64 0, .int .i64 0, .int .i64 0, .int .i64 0, .int .i64 0] 23 (0, 0))) ∧ (w'.heap[s_.2]? = some (.cells #[.int .i64 0, .int .i64 0, .int .i64 0, .int .i64 0, .int .i64 0] 23 (0, 0))) ∧ (w.heap.size ≤ s_.1) ∧ (w.heap.size ≤ s_.1) ∧ (gb159 ≠ s_.1) ∧ (s_.1 ≠ gb159) ∧ (gb160 ≠ s_.1) ∧ (s_.1 ≠ gb160) ∧ (s_.2 ≠ s_.1) ∧ (s_.1 ≠ s_.2) ∧ (w.heap.size ≤ s_.2) ∧ (w.heap.size ≤ s_.2) ∧ (gb159 ≠ s_.2) ∧ (s_.2 ≠ gb159) ∧ (gb160 ≠ s_.2) ∧ (s_.2 ≠ gb160) ∧ (Below w.heap.size w w')) ?_ ?_
                rotate_left
                · intro hJ4_5
                  refine join_ (σ := Unit) 5 #[true, true, true, false, false, false, false, false] (fun s_ => [(8, .agg #[.int .i64 t161, .int .i64 t162, .int .i64 t163, .int .i64 t164, .int .i64 t165])]) (fun s_ w' => (w'.cell? ⟨gb159, 0, none⟩ = some (.int .i64 a0_0) ∧ w'.cell? ⟨gb159, 1, none⟩ = some (.int .i64 a0_1) ∧ w'.cell? ⟨gb159, 2, none⟩ = some (.int .i64 a0_2) ∧ w'.cell? ⟨gb159, 3, none⟩ = some (.int .i64 a0_3) ∧ w'.cell? ⟨gb159, 4, none⟩ = some (.int .i64 a0_4) ∧ w'.cell? ⟨gb160, 0, none⟩ = some (.int .i64 a1_0) ∧ w'.cell? ⟨gb160, 1, none⟩ = some (.int .i64 a1_1) ∧ w'.cell? ⟨gb160, 2, none⟩ = some (.int .i64 a1_2) ∧ w'.cell? ⟨gb160, 3, none⟩ = some (.int .i64 a1_3) ∧ w'.cell? ⟨gb160, 4, none⟩ = some (.int .i64 a1_4)) ∧ (w'.heap[gb159]? = some (.cells #[.int .i64 a0_0, .int .i64 a0_1, .int .i64 a0_2, .int .i64 a0_3, .int .i64 a0_4] 23 (0, 0))) ∧ (w'.heap[gb160]? = some (.cells #[.int .i64 a1_0, .int .i64 a1_1, .int .i64 a1_2, .int .i64 a1_3, .int .i64 a1_4] 23 (0, 0))) ∧ (Below w.heap.size w w')) ?_ ?_
                  rotate_left
                  · intro hJ1
                    refine join_ (σ := Nat) 5 #[true, false, true, false, true, false, false, false] (fun s_ => [(5, .pointer (some ⟨s_, 0, none⟩))]) (fun s_ w' => (w'.cell? ⟨gb159, 0, none⟩ = some (.int .i64 a0_0) ∧ w'.cell? ⟨gb159, 1, none⟩ = some (.int .i64 a0_1) ∧ w'.cell? ⟨gb159, 2, none⟩ = some (.int .i64 a0_2) ∧ w'.cell? ⟨gb159, 3, none⟩ = some (.int .i64 a0_3) ∧ w'.cell? ⟨gb159, 4, none⟩ = some (.int .i64 a0_4) ∧ w'.cell? ⟨gb160, 0, none⟩ = some (.int .i64 a1_0) ∧ w'.cell? ⟨gb160, 1, none⟩ = some (.int .i64 a1_1) ∧ w'.cell? ⟨gb160, 2, none⟩ = some (.int .i64 a1_2) ∧ w'.cell? ⟨gb160, 3, none⟩ = some (.int .i64 a1_3) ∧ w'.cell? ⟨gb160, 4, none⟩ = some (.int .i64 a1_4)) ∧ (w'.heap[gb159]? = some (.cells #[.int .i64 a0_0, .int .i64 a0_1, .int .i64 a0_2, .int .i64 a0_3, .int .i64 a0_4] 23 (0, 0))) ∧ (w'.heap[gb160]? = some (.cells #[.int .i64 a1_0, .int .i64 a1_1, .int .i64 a1_2, .int .i64 a1_3, .int .i64 a1_4] 23 (0, 0))) ∧ (w'.heap[s_]? = some (.cells #[.int .i64 0, .int .i64 0, .int .i64 0, .int .i64 0, .int .i64 0] 23 (0, 0))) ∧ (w.heap.size ≤ s_) ∧ (w.heap.size ≤ s_) ∧ (gb159 ≠ s_) ∧ (s_ ≠ gb159) ∧ (gb160 ≠ s_) ∧ (s_ ≠ gb160) ∧ (Below w.heap.size w w')) ?_ ?_
                    rotate_left
                    · intro hJ4
                      refine join_ (σ := Nat) 5 #[true, false, true, false, false, true, false, false] (fun s_ => [(6, .pointer (some ⟨s_, 0, none⟩))]) (fun s_ w' => (w'.cell? ⟨gb159, 0, none⟩ = some (.int .i64 a0_0) ∧ w'.cell? ⟨gb159, 1, none⟩ = some (.int .i64 a0_1) ∧ w'.cell? ⟨gb159, 2, none⟩ = some (.int .i64 a0_2) ∧ w'.cell? ⟨gb159, 3, none⟩ = some (.int .i64 a0_3) ∧ w'.cell? ⟨gb159, 4, none⟩ = some (.int .i64 a0_4) ∧ w'.cell? ⟨gb160, 0, none⟩ = some (.int .i64 a1_0) ∧ w'.cell? ⟨gb160, 1, none⟩ = some (.int .i64 a1_1) ∧ w'.cell? ⟨gb160, 2, none⟩ = some (.int .i64 a1_2) ∧ w'.cell? ⟨gb160, 3, none⟩ = some (.int .i64 a1_3) ∧ w'.cell? ⟨gb160, 4, none⟩ = some (.int .i64 a1_4)) ∧ (w'.heap[gb159]? = some (.cells #[.int .i64 a0_0, .int .i64 a0_1, .int .i64 a0_2, .int .i64 a0_3, .int .i64 a0_4] 23 (0, 0))) ∧ (w'.heap[gb160]? = some (.cells #[.int .i64 a1_0, .int .i64 a1_1, .int .i64 a1_2, .int .i64 a1_3, .int .i64 a1_4] 23 (0, 0))) ∧ (w'.heap[s_]? = some (.cells #[.int .i64 0, .int .i64 0, .int .i64 0, .int .i64 0, .int .i64 0] 23 (0, 0))) ∧ (w.heap.size ≤ s_) ∧ (w.heap.size ≤ s_) ∧ (gb159 ≠ s_) ∧ (s_ ≠ gb159) ∧ (gb160 ≠ s_) ∧ (s_ ≠ gb160) ∧ (Below w.heap.size w w')) ?_ ?_
                      rotate_left
                      · intro hJ5
                        refine three_ (i := 1) (j := 4) (k := 5) (Ni := some 8) (Nj := some 5) (Nk := some 6) #[true, true, true, false, false, false, false, false] #[true, false, true, false, true, false, false, false] #[true, false, true, false, false, true, false, false] rfl rfl rfl rfl rfl rfl (three_of HT_.out (by kernel_rfl)) (by decide) (by decide) (by decide) (fun K hK => ?_) (fun K hK => ?_) (fun K hK => ?_)
                        · skip
                          refine goes_ Try.func22 (by kernel_rfl) rfl #[.agg #[.int .i64 a0_0, .int .i64 a0_1, .int .i64 a0_2, .int .i64 a0_3, .int .i64 a0_4]] (by rfl) rfl rfl (by (try simp only [List.map_toArray, List.map_cons, List.map_nil]); first | done | rfl | (simp only [List.length_drop, List.length_take]; rfl)) ?_
                          with_reducible refine (limit_fair.calls a0_0 a0_1 a0_2 a0_3 a0_4 t161 t162 t163 t164 t165 _ A3.out).mono ?_
                          rintro e w13 ⟨rfl, hb⟩
                          refine ⟨_, rfl, ?_⟩
                          have n0_ := Aside0.mk (blk_below (g := gb159) (o := .cells #[.int .i64 a0_0, .int .i64 a0_1, .int .i64 a0_2, .int .i64 a0_3, .int .i64 a0_4] 23 (0, 0)) (by (with_reducible repeat (first | refine blk_drewN ?_ _ | refine blk_drew ?_ | refine blk_alloc ?_ _)); exact BK159.out) hb)
                          have n1_ := Aside0.mk (blk_below (g := gb160) (o := .cells #[.int .i64 a1_0, .int .i64 a1_1, .int .i64 a1_2, .int .i64 a1_3, .int .i64 a1_4] 23 (0, 0)) (by (with_reducible repeat (first | refine blk_drewN ?_ _ | refine blk_drew ?_ | refine blk_alloc ?_ _)); exact BK160.out) hb)
                          have n2_ := Aside0.mk (below_step (by repeat (first | (with_reducible first | exact HB.out | apply below_alloc | apply pw_below_drewN | apply below_drew1 | refine below_set ?_ GE159.out | refine below_set ?_ GE160.out) | exact HB.out)) hb)
                          clear BK159
                          clear BK160
                          clear HB
                          have BK159 := n0_
                          have BK160 := n1_
                          have HB := n2_
                          clear n0_ n1_ n2_
                          (try clear hb)
                          (try clear hb2)
                          (try clear hk)
                          (try clear hi)
                          refine hK.out _ _ ⟨(blk_cell BK159.out 0).trans rfl, (blk_cell BK159.out 1).trans rfl, (blk_cell BK159.out 2).trans rfl, (blk_cell BK159.out 3).trans rfl, (blk_cell BK159.out 4).trans rfl, (blk_cell BK160.out 0).trans rfl, (blk_cell BK160.out 1).trans rfl, (blk_cell BK160.out 2).trans rfl, (blk_cell BK160.out 3).trans rfl, (blk_cell BK160.out 4).trans rfl⟩ (fun hHeld => ?_)
                          clear hK K
                          refine norm_ (a' := ?_) ?_ ?_
                          rotate_left
                          · show Act.put _ (some 8) _ = _
                            simp only [Act.put, List.setIfInBounds_toArray, List.set_cons_zero, List.set_cons_succ, i64_w, i32_w]
                            rfl
                          exact norm_ (by first | (simp only [putAll, Act.put, List.setIfInBounds_toArray, List.set_cons_zero, List.set_cons_succ]; done) | (simp only [putAll, Act.put, List.setIfInBounds_toArray, List.set_cons_zero, List.set_cons_succ]; rfl)) (hJ1 () _ ⟨hHeld, (by (with_reducible repeat (first | refine blk_drewN ?_ _ | refine blk_drew ?_ | refine blk_alloc ?_ _)); exact BK159.out), (by (with_reducible repeat (first | refine blk_drewN ?_ _ | refine blk_drew ?_ | refine blk_alloc ?_ _)); exact BK160.out), (by repeat (first | (with_reducible first | exact HB.out | apply below_alloc | apply pw_below_drewN | apply below_drew1 | refine below_set ?_ GE159.out | refine below_set ?_ GE160.out) | exact HB.out))⟩)
                        · skip
                          refine box_step ?hg (N := 5) ?hd (cs := #[.int .i64 0, .int .i64 0, .int .i64 0, .int .i64 0, .int .i64 0]) (t := 23) ?hr ?_; (case hd => rfl); (case hg => rfl); (case hr => first | (go_simp; done) | (go_simp; rfl))
                          intro gb171 hg w13 hbox hb
                          have n0_ := Aside0.mk (blk_below (g := gb159) (o := .cells #[.int .i64 a0_0, .int .i64 a0_1, .int .i64 a0_2, .int .i64 a0_3, .int .i64 a0_4] 23 (0, 0)) (by (with_reducible repeat (first | refine blk_drewN ?_ _ | refine blk_drew ?_ | refine blk_alloc ?_ _)); exact BK159.out) hb)
                          have n1_ := Aside0.mk (blk_below (g := gb160) (o := .cells #[.int .i64 a1_0, .int .i64 a1_1, .int .i64 a1_2, .int .i64 a1_3, .int .i64 a1_4] 23 (0, 0)) (by (with_reducible repeat (first | refine blk_drewN ?_ _ | refine blk_drew ?_ | refine blk_alloc ?_ _)); exact BK160.out) hb)
                          have n2_ := Aside0.mk (below_step (by repeat (first | (with_reducible first | exact HB.out | apply below_alloc | apply pw_below_drewN | apply below_drew1 | refine below_set ?_ GE159.out | refine below_set ?_ GE160.out) | exact HB.out)) hb)
                          have n3_ := Aside0.mk (hbox)
                          have n4_ := Aside0.mk ((by rw [hg]; exact (below_size (by repeat (first | (with_reducible first | exact HB.out | apply below_alloc | apply pw_below_drewN | apply below_drew1 | refine below_set ?_ GE159.out | refine below_set ?_ GE160.out) | exact HB.out))) : w.heap.size ≤ gb171))
                          have n5_ := Aside0.mk ((by rw [hg]; exact (below_size (by repeat (first | (with_reducible first | exact HB.out | apply below_alloc | apply pw_below_drewN | apply below_drew1 | refine below_set ?_ GE159.out | refine below_set ?_ GE160.out) | exact HB.out))) : w.heap.size ≤ gb171))
                          have n6_ := Aside0.mk ((by rw [hg]; exact Nat.ne_of_lt (blk_lt (g := gb159) (o := .cells #[.int .i64 a0_0, .int .i64 a0_1, .int .i64 a0_2, .int .i64 a0_3, .int .i64 a0_4] 23 (0, 0)) (by (with_reducible repeat (first | refine blk_drewN ?_ _ | refine blk_drew ?_ | refine blk_alloc ?_ _)); exact BK159.out)) : gb159 ≠ gb171))
                          have n7_ := Aside0.mk ((by rw [hg]; exact Nat.ne_of_gt (blk_lt (g := gb159) (o := .cells #[.int .i64 a0_0, .int .i64 a0_1, .int .i64 a0_2, .int .i64 a0_3, .int .i64 a0_4] 23 (0, 0)) (by (with_reducible repeat (first | refine blk_drewN ?_ _ | refine blk_drew ?_ | refine blk_alloc ?_ _)); exact BK159.out)) : gb171 ≠ gb159))
                          have n8_ := Aside0.mk ((by rw [hg]; exact Nat.ne_of_lt (blk_lt (g := gb160) (o := .cells #[.int .i64 a1_0, .int .i64 a1_1, .int .i64 a1_2, .int .i64 a1_3, .int .i64 a1_4] 23 (0, 0)) (by (with_reducible repeat (first | refine blk_drewN ?_ _ | refine blk_drew ?_ | refine blk_alloc ?_ _)); exact BK160.out)) : gb160 ≠ gb171))
                          have n9_ := Aside0.mk ((by rw [hg]; exact Nat.ne_of_gt (blk_lt (g := gb160) (o := .cells #[.int .i64 a1_0, .int .i64 a1_1, .int .i64 a1_2, .int .i64 a1_3, .int .i64 a1_4] 23 (0, 0)) (by (with_reducible repeat (first | refine blk_drewN ?_ _ | refine blk_drew ?_ | refine blk_alloc ?_ _)); exact BK160.out)) : gb171 ≠ gb160))
                          clear BK159
                          clear BK160
                          clear HB
                          have BK159 := n0_
                          have BK160 := n1_
                          have HB := n2_
                          have BK171 := n3_
                          have GW171 := n4_
                          have GE171 := n5_
                          have NB159_171 := n6_
                          have NB171_159 := n7_
                          have NB160_171 := n8_
                          have NB171_160 := n9_
                          clear n0_ n1_ n2_ n3_ n4_ n5_ n6_ n7_ n8_ n9_
                          clear hb hbox hg
                          refine hK.out _ _ ⟨(blk_cell BK159.out 0).trans rfl, (blk_cell BK159.out 1).trans rfl, (blk_cell BK159.out 2).trans rfl, (blk_cell BK159.out 3).trans rfl, (blk_cell BK159.out 4).trans rfl, (blk_cell BK160.out 0).trans rfl, (blk_cell BK160.out 1).trans rfl, (blk_cell BK160.out 2).trans rfl, (blk_cell BK160.out 3).trans rfl, (blk_cell BK160.out 4).trans rfl⟩ (fun hHeld => ?_)
                          clear hK K
                          refine norm_ (a' := ?_) ?_ ?_
                          rotate_left
                          · show Act.put _ (some 5) _ = _
                            simp only [Act.put, List.setIfInBounds_toArray, List.set_cons_zero, List.set_cons_succ, i64_w, i32_w]
                            rfl
                          exact norm_ (by first | (simp only [putAll, Act.put, List.setIfInBounds_toArray, List.set_cons_zero, List.set_cons_succ]; done) | (simp only [putAll, Act.put, List.setIfInBounds_toArray, List.set_cons_zero, List.set_cons_succ]; rfl)) (hJ4 (gb171) _ ⟨hHeld, (by (with_reducible repeat (first | refine blk_drewN ?_ _ | refine blk_drew ?_ | refine blk_alloc ?_ _)); exact BK159.out), (by (with_reducible repeat (first | refine blk_drewN ?_ _ | refine blk_drew ?_ | refine blk_alloc ?_ _)); exact BK160.out), (by (with_reducible repeat (first | refine blk_drewN ?_ _ | refine blk_drew ?_ | refine blk_alloc ?_ _)); exact BK171.out), GW171.out, GE171.out, NB159_171.out, NB171_159.out, NB160_171.out, NB171_160.out, (by repeat (first | (with_reducible first | exact HB.out | apply below_alloc | apply pw_below_drewN | apply below_drew1 | refine below_set ?_ GE159.out | refine below_set ?_ GE160.out | refine below_set ?_ GE171.out) | exact HB.out))⟩)
                        · skip
                          refine box_step ?hg (N := 6) ?hd (cs := #[.int .i64 0, .int .i64 0, .int .i64 0, .int .i64 0, .int .i64 0]) (t := 23) ?hr ?_; (case hd => rfl); (case hg => rfl); (case hr => first | (go_simp; done) | (go_simp; rfl))
                          intro gb172 hg w13 hbox hb
                          have n0_ := Aside0.mk (blk_below (g := gb159) (o := .cells #[.int .i64 a0_0, .int .i64 a0_1, .int .i64 a0_2, .int .i64 a0_3, .int .i64 a0_4] 23 (0, 0)) (by (with_reducible repeat (first | refine blk_drewN ?_ _ | refine blk_drew ?_ | refine blk_alloc ?_ _)); exact BK159.out) hb)
                          have n1_ := Aside0.mk (blk_below (g := gb160) (o := .cells #[.int .i64 a1_0, .int .i64 a1_1, .int .i64 a1_2, .int .i64 a1_3, .int .i64 a1_4] 23 (0, 0)) (by (with_reducible repeat (first | refine blk_drewN ?_ _ | refine blk_drew ?_ | refine blk_alloc ?_ _)); exact BK160.out) hb)
                          have n2_ := Aside0.mk (below_step (by repeat (first | (with_reducible first | exact HB.out | apply below_alloc | apply pw_below_drewN | apply below_drew1 | refine below_set ?_ GE159.out | refine below_set ?_ GE160.out) | exact HB.out)) hb)
                          have n3_ := Aside0.mk (hbox)
                          have n4_ := Aside0.mk ((by rw [hg]; exact (below_size (by repeat (first | (with_reducible first | exact HB.out | apply below_alloc | apply pw_below_drewN | apply below_drew1 | refine below_set ?_ GE159.out | refine below_set ?_ GE160.out) | exact HB.out))) : w.heap.size ≤ gb172))
                          have n5_ := Aside0.mk ((by rw [hg]; exact (below_size (by repeat (first | (with_reducible first | exact HB.out | apply below_alloc | apply pw_below_drewN | apply below_drew1 | refine below_set ?_ GE159.out | refine below_set ?_ GE160.out) | exact HB.out))) : w.heap.size ≤ gb172))
                          have n6_ := Aside0.mk ((by rw [hg]; exact Nat.ne_of_lt (blk_lt (g := gb159) (o := .cells #[.int .i64 a0_0, .int .i64 a0_1, .int .i64 a0_2, .int .i64 a0_3, .int .i64 a0_4] 23 (0, 0)) (by (with_reducible repeat (first | refine blk_drewN ?_ _ | refine blk_drew ?_ | refine blk_alloc ?_ _)); exact BK159.out)) : gb159 ≠ gb172))
                          have n7_ := Aside0.mk ((by rw [hg]; exact Nat.ne_of_gt (blk_lt (g := gb159) (o := .cells #[.int .i64 a0_0, .int .i64 a0_1, .int .i64 a0_2, .int .i64 a0_3, .int .i64 a0_4] 23 (0, 0)) (by (with_reducible repeat (first | refine blk_drewN ?_ _ | refine blk_drew ?_ | refine blk_alloc ?_ _)); exact BK159.out)) : gb172 ≠ gb159))
                          have n8_ := Aside0.mk ((by rw [hg]; exact Nat.ne_of_lt (blk_lt (g := gb160) (o := .cells #[.int .i64 a1_0, .int .i64 a1_1, .int .i64 a1_2, .int .i64 a1_3, .int .i64 a1_4] 23 (0, 0)) (by (with_reducible repeat (first | refine blk_drewN ?_ _ | refine blk_drew ?_ | refine blk_alloc ?_ _)); exact BK160.out)) : gb160 ≠ gb172))
                          have n9_ := Aside0.mk ((by rw [hg]; exact Nat.ne_of_gt (blk_lt (g := gb160) (o := .cells #[.int .i64 a1_0, .int .i64 a1_1, .int .i64 a1_2, .int .i64 a1_3, .int .i64 a1_4] 23 (0, 0)) (by (with_reducible repeat (first | refine blk_drewN ?_ _ | refine blk_drew ?_ | refine blk_alloc ?_ _)); exact BK160.out)) : gb172 ≠ gb160))
                          clear BK159
                          clear BK160
                          clear HB
                          have BK159 := n0_
                          have BK160 := n1_
                          have HB := n2_
                          have BK172 := n3_
                          have GW172 := n4_
                          have GE172 := n5_
                          have NB159_172 := n6_
                          have NB172_159 := n7_
                          have NB160_172 := n8_
                          have NB172_160 := n9_
                          clear n0_ n1_ n2_ n3_ n4_ n5_ n6_ n7_ n8_ n9_
                          clear hb hbox hg
                          refine hK.out _ _ ⟨(blk_cell BK159.out 0).trans rfl, (blk_cell BK159.out 1).trans rfl, (blk_cell BK159.out 2).trans rfl, (blk_cell BK159.out 3).trans rfl, (blk_cell BK159.out 4).trans rfl, (blk_cell BK160.out 0).trans rfl, (blk_cell BK160.out 1).trans rfl, (blk_cell BK160.out 2).trans rfl, (blk_cell BK160.out 3).trans rfl, (blk_cell BK160.out 4).trans rfl⟩ (fun hHeld => ?_)
                          clear hK K
                          refine norm_ (a' := ?_) ?_ ?_
                          rotate_left
                          · show Act.put _ (some 6) _ = _
                            simp only [Act.put, List.setIfInBounds_toArray, List.set_cons_zero, List.set_cons_succ, i64_w, i32_w]
                            rfl
                          exact norm_ (by first | (simp only [putAll, Act.put, List.setIfInBounds_toArray, List.set_cons_zero, List.set_cons_succ]; done) | (simp only [putAll, Act.put, List.setIfInBounds_toArray, List.set_cons_zero, List.set_cons_succ]; rfl)) (hJ5 (gb172) _ ⟨hHeld, (by (with_reducible repeat (first | refine blk_drewN ?_ _ | refine blk_drew ?_ | refine blk_alloc ?_ _)); exact BK159.out), (by (with_reducible repeat (first | refine blk_drewN ?_ _ | refine blk_drew ?_ | refine blk_alloc ?_ _)); exact BK160.out), (by (with_reducible repeat (first | refine blk_drewN ?_ _ | refine blk_drew ?_ | refine blk_alloc ?_ _)); exact BK172.out), GW172.out, GE172.out, NB159_172.out, NB172_159.out, NB160_172.out, NB172_160.out, (by repeat (first | (with_reducible first | exact HB.out | apply below_alloc | apply pw_below_drewN | apply below_drew1 | refine below_set ?_ GE159.out | refine below_set ?_ GE160.out | refine below_set ?_ GE172.out) | exact HB.out))⟩)
                      · skip
                        rintro gb172 w14 ⟨hS_, h0_, h1_, h2_, h3_, h4_, h5_, h6_, h7_, h8_, h9_⟩
                        have n0_ : Aside0 (w14.heap[gb159]? = some (.cells #[.int .i64 a0_0, .int .i64 a0_1, .int .i64 a0_2, .int .i64 a0_3, .int .i64 a0_4] 23 (0, 0))) := ⟨h0_⟩
                        have n1_ : Aside0 (w14.heap[gb160]? = some (.cells #[.int .i64 a1_0, .int .i64 a1_1, .int .i64 a1_2, .int .i64 a1_3, .int .i64 a1_4] 23 (0, 0))) := ⟨h1_⟩
                        have n2_ : Aside0 (w14.heap[gb172]? = some (.cells #[.int .i64 0, .int .i64 0, .int .i64 0, .int .i64 0, .int .i64 0] 23 (0, 0))) := ⟨h2_⟩
                        have n3_ : Aside0 (w.heap.size ≤ gb172) := ⟨h3_⟩
                        have n4_ : Aside0 (w.heap.size ≤ gb172) := ⟨h4_⟩
                        have n5_ : Aside0 (gb159 ≠ gb172) := ⟨h5_⟩
                        have n6_ : Aside0 (gb172 ≠ gb159) := ⟨h6_⟩
                        have n7_ : Aside0 (gb160 ≠ gb172) := ⟨h7_⟩
                        have n8_ : Aside0 (gb172 ≠ gb160) := ⟨h8_⟩
                        have n9_ : Aside0 (Below w.heap.size w w14) := ⟨h9_⟩
                        clear BK159
                        clear BK160
                        clear HB
                        clear h0_ h1_ h2_ h3_ h4_ h5_ h6_ h7_ h8_ h9_
                        have BK159 := n0_
                        have BK160 := n1_
                        have BK172 := n2_
                        have GW172 := n3_
                        have GE172 := n4_
                        have NB159_172 := n5_
                        have NB172_159 := n6_
                        have NB160_172 := n7_
                        have NB172_160 := n8_
                        have HB := n9_
                        clear n0_ n1_ n2_ n3_ n4_ n5_ n6_ n7_ n8_ n9_
                        have hHeld : w14.cell? ⟨gb159, 0, none⟩ = some (.int .i64 a0_0) ∧ w14.cell? ⟨gb159, 1, none⟩ = some (.int .i64 a0_1) ∧ w14.cell? ⟨gb159, 2, none⟩ = some (.int .i64 a0_2) ∧ w14.cell? ⟨gb159, 3, none⟩ = some (.int .i64 a0_3) ∧ w14.cell? ⟨gb159, 4, none⟩ = some (.int .i64 a0_4) ∧ w14.cell? ⟨gb160, 0, none⟩ = some (.int .i64 a1_0) ∧ w14.cell? ⟨gb160, 1, none⟩ = some (.int .i64 a1_1) ∧ w14.cell? ⟨gb160, 2, none⟩ = some (.int .i64 a1_2) ∧ w14.cell? ⟨gb160, 3, none⟩ = some (.int .i64 a1_3) ∧ w14.cell? ⟨gb160, 4, none⟩ = some (.int .i64 a1_4) := hS_
                        refine norm_ (a' := ?_) ?_ ?_
                        rotate_left
                        · simp only [putAll, Act.put, List.setIfInBounds_toArray, List.set_cons_zero, List.set_cons_succ]
                          rfl
                        refine two_ (i := 1) (j := 4) (Ni := some 8) (Nj := some 5) #[true, true, true, false, false, true, false, false] #[true, false, true, false, true, true, false, false] rfl rfl rfl rfl (two_of HT_.out (by kernel_rfl)) (by decide) (by decide) (fun K hK => ?_) (fun K hK => ?_)
                        · skip
                          refine goes_ Try.func22 (by kernel_rfl) rfl #[.agg #[.int .i64 a0_0, .int .i64 a0_1, .int .i64 a0_2, .int .i64 a0_3, .int .i64 a0_4]] (by rfl) rfl rfl (by (try simp only [List.map_toArray, List.map_cons, List.map_nil]); first | done | rfl | (simp only [List.length_drop, List.length_take]; rfl)) ?_
                          with_reducible refine (limit_fair.calls a0_0 a0_1 a0_2 a0_3 a0_4 t161 t162 t163 t164 t165 _ A3.out).mono ?_
                          rintro e w15 ⟨rfl, hb⟩
                          refine ⟨_, rfl, ?_⟩
                          have n0_ := Aside0.mk (blk_below (g := gb159) (o := .cells #[.int .i64 a0_0, .int .i64 a0_1, .int .i64 a0_2, .int .i64 a0_3, .int .i64 a0_4] 23 (0, 0)) (by (with_reducible repeat (first | refine blk_drewN ?_ _ | refine blk_drew ?_ | refine blk_alloc ?_ _)); exact BK159.out) hb)
                          have n1_ := Aside0.mk (blk_below (g := gb160) (o := .cells #[.int .i64 a1_0, .int .i64 a1_1, .int .i64 a1_2, .int .i64 a1_3, .int .i64 a1_4] 23 (0, 0)) (by (with_reducible repeat (first | refine blk_drewN ?_ _ | refine blk_drew ?_ | refine blk_alloc ?_ _)); exact BK160.out) hb)
                          have n2_ := Aside0.mk (blk_below (g := gb172) (o := .cells #[.int .i64 0, .int .i64 0, .int .i64 0, .int .i64 0, .int .i64 0] 23 (0, 0)) (by (with_reducible repeat (first | refine blk_drewN ?_ _ | refine blk_drew ?_ | refine blk_alloc ?_ _)); exact BK172.out) hb)
                          have n3_ := Aside0.mk (below_step (by repeat (first | (with_reducible first | exact HB.out | apply below_alloc | apply pw_below_drewN | apply below_drew1 | refine below_set ?_ GE159.out | refine below_set ?_ GE160.out | refine below_set ?_ GE172.out) | exact HB.out)) hb)
                          clear BK159
                          clear BK160
                          clear BK172
                          clear HB
                          have BK159 := n0_
                          have BK160 := n1_
                          have BK172 := n2_
                          have HB := n3_
                          clear n0_ n1_ n2_ n3_
                          (try clear hb)
                          (try clear hb2)
                          (try clear hk)
                          (try clear hi)
                          refine hK.out _ _ ⟨(blk_cell BK159.out 0).trans rfl, (blk_cell BK159.out 1).trans rfl, (blk_cell BK159.out 2).trans rfl, (blk_cell BK159.out 3).trans rfl, (blk_cell BK159.out 4).trans rfl, (blk_cell BK160.out 0).trans rfl, (blk_cell BK160.out 1).trans rfl, (blk_cell BK160.out 2).trans rfl, (blk_cell BK160.out 3).trans rfl, (blk_cell BK160.out 4).trans rfl⟩ (fun hHeld => ?_)
                          clear hK K
                          refine norm_ (a' := ?_) ?_ ?_
                          rotate_left
                          · show Act.put _ (some 8) _ = _
                            simp only [Act.put, List.setIfInBounds_toArray, List.set_cons_zero, List.set_cons_succ, i64_w, i32_w]
                            rfl
                          exact norm_ (by first | (simp only [putAll, Act.put, List.setIfInBounds_toArray, List.set_cons_zero, List.set_cons_succ]; done) | (simp only [putAll, Act.put, List.setIfInBounds_toArray, List.set_cons_zero, List.set_cons_succ]; rfl)) (hJ1_5 (gb172) _ ⟨hHeld, (by (with_reducible repeat (first | refine blk_drewN ?_ _ | refine blk_drew ?_ | refine blk_alloc ?_ _)); exact BK159.out), (by (with_reducible repeat (first | refine blk_drewN ?_ _ | refine blk_drew ?_ | refine blk_alloc ?_ _)); exact BK160.out), (by (with_reducible repeat (first | refine blk_drewN ?_ _ | refine blk_drew ?_ | refine blk_alloc ?_ _)); exact BK172.out), GW172.out, GE172.out, NB159_172.out, NB172_159.out, NB160_172.out, NB172_160.out, (by repeat (first | (with_reducible first | exact HB.out | apply below_alloc | apply pw_below_drewN | apply below_drew1 | refine below_set ?_ GE159.out | refine below_set ?_ GE160.out | refine below_set ?_ GE172.out) | exact HB.out))⟩)
                        · skip
                          refine box_step ?hg (N := 5) ?hd (cs := #[.int .i64 0, .int .i64 0, .int .i64 0, .int .i64 0, .int .i64 0]) (t := 23) ?hr ?_; (case hd => rfl); (case hg => rfl); (case hr => first | (go_simp; done) | (go_simp; rfl))
                          intro gb171 hg w15 hbox hb
                          have n0_ := Aside0.mk (blk_below (g := gb159) (o := .cells #[.int .i64 a0_0, .int .i64 a0_1, .int .i64 a0_2, .int .i64 a0_3, .int .i64 a0_4] 23 (0, 0)) (by (with_reducible repeat (first | refine blk_drewN ?_ _ | refine blk_drew ?_ | refine blk_alloc ?_ _)); exact BK159.out) hb)
                          have n1_ := Aside0.mk (blk_below (g := gb160) (o := .cells #[.int .i64 a1_0, .int .i64 a1_1, .int .i64 a1_2, .int .i64 a1_3, .int .i64 a1_4] 23 (0, 0)) (by (with_reducible repeat (first | refine blk_drewN ?_ _ | refine blk_drew ?_ | refine blk_alloc ?_ _)); exact BK160.out) hb)
                          have n2_ := Aside0.mk (blk_below (g := gb172) (o := .cells #[.int .i64 0, .int .i64 0, .int .i64 0, .int .i64 0, .int .i64 0] 23 (0, 0)) (by (with_reducible repeat (first | refine blk_drewN ?_ _ | refine blk_drew ?_ | refine blk_alloc ?_ _)); exact BK172.out) hb)
                          have n3_ := Aside0.mk (below_step (by repeat (first | (with_reducible first | exact HB.out | apply below_alloc | apply pw_below_drewN | apply below_drew1 | refine below_set ?_ GE159.out | refine below_set ?_ GE160.out | refine below_set ?_ GE172.out) | exact HB.out)) hb)
                          have n4_ := Aside0.mk (hbox)
                          have n5_ := Aside0.mk ((by rw [hg]; exact (below_size (by repeat (first | (with_reducible first | exact HB.out | apply below_alloc | apply pw_below_drewN | apply below_drew1 | refine below_set ?_ GE159.out | refine below_set ?_ GE160.out | refine below_set ?_ GE172.out) | exact HB.out))) : w.heap.size ≤ gb171))
                          have n6_ := Aside0.mk ((by rw [hg]; exact (below_size (by repeat (first | (with_reducible first | exact HB.out | apply below_alloc | apply pw_below_drewN | apply below_drew1 | refine below_set ?_ GE159.out | refine below_set ?_ GE160.out | refine below_set ?_ GE172.out) | exact HB.out))) : w.heap.size ≤ gb171))
                          have n7_ := Aside0.mk ((by rw [hg]; exact Nat.ne_of_lt (blk_lt (g := gb159) (o := .cells #[.int .i64 a0_0, .int .i64 a0_1, .int .i64 a0_2, .int .i64 a0_3, .int .i64 a0_4] 23 (0, 0)) (by (with_reducible repeat (first | refine blk_drewN ?_ _ | refine blk_drew ?_ | refine blk_alloc ?_ _)); exact BK159.out)) : gb159 ≠ gb171))
                          have n8_ := Aside0.mk ((by rw [hg]; exact Nat.ne_of_gt (blk_lt (g := gb159) (o := .cells #[.int .i64 a0_0, .int .i64 a0_1, .int .i64 a0_2, .int .i64 a0_3, .int .i64 a0_4] 23 (0, 0)) (by (with_reducible repeat (first | refine blk_drewN ?_ _ | refine blk_drew ?_ | refine blk_alloc ?_ _)); exact BK159.out)) : gb171 ≠ gb159))
                          have n9_ := Aside0.mk ((by rw [hg]; exact Nat.ne_of_lt (blk_lt (g := gb160) (o := .cells #[.int .i64 a1_0, .int .i64 a1_1, .int .i64 a1_2, .int .i64 a1_3, .int .i64 a1_4] 23 (0, 0)) (by (with_reducible repeat (first | refine blk_drewN ?_ _ | refine blk_drew ?_ | refine blk_alloc ?_ _)); exact BK160.out)) : gb160 ≠ gb171))
                          have n10_ := Aside0.mk ((by rw [hg]; exact Nat.ne_of_gt (blk_lt (g := gb160) (o := .cells #[.int .i64 a1_0, .int .i64 a1_1, .int .i64 a1_2, .int .i64 a1_3, .int .i64 a1_4] 23 (0, 0)) (by (with_reducible repeat (first | refine blk_drewN ?_ _ | refine blk_drew ?_ | refine blk_alloc ?_ _)); exact BK160.out)) : gb171 ≠ gb160))
                          have n11_ := Aside0.mk ((by rw [hg]; exact Nat.ne_of_lt (blk_lt (g := gb172) (o := .cells #[.int .i64 0, .int .i64 0, .int .i64 0, .int .i64 0, .int .i64 0] 23 (0, 0)) (by (with_reducible repeat (first | refine blk_drewN ?_ _ | refine blk_drew ?_ | refine blk_alloc ?_ _)); exact BK172.out)) : gb172 ≠ gb171))
                          have n12_ := Aside0.mk ((by rw [hg]; exact Nat.ne_of_gt (blk_lt (g := gb172) (o := .cells #[.int .i64 0, .int .i64 0, .int .i64 0, .int .i64 0, .int .i64 0] 23 (0, 0)) (by (with_reducible repeat (first | refine blk_drewN ?_ _ | refine blk_drew ?_ | refine blk_alloc ?_ _)); exact BK172.out)) : gb171 ≠ gb172))
                          clear BK159
                          clear BK160
                          clear BK172
                          clear HB
                          have BK159 := n0_
                          have BK160 := n1_
                          have BK172 := n2_
                          have HB := n3_
                          have BK171 := n4_
                          have GW171 := n5_
                          have GE171 := n6_
                          have NB159_171 := n7_
                          have NB171_159 := n8_
                          have NB160_171 := n9_
                          have NB171_160 := n10_
                          have NB172_171 := n11_
                          have NB171_172 := n12_
                          clear n0_ n1_ n2_ n3_ n4_ n5_ n6_ n7_ n8_ n9_ n10_ n11_ n12_
                          clear hb hbox hg
                          refine hK.out _ _ ⟨(blk_cell BK159.out 0).trans rfl, (blk_cell BK159.out 1).trans rfl, (blk_cell BK159.out 2).trans rfl, (blk_cell BK159.out 3).trans rfl, (blk_cell BK159.out 4).trans rfl, (blk_cell BK160.out 0).trans rfl, (blk_cell BK160.out 1).trans rfl, (blk_cell BK160.out 2).trans rfl, (blk_cell BK160.out 3).trans rfl, (blk_cell BK160.out 4).trans rfl⟩ (fun hHeld => ?_)
                          clear hK K
                          refine norm_ (a' := ?_) ?_ ?_
                          rotate_left
                          · show Act.put _ (some 5) _ = _
                            simp only [Act.put, List.setIfInBounds_toArray, List.set_cons_zero, List.set_cons_succ, i64_w, i32_w]
                            rfl
                          exact norm_ (by first | (simp only [putAll, Act.put, List.setIfInBounds_toArray, List.set_cons_zero, List.set_cons_succ]; done) | (simp only [putAll, Act.put, List.setIfInBounds_toArray, List.set_cons_zero, List.set_cons_succ]; rfl)) (hJ4_5 (gb171, gb172) _ ⟨hHeld, (by (with_reducible repeat (first | refine blk_drewN ?_ _ | refine blk_drew ?_ | refine blk_alloc ?_ _)); exact BK159.out), (by (with_reducible repeat (first | refine blk_drewN ?_ _ | refine blk_drew ?_ | refine blk_alloc ?_ _)); exact BK160.out), (by (with_reducible repeat (first | refine blk_drewN ?_ _ | refine blk_drew ?_ | refine blk_alloc ?_ _)); exact BK171.out), (by (with_reducible repeat (first | refine blk_drewN ?_ _ | refine blk_drew ?_ | refine blk_alloc ?_ _)); exact BK172.out), GW171.out, GE171.out, NB159_171.out, NB171_159.out, NB160_171.out, NB171_160.out, NB172_171.out, NB171_172.out, GW172.out, GE172.out, NB159_172.out, NB172_159.out, NB160_172.out, NB172_160.out, (by repeat (first | (with_reducible first | exact HB.out | apply below_alloc | apply pw_below_drewN | apply below_drew1 | refine below_set ?_ GE159.out | refine below_set ?_ GE160.out | refine below_set ?_ GE172.out | refine below_set ?_ GE171.out) | exact HB.out))⟩)
                    · skip
                      rintro gb171 w14 ⟨hS_, h0_, h1_, h2_, h3_, h4_, h5_, h6_, h7_, h8_, h9_⟩
                      have n0_ : Aside0 (w14.heap[gb159]? = some (.cells #[.int .i64 a0_0, .int .i64 a0_1, .int .i64 a0_2, .int .i64 a0_3, .int .i64 a0_4] 23 (0, 0))) := ⟨h0_⟩
                      have n1_ : Aside0 (w14.heap[gb160]? = some (.cells #[.int .i64 a1_0, .int .i64 a1_1, .int .i64 a1_2, .int .i64 a1_3, .int .i64 a1_4] 23 (0, 0))) := ⟨h1_⟩
                      have n2_ : Aside0 (w14.heap[gb171]? = some (.cells #[.int .i64 0, .int .i64 0, .int .i64 0, .int .i64 0, .int .i64 0] 23 (0, 0))) := ⟨h2_⟩
                      have n3_ : Aside0 (w.heap.size ≤ gb171) := ⟨h3_⟩
                      have n4_ : Aside0 (w.heap.size ≤ gb171) := ⟨h4_⟩
                      have n5_ : Aside0 (gb159 ≠ gb171) := ⟨h5_⟩
                      have n6_ : Aside0 (gb171 ≠ gb159) := ⟨h6_⟩
                      have n7_ : Aside0 (gb160 ≠ gb171) := ⟨h7_⟩
                      have n8_ : Aside0 (gb171 ≠ gb160) := ⟨h8_⟩
                      have n9_ : Aside0 (Below w.heap.size w w14) := ⟨h9_⟩
                      clear BK159
                      clear BK160
                      clear HB
                      clear h0_ h1_ h2_ h3_ h4_ h5_ h6_ h7_ h8_ h9_
                      have BK159 := n0_
                      have BK160 := n1_
                      have BK171 := n2_
                      have GW171 := n3_
                      have GE171 := n4_
                      have NB159_171 := n5_
                      have NB171_159 := n6_
                      have NB160_171 := n7_
                      have NB171_160 := n8_
                      have HB := n9_
                      clear n0_ n1_ n2_ n3_ n4_ n5_ n6_ n7_ n8_ n9_
                      have hHeld : w14.cell? ⟨gb159, 0, none⟩ = some (.int .i64 a0_0) ∧ w14.cell? ⟨gb159, 1, none⟩ = some (.int .i64 a0_1) ∧ w14.cell? ⟨gb159, 2, none⟩ = some (.int .i64 a0_2) ∧ w14.cell? ⟨gb159, 3, none⟩ = some (.int .i64 a0_3) ∧ w14.cell? ⟨gb159, 4, none⟩ = some (.int .i64 a0_4) ∧ w14.cell? ⟨gb160, 0, none⟩ = some (.int .i64 a1_0) ∧ w14.cell? ⟨gb160, 1, none⟩ = some (.int .i64 a1_1) ∧ w14.cell? ⟨gb160, 2, none⟩ = some (.int .i64 a1_2) ∧ w14.cell? ⟨gb160, 3, none⟩ = some (.int .i64 a1_3) ∧ w14.cell? ⟨gb160, 4, none⟩ = some (.int .i64 a1_4) := hS_
                      refine norm_ (a' := ?_) ?_ ?_
                      rotate_left
                      · simp only [putAll, Act.put, List.setIfInBounds_toArray, List.set_cons_zero, List.set_cons_succ]
                        rfl
                      refine two_ (i := 1) (j := 5) (Ni := some 8) (Nj := some 6) #[true, true, true, false, true, false, false, false] #[true, false, true, false, true, true, false, false] rfl rfl rfl rfl (two_of HT_.out (by kernel_rfl)) (by decide) (by decide) (fun K hK => ?_) (fun K hK => ?_)
                      · skip
                        refine goes_ Try.func22 (by kernel_rfl) rfl #[.agg #[.int .i64 a0_0, .int .i64 a0_1, .int .i64 a0_2, .int .i64 a0_3, .int .i64 a0_4]] (by rfl) rfl rfl (by (try simp only [List.map_toArray, List.map_cons, List.map_nil]); first | done | rfl | (simp only [List.length_drop, List.length_take]; rfl)) ?_
                        with_reducible refine (limit_fair.calls a0_0 a0_1 a0_2 a0_3 a0_4 t161 t162 t163 t164 t165 _ A3.out).mono ?_
                        rintro e w15 ⟨rfl, hb⟩
                        refine ⟨_, rfl, ?_⟩
                        have n0_ := Aside0.mk (blk_below (g := gb159) (o := .cells #[.int .i64 a0_0, .int .i64 a0_1, .int .i64 a0_2, .int .i64 a0_3, .int .i64 a0_4] 23 (0, 0)) (by (with_reducible repeat (first | refine blk_drewN ?_ _ | refine blk_drew ?_ | refine blk_alloc ?_ _)); exact BK159.out) hb)
                        have n1_ := Aside0.mk (blk_below (g := gb160) (o := .cells #[.int .i64 a1_0, .int .i64 a1_1, .int .i64 a1_2, .int .i64 a1_3, .int .i64 a1_4] 23 (0, 0)) (by (with_reducible repeat (first | refine blk_drewN ?_ _ | refine blk_drew ?_ | refine blk_alloc ?_ _)); exact BK160.out) hb)
                        have n2_ := Aside0.mk (blk_below (g := gb171) (o := .cells #[.int .i64 0, .int .i64 0, .int .i64 0, .int .i64 0, .int .i64 0] 23 (0, 0)) (by (with_reducible repeat (first | refine blk_drewN ?_ _ | refine blk_drew ?_ | refine blk_alloc ?_ _)); exact BK171.out) hb)
                        have n3_ := Aside0.mk (below_step (by repeat (first | (with_reducible first | exact HB.out | apply below_alloc | apply pw_below_drewN | apply below_drew1 | refine below_set ?_ GE159.out | refine below_set ?_ GE160.out | refine below_set ?_ GE171.out) | exact HB.out)) hb)
                        clear BK159
                        clear BK160
                        clear BK171
                        clear HB
                        have BK159 := n0_
                        have BK160 := n1_
                        have BK171 := n2_
                        have HB := n3_
                        clear n0_ n1_ n2_ n3_
                        (try clear hb)
                        (try clear hb2)
                        (try clear hk)
                        (try clear hi)
                        refine hK.out _ _ ⟨(blk_cell BK159.out 0).trans rfl, (blk_cell BK159.out 1).trans rfl, (blk_cell BK159.out 2).trans rfl, (blk_cell BK159.out 3).trans rfl, (blk_cell BK159.out 4).trans rfl, (blk_cell BK160.out 0).trans rfl, (blk_cell BK160.out 1).trans rfl, (blk_cell BK160.out 2).trans rfl, (blk_cell BK160.out 3).trans rfl, (blk_cell BK160.out 4).trans rfl⟩ (fun hHeld => ?_)
                        clear hK K
                        refine norm_ (a' := ?_) ?_ ?_
                        rotate_left
                        · show Act.put _ (some 8) _ = _
                          simp only [Act.put, List.setIfInBounds_toArray, List.set_cons_zero, List.set_cons_succ, i64_w, i32_w]
                          rfl
                        exact norm_ (by first | (simp only [putAll, Act.put, List.setIfInBounds_toArray, List.set_cons_zero, List.set_cons_succ]; done) | (simp only [putAll, Act.put, List.setIfInBounds_toArray, List.set_cons_zero, List.set_cons_succ]; rfl)) (hJ1_4 (gb171) _ ⟨hHeld, (by (with_reducible repeat (first | refine blk_drewN ?_ _ | refine blk_drew ?_ | refine blk_alloc ?_ _)); exact BK159.out), (by (with_reducible repeat (first | refine blk_drewN ?_ _ | refine blk_drew ?_ | refine blk_alloc ?_ _)); exact BK160.out), (by (with_reducible repeat (first | refine blk_drewN ?_ _ | refine blk_drew ?_ | refine blk_alloc ?_ _)); exact BK171.out), GW171.out, GE171.out, NB159_171.out, NB171_159.out, NB160_171.out, NB171_160.out, (by repeat (first | (with_reducible first | exact HB.out | apply below_alloc | apply pw_below_drewN | apply below_drew1 | refine below_set ?_ GE159.out | refine below_set ?_ GE160.out | refine below_set ?_ GE171.out) | exact HB.out))⟩)
                      · skip
                        refine box_step ?hg (N := 6) ?hd (cs := #[.int .i64 0, .int .i64 0, .int .i64 0, .int .i64 0, .int .i64 0]) (t := 23) ?hr ?_; (case hd => rfl); (case hg => rfl); (case hr => first | (go_simp; done) | (go_simp; rfl))
                        intro gb172 hg w15 hbox hb
                        have n0_ := Aside0.mk (blk_below (g := gb159) (o := .cells #[.int .i64 a0_0, .int .i64 a0_1, .int .i64 a0_2, .int .i64 a0_3, .int .i64 a0_4] 23 (0, 0)) (by (with_reducible repeat (first | refine blk_drewN ?_ _ | refine blk_drew ?_ | refine blk_alloc ?_ _)); exact BK159.out) hb)
                        have n1_ := Aside0.mk (blk_below (g := gb160) (o := .cells #[.int .i64 a1_0, .int .i64 a1_1, .int .i64 a1_2, .int .i64 a1_3, .int .i64 a1_4] 23 (0, 0)) (by (with_reducible repeat (first | refine blk_drewN ?_ _ | refine blk_drew ?_ | refine blk_alloc ?_ _)); exact BK160.out) hb)
                        have n2_ := Aside0.mk (blk_below (g := gb171) (o := .cells #[.int .i64 0, .int .i64 0, .int .i64 0, .int .i64 0, .int .i64 0] 23 (0, 0)) (by (with_reducible repeat (first | refine blk_drewN ?_ _ | refine blk_drew ?_ | refine blk_alloc ?_ _)); exact BK171.out) hb)
                        have n3_ := Aside0.mk (below_step (by repeat (first | (with_reducible first | exact HB.out | apply below_alloc | apply pw_below_drewN | apply below_drew1 | refine below_set ?_ GE159.out | refine below_set ?_ GE160.out | refine below_set ?_ GE171.out) | exact HB.out)) hb)
                        have n4_ := Aside0.mk (hbox)
                        have n5_ := Aside0.mk ((by rw [hg]; exact (below_size (by repeat (first | (with_reducible first | exact HB.out | apply below_alloc | apply pw_below_drewN | apply below_drew1 | refine below_set ?_ GE159.out | refine below_set ?_ GE160.out | refine below_set ?_ GE171.out) | exact HB.out))) : w.heap.size ≤ gb172))
                        have n6_ := Aside0.mk ((by rw [hg]; exact (below_size (by repeat (first | (with_reducible first | exact HB.out | apply below_alloc | apply pw_below_drewN | apply below_drew1 | refine below_set ?_ GE159.out | refine below_set ?_ GE160.out | refine below_set ?_ GE171.out) | exact HB.out))) : w.heap.size ≤ gb172))
                        have n7_ := Aside0.mk ((by rw [hg]; exact Nat.ne_of_lt (blk_lt (g := gb159) (o := .cells #[.int .i64 a0_0, .int .i64 a0_1, .int .i64 a0_2, .int .i64 a0_3, .int .i64 a0_4] 23 (0, 0)) (by (with_reducible repeat (first | refine blk_drewN ?_ _ | refine blk_drew ?_ | refine blk_alloc ?_ _)); exact BK159.out)) : gb159 ≠ gb172))
                        have n8_ := Aside0.mk ((by rw [hg]; exact Nat.ne_of_gt (blk_lt (g := gb159) (o := .cells #[.int .i64 a0_0, .int .i64 a0_1, .int .i64 a0_2, .int .i64 a0_3, .int .i64 a0_4] 23 (0, 0)) (by (with_reducible repeat (first | refine blk_drewN ?_ _ | refine blk_drew ?_ | refine blk_alloc ?_ _)); exact BK159.out)) : gb172 ≠ gb159))
                        have n9_ := Aside0.mk ((by rw [hg]; exact Nat.ne_of_lt (blk_lt (g := gb160) (o := .cells #[.int .i64 a1_0, .int .i64 a1_1, .int .i64 a1_2, .int .i64 a1_3, .int .i64 a1_4] 23 (0, 0)) (by (with_reducible repeat (first | refine blk_drewN ?_ _ | refine blk_drew ?_ | refine blk_alloc ?_ _)); exact BK160.out)) : gb160 ≠ gb172))
                        have n10_ := Aside0.mk ((by rw [hg]; exact Nat.ne_of_gt (blk_lt (g := gb160) (o := .cells #[.int .i64 a1_0, .int .i64 a1_1, .int .i64 a1_2, .int .i64 a1_3, .int .i64 a1_4] 23 (0, 0)) (by (with_reducible repeat (first | refine blk_drewN ?_ _ | refine blk_drew ?_ | refine blk_alloc ?_ _)); exact BK160.out)) : gb172 ≠ gb160))
                        have n11_ := Aside0.mk ((by rw [hg]; exact Nat.ne_of_lt (blk_lt (g := gb171) (o := .cells #[.int .i64 0, .int .i64 0, .int .i64 0, .int .i64 0, .int .i64 0] 23 (0, 0)) (by (with_reducible repeat (first | refine blk_drewN ?_ _ | refine blk_drew ?_ | refine blk_alloc ?_ _)); exact BK171.out)) : gb171 ≠ gb172))
                        have n12_ := Aside0.mk ((by rw [hg]; exact Nat.ne_of_gt (blk_lt (g := gb171) (o := .cells #[.int .i64 0, .int .i64 0, .int .i64 0, .int .i64 0, .int .i64 0] 23 (0, 0)) (by (with_reducible repeat (first | refine blk_drewN ?_ _ | refine blk_drew ?_ | refine blk_alloc ?_ _)); exact BK171.out)) : gb172 ≠ gb171))
                        clear BK159
                        clear BK160
                        clear BK171
                        clear HB
                        have BK159 := n0_
                        have BK160 := n1_
                        have BK171 := n2_
                        have HB := n3_
                        have BK172 := n4_
                        have GW172 := n5_
                        have GE172 := n6_
                        have NB159_172 := n7_
                        have NB172_159 := n8_
                        have NB160_172 := n9_
                        have NB172_160 := n10_
                        have NB171_172 := n11_
                        have NB172_171 := n12_
                        clear n0_ n1_ n2_ n3_ n4_ n5_ n6_ n7_ n8_ n9_ n10_ n11_ n12_
                        clear hb hbox hg
                        refine hK.out _ _ ⟨(blk_cell BK159.out 0).trans rfl, (blk_cell BK159.out 1).trans rfl, (blk_cell BK159.out 2).trans rfl, (blk_cell BK159.out 3).trans rfl, (blk_cell BK159.out 4).trans rfl, (blk_cell BK160.out 0).trans rfl, (blk_cell BK160.out 1).trans rfl, (blk_cell BK160.out 2).trans rfl, (blk_cell BK160.out 3).trans rfl, (blk_cell BK160.out 4).trans rfl⟩ (fun hHeld => ?_)
                        clear hK K
                        refine norm_ (a' := ?_) ?_ ?_
                        rotate_left
                        · show Act.put _ (some 6) _ = _
                          simp only [Act.put, List.setIfInBounds_toArray, List.set_cons_zero, List.set_cons_succ, i64_w, i32_w]
                          rfl
                        exact norm_ (by first | (simp only [putAll, Act.put, List.setIfInBounds_toArray, List.set_cons_zero, List.set_cons_succ]; done) | (simp only [putAll, Act.put, List.setIfInBounds_toArray, List.set_cons_zero, List.set_cons_succ]; rfl)) (hJ4_5 (gb171, gb172) _ ⟨hHeld, (by (with_reducible repeat (first | refine blk_drewN ?_ _ | refine blk_drew ?_ | refine blk_alloc ?_ _)); exact BK159.out), (by (with_reducible repeat (first | refine blk_drewN ?_ _ | refine blk_drew ?_ | refine blk_alloc ?_ _)); exact BK160.out), (by (with_reducible repeat (first | refine blk_drewN ?_ _ | refine blk_drew ?_ | refine blk_alloc ?_ _)); exact BK171.out), (by (with_reducible repeat (first | refine blk_drewN ?_ _ | refine blk_drew ?_ | refine blk_alloc ?_ _)); exact BK172.out), GW171.out, GE171.out, NB159_171.out, NB171_159.out, NB160_171.out, NB171_160.out, NB172_171.out, NB171_172.out, GW172.out, GE172.out, NB159_172.out, NB172_159.out, NB160_172.out, NB172_160.out, (by repeat (first | (with_reducible first | exact HB.out | apply below_alloc | apply pw_below_drewN | apply below_drew1 | refine below_set ?_ GE159.out | refine below_set ?_ GE160.out | refine below_set ?_ GE171.out | refine below_set ?_ GE172.out) | exact HB.out))⟩)
                  · skip
                    rintro _ w14 ⟨hS_, h0_, h1_, h2_⟩
                    have n0_ : Aside0 (w14.heap[gb159]? = some (.cells #[.int .i64 a0_0, .int .i64 a0_1, .int .i64 a0_2, .int .i64 a0_3, .int .i64 a0_4] 23 (0, 0))) := ⟨h0_⟩
                    have n1_ : Aside0 (w14.heap[gb160]? = some (.cells #[.int .i64 a1_0, .int .i64 a1_1, .int .i64 a1_2, .int .i64 a1_3, .int .i64 a1_4] 23 (0, 0))) := ⟨h1_⟩
                    have n2_ : Aside0 (Below w.heap.size w w14) := ⟨h2_⟩
                    clear BK159
                    clear BK160
                    clear HB
                    clear h0_ h1_ h2_
                    have BK159 := n0_
                    have BK160 := n1_
                    have HB := n2_
                    clear n0_ n1_ n2_
                    have hHeld : w14.cell? ⟨gb159, 0, none⟩ = some (.int .i64 a0_0) ∧ w14.cell? ⟨gb159, 1, none⟩ = some (.int .i64 a0_1) ∧ w14.cell? ⟨gb159, 2, none⟩ = some (.int .i64 a0_2) ∧ w14.cell? ⟨gb159, 3, none⟩ = some (.int .i64 a0_3) ∧ w14.cell? ⟨gb159, 4, none⟩ = some (.int .i64 a0_4) ∧ w14.cell? ⟨gb160, 0, none⟩ = some (.int .i64 a1_0) ∧ w14.cell? ⟨gb160, 1, none⟩ = some (.int .i64 a1_1) ∧ w14.cell? ⟨gb160, 2, none⟩ = some (.int .i64 a1_2) ∧ w14.cell? ⟨gb160, 3, none⟩ = some (.int .i64 a1_3) ∧ w14.cell? ⟨gb160, 4, none⟩ = some (.int .i64 a1_4) := hS_
                    refine norm_ (a' := ?_) ?_ ?_
                    rotate_left
                    · simp only [putAll, Act.put, List.setIfInBounds_toArray, List.set_cons_zero, List.set_cons_succ]
                      rfl
                    refine three_ (i := 3) (j := 4) (k := 5) (Ni := some 10) (Nj := some 5) (Nk := some 6) #[true, true, true, true, false, false, false, false] #[true, true, true, false, true, false, false, false] #[true, true, true, false, false, true, false, false] rfl rfl rfl rfl rfl rfl (three_of HT_.out (by kernel_rfl)) (by decide) (by decide) (by decide) (fun K hK => ?_) (fun K hK => ?_) (fun K hK => ?_)
                    · skip
                      refine goes_ Try.func22 (by kernel_rfl) rfl #[.agg #[.int .i64 a1_0, .int .i64 a1_1, .int .i64 a1_2, .int .i64 a1_3, .int .i64 a1_4]] (by rfl) rfl rfl (by (try simp only [List.map_toArray, List.map_cons, List.map_nil]); first | done | rfl | (simp only [List.length_drop, List.length_take]; rfl)) ?_
                      with_reducible refine (limit_fair.calls a1_0 a1_1 a1_2 a1_3 a1_4 t166 t167 t168 t169 t170 _ A4.out).mono ?_
                      rintro e w15 ⟨rfl, hb⟩
                      refine ⟨_, rfl, ?_⟩
                      have n0_ := Aside0.mk (blk_below (g := gb159) (o := .cells #[.int .i64 a0_0, .int .i64 a0_1, .int .i64 a0_2, .int .i64 a0_3, .int .i64 a0_4] 23 (0, 0)) (by (with_reducible repeat (first | refine blk_drewN ?_ _ | refine blk_drew ?_ | refine blk_alloc ?_ _)); exact BK159.out) hb)
                      have n1_ := Aside0.mk (blk_below (g := gb160) (o := .cells #[.int .i64 a1_0, .int .i64 a1_1, .int .i64 a1_2, .int .i64 a1_3, .int .i64 a1_4] 23 (0, 0)) (by (with_reducible repeat (first | refine blk_drewN ?_ _ | refine blk_drew ?_ | refine blk_alloc ?_ _)); exact BK160.out) hb)
                      have n2_ := Aside0.mk (below_step (by repeat (first | (with_reducible first | exact HB.out | apply below_alloc | apply pw_below_drewN | apply below_drew1 | refine below_set ?_ GE159.out | refine below_set ?_ GE160.out) | exact HB.out)) hb)
                      clear BK159
                      clear BK160
                      clear HB
                      have BK159 := n0_
                      have BK160 := n1_
                      have HB := n2_
                      clear n0_ n1_ n2_
                      (try clear hb)
                      (try clear hb2)
                      (try clear hk)
                      (try clear hi)
                      refine hK.out _ _ ⟨(blk_cell BK159.out 0).trans rfl, (blk_cell BK159.out 1).trans rfl, (blk_cell BK159.out 2).trans rfl, (blk_cell BK159.out 3).trans rfl, (blk_cell BK159.out 4).trans rfl, (blk_cell BK160.out 0).trans rfl, (blk_cell BK160.out 1).trans rfl, (blk_cell BK160.out 2).trans rfl, (blk_cell BK160.out 3).trans rfl, (blk_cell BK160.out 4).trans rfl⟩ (fun hHeld => ?_)
                      clear hK K
                      refine norm_ (a' := ?_) ?_ ?_
                      rotate_left
                      · show Act.put _ (some 10) _ = _
                        simp only [Act.put, List.setIfInBounds_toArray, List.set_cons_zero, List.set_cons_succ, i64_w, i32_w]
                        rfl
                      exact norm_ (by first | (simp only [putAll, Act.put, List.setIfInBounds_toArray, List.set_cons_zero, List.set_cons_succ]; done) | (simp only [putAll, Act.put, List.setIfInBounds_toArray, List.set_cons_zero, List.set_cons_succ]; rfl)) (hJ1_3 () _ ⟨hHeld, (by (with_reducible repeat (first | refine blk_drewN ?_ _ | refine blk_drew ?_ | refine blk_alloc ?_ _)); exact BK159.out), (by (with_reducible repeat (first | refine blk_drewN ?_ _ | refine blk_drew ?_ | refine blk_alloc ?_ _)); exact BK160.out), (by repeat (first | (with_reducible first | exact HB.out | apply below_alloc | apply pw_below_drewN | apply below_drew1 | refine below_set ?_ GE159.out | refine below_set ?_ GE160.out) | exact HB.out))⟩)
                    · skip
                      refine box_step ?hg (N := 5) ?hd (cs := #[.int .i64 0, .int .i64 0, .int .i64 0, .int .i64 0, .int .i64 0]) (t := 23) ?hr ?_; (case hd => rfl); (case hg => rfl); (case hr => first | (go_simp; done) | (go_simp; rfl))
                      intro gb171 hg w15 hbox hb
                      have n0_ := Aside0.mk (blk_below (g := gb159) (o := .cells #[.int .i64 a0_0, .int .i64 a0_1, .int .i64 a0_2, .int .i64 a0_3, .int .i64 a0_4] 23 (0, 0)) (by (with_reducible repeat (first | refine blk_drewN ?_ _ | refine blk_drew ?_ | refine blk_alloc ?_ _)); exact BK159.out) hb)
                      have n1_ := Aside0.mk (blk_below (g := gb160) (o := .cells #[.int .i64 a1_0, .int .i64 a1_1, .int .i64 a1_2, .int .i64 a1_3, .int .i64 a1_4] 23 (0, 0)) (by (with_reducible repeat (first | refine blk_drewN ?_ _ | refine blk_drew ?_ | refine blk_alloc ?_ _)); exact BK160.out) hb)
                      have n2_ := Aside0.mk (below_step (by repeat (first | (with_reducible first | exact HB.out | apply below_alloc | apply pw_below_drewN | apply below_drew1 | refine below_set ?_ GE159.out | refine below_set ?_ GE160.out) | exact HB.out)) hb)
                      have n3_ := Aside0.mk (hbox)
                      have n4_ := Aside0.mk ((by rw [hg]; exact (below_size (by repeat (first | (with_reducible first | exact HB.out | apply below_alloc | apply pw_below_drewN | apply below_drew1 | refine below_set ?_ GE159.out | refine below_set ?_ GE160.out) | exact HB.out))) : w.heap.size ≤ gb171))
                      have n5_ := Aside0.mk ((by rw [hg]; exact (below_size (by repeat (first | (with_reducible first | exact HB.out | apply below_alloc | apply pw_below_drewN | apply below_drew1 | refine below_set ?_ GE159.out | refine below_set ?_ GE160.out) | exact HB.out))) : w.heap.size ≤ gb171))
                      have n6_ := Aside0.mk ((by rw [hg]; exact Nat.ne_of_lt (blk_lt (g := gb159) (o := .cells #[.int .i64 a0_0, .int .i64 a0_1, .int .i64 a0_2, .int .i64 a0_3, .int .i64 a0_4] 23 (0, 0)) (by (with_reducible repeat (first | refine blk_drewN ?_ _ | refine blk_drew ?_ | refine blk_alloc ?_ _)); exact BK159.out)) : gb159 ≠ gb171))
                      have n7_ := Aside0.mk ((by rw [hg]; exact Nat.ne_of_gt (blk_lt (g := gb159) (o := .cells #[.int .i64 a0_0, .int .i64 a0_1, .int .i64 a0_2, .int .i64 a0_3, .int .i64 a0_4] 23 (0, 0)) (by (with_reducible repeat (first | refine blk_drewN ?_ _ | refine blk_drew ?_ | refine blk_alloc ?_ _)); exact BK159.out)) : gb171 ≠ gb159))
                      have n8_ := Aside0.mk ((by rw [hg]; exact Nat.ne_of_lt (blk_lt (g := gb160) (o := .cells #[.int .i64 a1_0, .int .i64 a1_1, .int .i64 a1_2, .int .i64 a1_3, .int .i64 a1_4] 23 (0, 0)) (by (with_reducible repeat (first | refine blk_drewN ?_ _ | refine blk_drew ?_ | refine blk_alloc ?_ _)); exact BK160.out)) : gb160 ≠ gb171))
                      have n9_ := Aside0.mk ((by rw [hg]; exact Nat.ne_of_gt (blk_lt (g := gb160) (o := .cells #[.int .i64 a1_0, .int .i64 a1_1, .int .i64 a1_2, .int .i64 a1_3, .int .i64 a1_4] 23 (0, 0)) (by (with_reducible repeat (first | refine blk_drewN ?_ _ | refine blk_drew ?_ | refine blk_alloc ?_ _)); exact BK160.out)) : gb171 ≠ gb160))
                      clear BK159
                      clear BK160
                      clear HB
                      have BK159 := n0_
                      have BK160 := n1_
                      have HB := n2_
                      have BK171 := n3_
                      have GW171 := n4_
                      have GE171 := n5_
                      have NB159_171 := n6_
                      have NB171_159 := n7_
                      have NB160_171 := n8_
                      have NB171_160 := n9_
                      clear n0_ n1_ n2_ n3_ n4_ n5_ n6_ n7_ n8_ n9_
                      clear hb hbox hg
                      refine hK.out _ _ ⟨(blk_cell BK159.out 0).trans rfl, (blk_cell BK159.out 1).trans rfl, (blk_cell BK159.out 2).trans rfl, (blk_cell BK159.out 3).trans rfl, (blk_cell BK159.out 4).trans rfl, (blk_cell BK160.out 0).trans rfl, (blk_cell BK160.out 1).trans rfl, (blk_cell BK160.out 2).trans rfl, (blk_cell BK160.out 3).trans rfl, (blk_cell BK160.out 4).trans rfl⟩ (fun hHeld => ?_)
                      clear hK K
                      refine norm_ (a' := ?_) ?_ ?_
                      rotate_left
                      · show Act.put _ (some 5) _ = _
                        simp only [Act.put, List.setIfInBounds_toArray, List.set_cons_zero, List.set_cons_succ, i64_w, i32_w]
                        rfl
                      exact norm_ (by first | (simp only [putAll, Act.put, List.setIfInBounds_toArray, List.set_cons_zero, List.set_cons_succ]; done) | (simp only [putAll, Act.put, List.setIfInBounds_toArray, List.set_cons_zero, List.set_cons_succ]; rfl)) (hJ1_4 (gb171) _ ⟨hHeld, (by (with_reducible repeat (first | refine blk_drewN ?_ _ | refine blk_drew ?_ | refine blk_alloc ?_ _)); exact BK159.out), (by (with_reducible repeat (first | refine blk_drewN ?_ _ | refine blk_drew ?_ | refine blk_alloc ?_ _)); exact BK160.out), (by (with_reducible repeat (first | refine blk_drewN ?_ _ | refine blk_drew ?_ | refine blk_alloc ?_ _)); exact BK171.out), GW171.out, GE171.out, NB159_171.out, NB171_159.out, NB160_171.out, NB171_160.out, (by repeat (first | (with_reducible first | exact HB.out | apply below_alloc | apply pw_below_drewN | apply below_drew1 | refine below_set ?_ GE159.out | refine below_set ?_ GE160.out | refine below_set ?_ GE171.out) | exact HB.out))⟩)
                    · skip
                      refine box_step ?hg (N := 6) ?hd (cs := #[.int .i64 0, .int .i64 0, .int .i64 0, .int .i64 0, .int .i64 0]) (t := 23) ?hr ?_; (case hd => rfl); (case hg => rfl); (case hr => first | (go_simp; done) | (go_simp; rfl))
                      intro gb172 hg w15 hbox hb
                      have n0_ := Aside0.mk (blk_below (g := gb159) (o := .cells #[.int .i64 a0_0, .int .i64 a0_1, .int .i64 a0_2, .int .i64 a0_3, .int .i64 a0_4] 23 (0, 0)) (by (with_reducible repeat (first | refine blk_drewN ?_ _ | refine blk_drew ?_ | refine blk_alloc ?_ _)); exact BK159.out) hb)
                      have n1_ := Aside0.mk (blk_below (g := gb160) (o := .cells #[.int .i64 a1_0, .int .i64 a1_1, .int .i64 a1_2, .int .i64 a1_3, .int .i64 a1_4] 23 (0, 0)) (by (with_reducible repeat (first | refine blk_drewN ?_ _ | refine blk_drew ?_ | refine blk_alloc ?_ _)); exact BK160.out) hb)
                      have n2_ := Aside0.mk (below_step (by repeat (first | (with_reducible first | exact HB.out | apply below_alloc | apply pw_below_drewN | apply below_drew1 | refine below_set ?_ GE159.out | refine below_set ?_ GE160.out) | exact HB.out)) hb)
                      have n3_ := Aside0.mk (hbox)
                      have n4_ := Aside0.mk ((by rw [hg]; exact (below_size (by repeat (first | (with_reducible first | exact HB.out | apply below_alloc | apply pw_below_drewN | apply below_drew1 | refine below_set ?_ GE159.out | refine below_set ?_ GE160.out) | exact HB.out))) : w.heap.size ≤ gb172))
                      have n5_ := Aside0.mk ((by rw [hg]; exact (below_size (by repeat (first | (with_reducible first | exact HB.out | apply below_alloc | apply pw_below_drewN | apply below_drew1 | refine below_set ?_ GE159.out | refine below_set ?_ GE160.out) | exact HB.out))) : w.heap.size ≤ gb172))
                      have n6_ := Aside0.mk ((by rw [hg]; exact Nat.ne_of_lt (blk_lt (g := gb159) (o := .cells #[.int .i64 a0_0, .int .i64 a0_1, .int .i64 a0_2, .int .i64 a0_3, .int .i64 a0_4] 23 (0, 0)) (by (with_reducible repeat (first | refine blk_drewN ?_ _ | refine blk_drew ?_ | refine blk_alloc ?_ _)); exact BK159.out)) : gb159 ≠ gb172))
                      have n7_ := Aside0.mk ((by rw [hg]; exact Nat.ne_of_gt (blk_lt (g := gb159) (o := .cells #[.int .i64 a0_0, .int .i64 a0_1, .int .i64 a0_2, .int .i64 a0_3, .int .i64 a0_4] 23 (0, 0)) (by (with_reducible repeat (first | refine blk_drewN ?_ _ | refine blk_drew ?_ | refine blk_alloc ?_ _)); exact BK159.out)) : gb172 ≠ gb159))
                      have n8_ := Aside0.mk ((by rw [hg]; exact Nat.ne_of_lt (blk_lt (g := gb160) (o := .cells #[.int .i64 a1_0, .int .i64 a1_1, .int .i64 a1_2, .int .i64 a1_3, .int .i64 a1_4] 23 (0, 0)) (by (with_reducible repeat (first | refine blk_drewN ?_ _ | refine blk_drew ?_ | refine blk_alloc ?_ _)); exact BK160.out)) : gb160 ≠ gb172))
                      have n9_ := Aside0.mk ((by rw [hg]; exact Nat.ne_of_gt (blk_lt (g := gb160) (o := .cells #[.int .i64 a1_0, .int .i64 a1_1, .int .i64 a1_2, .int .i64 a1_3, .int .i64 a1_4] 23 (0, 0)) (by (with_reducible repeat (first | refine blk_drewN ?_ _ | refine blk_drew ?_ | refine blk_alloc ?_ _)); exact BK160.out)) : gb172 ≠ gb160))
                      clear BK159
                      clear BK160
                      clear HB
                      have BK159 := n0_
                      have BK160 := n1_
                      have HB := n2_
                      have BK172 := n3_
                      have GW172 := n4_
                      have GE172 := n5_
                      have NB159_172 := n6_
                      have NB172_159 := n7_
                      have NB160_172 := n8_
                      have NB172_160 := n9_
                      clear n0_ n1_ n2_ n3_ n4_ n5_ n6_ n7_ n8_ n9_
                      clear hb hbox hg
                      refine hK.out _ _ ⟨(blk_cell BK159.out 0).trans rfl, (blk_cell BK159.out 1).trans rfl, (blk_cell BK159.out 2).trans rfl, (blk_cell BK159.out 3).trans rfl, (blk_cell BK159.out 4).trans rfl, (blk_cell BK160.out 0).trans rfl, (blk_cell BK160.out 1).trans rfl, (blk_cell BK160.out 2).trans rfl, (blk_cell BK160.out 3).trans rfl, (blk_cell BK160.out 4).trans rfl⟩ (fun hHeld => ?_)
                      clear hK K
                      refine norm_ (a' := ?_) ?_ ?_
                      rotate_left
                      · show Act.put _ (some 6) _ = _
                        simp only [Act.put, List.setIfInBounds_toArray, List.set_cons_zero, List.set_cons_succ, i64_w, i32_w]
                        rfl
                      exact norm_ (by first | (simp only [putAll, Act.put, List.setIfInBounds_toArray, List.set_cons_zero, List.set_cons_succ]; done) | (simp only [putAll, Act.put, List.setIfInBounds_toArray, List.set_cons_zero, List.set_cons_succ]; rfl)) (hJ1_5 (gb172) _ ⟨hHeld, (by (with_reducible repeat (first | refine blk_drewN ?_ _ | refine blk_drew ?_ | refine blk_alloc ?_ _)); exact BK159.out), (by (with_reducible repeat (first | refine blk_drewN ?_ _ | refine blk_drew ?_ | refine blk_alloc ?_ _)); exact BK160.out), (by (with_reducible repeat (first | refine blk_drewN ?_ _ | refine blk_drew ?_ | refine blk_alloc ?_ _)); exact BK172.out), GW172.out, GE172.out, NB159_172.out, NB172_159.out, NB160_172.out, NB172_160.out, (by repeat (first | (with_reducible first | exact HB.out | apply below_alloc | apply pw_below_drewN | apply below_drew1 | refine below_set ?_ GE159.out | refine below_set ?_ GE160.out | refine below_set ?_ GE172.out) | exact HB.out))⟩)
                · skip
                  rintro ⟨gb171, gb172⟩ w15 ⟨hS_, h0_, h1_, h2_, h3_, h4_, h5_, h6_, h7_, h8_, h9_, h10_, h11_, h12_, h13_, h14_, h15_, h16_, h17_, h18_⟩
                  have n0_ : Aside0 (w15.heap[gb159]? = some (.cells #[.int .i64 a0_0, .int .i64 a0_1, .int .i64 a0_2, .int .i64 a0_3, .int .i64 a0_4] 23 (0, 0))) := ⟨h0_⟩
                  have n1_ : Aside0 (w15.heap[gb160]? = some (.cells #[.int .i64 a1_0, .int .i64 a1_1, .int .i64 a1_2, .int .i64 a1_3, .int .i64 a1_4] 23 (0, 0))) := ⟨h1_⟩
                  have n2_ : Aside0 (w15.heap[gb171]? = some (.cells #[.int .i64 0, .int .i64 0, .int .i64 0, .int .i64 0, .int .i64 0] 23 (0, 0))) := ⟨h2_⟩
                  have n3_ : Aside0 (w15.heap[gb172]? = some (.cells #[.int .i64 0, .int .i64 0, .int .i64 0, .int .i64 0, .int .i64 0] 23 (0, 0))) := ⟨h3_⟩
                  have n4_ : Aside0 (w.heap.size ≤ gb171) := ⟨h4_⟩
                  have n5_ : Aside0 (w.heap.size ≤ gb171) := ⟨h5_⟩
                  have n6_ : Aside0 (gb159 ≠ gb171) := ⟨h6_⟩
                  have n7_ : Aside0 (gb171 ≠ gb159) := ⟨h7_⟩
                  have n8_ : Aside0 (gb160 ≠ gb171) := ⟨h8_⟩
                  have n9_ : Aside0 (gb171 ≠ gb160) := ⟨h9_⟩
                  have n10_ : Aside0 (gb172 ≠ gb171) := ⟨h10_⟩
                  have n11_ : Aside0 (gb171 ≠ gb172) := ⟨h11_⟩
                  have n12_ : Aside0 (w.heap.size ≤ gb172) := ⟨h12_⟩
                  have n13_ : Aside0 (w.heap.size ≤ gb172) := ⟨h13_⟩
                  have n14_ : Aside0 (gb159 ≠ gb172) := ⟨h14_⟩
                  have n15_ : Aside0 (gb172 ≠ gb159) := ⟨h15_⟩
                  have n16_ : Aside0 (gb160 ≠ gb172) := ⟨h16_⟩
                  have n17_ : Aside0 (gb172 ≠ gb160) := ⟨h17_⟩
                  have n18_ : Aside0 (Below w.heap.size w w15) := ⟨h18_⟩
                  clear BK159
                  clear BK160
                  clear HB
                  clear h0_ h1_ h2_ h3_ h4_ h5_ h6_ h7_ h8_ h9_ h10_ h11_ h12_ h13_ h14_ h15_ h16_ h17_ h18_
                  have BK159 := n0_
                  have BK160 := n1_
                  have BK171 := n2_
                  have BK172 := n3_
                  have GW171 := n4_
                  have GE171 := n5_
                  have NB159_171 := n6_
                  have NB171_159 := n7_
                  have NB160_171 := n8_
                  have NB171_160 := n9_
                  have NB172_171 := n10_
                  have NB171_172 := n11_
                  have GW172 := n12_
                  have GE172 := n13_
                  have NB159_172 := n14_
                  have NB172_159 := n15_
                  have NB160_172 := n16_
                  have NB172_160 := n17_
                  have HB := n18_
                  clear n0_ n1_ n2_ n3_ n4_ n5_ n6_ n7_ n8_ n9_ n10_ n11_ n12_ n13_ n14_ n15_ n16_ n17_ n18_
                  have hHeld : w15.cell? ⟨gb159, 0, none⟩ = some (.int .i64 a0_0) ∧ w15.cell? ⟨gb159, 1, none⟩ = some (.int .i64 a0_1) ∧ w15.cell? ⟨gb159, 2, none⟩ = some (.int .i64 a0_2) ∧ w15.cell? ⟨gb159, 3, none⟩ = some (.int .i64 a0_3) ∧ w15.cell? ⟨gb159, 4, none⟩ = some (.int .i64 a0_4) ∧ w15.cell? ⟨gb160, 0, none⟩ = some (.int .i64 a1_0) ∧ w15.cell? ⟨gb160, 1, none⟩ = some (.int .i64 a1_1) ∧ w15.cell? ⟨gb160, 2, none⟩ = some (.int .i64 a1_2) ∧ w15.cell? ⟨gb160, 3, none⟩ = some (.int .i64 a1_3) ∧ w15.cell? ⟨gb160, 4, none⟩ = some (.int .i64 a1_4) := hS_
                  refine norm_ (a' := ?_) ?_ ?_
                  rotate_left
                  · simp only [putAll, Act.put, List.setIfInBounds_toArray, List.set_cons_zero, List.set_cons_succ]
                    rfl
                  refine one_ (i := 1) (N := some 8) #[true, true, true, false, true, true, false, false] rfl rfl (one_of HT_.out (by kernel_rfl)) (by decide) (fun K hK => ?_)
                  refine goes_ Try.func22 (by kernel_rfl) rfl #[.agg #[.int .i64 a0_0, .int .i64 a0_1, .int .i64 a0_2, .int .i64 a0_3, .int .i64 a0_4]] (by rfl) rfl rfl (by (try simp only [List.map_toArray, List.map_cons, List.map_nil]); first | done | rfl | (simp only [List.length_drop, List.length_take]; rfl)) ?_
                  with_reducible refine (limit_fair.calls a0_0 a0_1 a0_2 a0_3 a0_4 t161 t162 t163 t164 t165 _ A3.out).mono ?_
                  rintro e w16 ⟨rfl, hb⟩
                  refine ⟨_, rfl, ?_⟩
                  have n0_ := Aside0.mk (blk_below (g := gb159) (o := .cells #[.int .i64 a0_0, .int .i64 a0_1, .int .i64 a0_2, .int .i64 a0_3, .int .i64 a0_4] 23 (0, 0)) (by (with_reducible repeat (first | refine blk_drewN ?_ _ | refine blk_drew ?_ | refine blk_alloc ?_ _)); exact BK159.out) hb)
                  have n1_ := Aside0.mk (blk_below (g := gb160) (o := .cells #[.int .i64 a1_0, .int .i64 a1_1, .int .i64 a1_2, .int .i64 a1_3, .int .i64 a1_4] 23 (0, 0)) (by (with_reducible repeat (first | refine blk_drewN ?_ _ | refine blk_drew ?_ | refine blk_alloc ?_ _)); exact BK160.out) hb)
                  have n2_ := Aside0.mk (blk_below (g := gb171) (o := .cells #[.int .i64 0, .int .i64 0, .int .i64 0, .int .i64 0, .int .i64 0] 23 (0, 0)) (by (with_reducible repeat (first | refine blk_drewN ?_ _ | refine blk_drew ?_ | refine blk_alloc ?_ _)); exact BK171.out) hb)
                  have n3_ := Aside0.mk (blk_below (g := gb172) (o := .cells #[.int .i64 0, .int .i64 0, .int .i64 0, .int .i64 0, .int .i64 0] 23 (0, 0)) (by (with_reducible repeat (first | refine blk_drewN ?_ _ | refine blk_drew ?_ | refine blk_alloc ?_ _)); exact BK172.out) hb)
                  have n4_ := Aside0.mk (below_step (by repeat (first | (with_reducible first | exact HB.out | apply below_alloc | apply pw_below_drewN | apply below_drew1 | refine below_set ?_ GE159.out | refine below_set ?_ GE160.out | refine below_set ?_ GE171.out | refine below_set ?_ GE172.out) | exact HB.out)) hb)
                  clear BK159
                  clear BK160
                  clear BK171
                  clear BK172
                  clear HB
                  have BK159 := n0_
                  have BK160 := n1_
                  have BK171 := n2_
                  have BK172 := n3_
                  have HB := n4_
                  clear n0_ n1_ n2_ n3_ n4_
                  (try clear hb)
                  (try clear hb2)
                  (try clear hk)
                  (try clear hi)
                  refine hK.out _ _ ⟨(blk_cell BK159.out 0).trans rfl, (blk_cell BK159.out 1).trans rfl, (blk_cell BK159.out 2).trans rfl, (blk_cell BK159.out 3).trans rfl, (blk_cell BK159.out 4).trans rfl, (blk_cell BK160.out 0).trans rfl, (blk_cell BK160.out 1).trans rfl, (blk_cell BK160.out 2).trans rfl, (blk_cell BK160.out 3).trans rfl, (blk_cell BK160.out 4).trans rfl⟩ (fun hHeld => ?_)
                  clear hK K
                  refine norm_ (a' := ?_) ?_ ?_
                  rotate_left
                  · show Act.put _ (some 8) _ = _
                    simp only [Act.put, List.setIfInBounds_toArray, List.set_cons_zero, List.set_cons_succ, i64_w, i32_w]
                    rfl
                  exact norm_ (by first | (simp only [putAll, Act.put, List.setIfInBounds_toArray, List.set_cons_zero, List.set_cons_succ]; done) | (simp only [putAll, Act.put, List.setIfInBounds_toArray, List.set_cons_zero, List.set_cons_succ]; rfl)) (hJ1_4_5 (gb171, gb172) _ ⟨hHeld, (by (with_reducible repeat (first | refine blk_drewN ?_ _ | refine blk_drew ?_ | refine blk_alloc ?_ _)); exact BK159.out), (by (with_reducible repeat (first | refine blk_drewN ?_ _ | refine blk_drew ?_ | refine blk_alloc ?_ _)); exact BK160.out), (by (with_reducible repeat (first | refine blk_drewN ?_ _ | refine blk_drew ?_ | refine blk_alloc ?_ _)); exact BK171.out), (by (with_reducible repeat (first | refine blk_drewN ?_ _ | refine blk_drew ?_ | refine blk_alloc ?_ _)); exact BK172.out), GW171.out, GE171.out, NB159_171.out, NB171_159.out, NB160_171.out, NB171_160.out, NB172_171.out, NB171_172.out, GW172.out, GE172.out, NB159_172.out, NB172_159.out, NB160_172.out, NB172_160.out, (by repeat (first | (with_reducible first | exact HB.out | apply below_alloc | apply pw_below_drewN | apply below_drew1 | refine below_set ?_ GE159.out | refine below_set ?_ GE160.out | refine below_set ?_ GE171.out | refine below_set ?_ GE172.out) | exact HB.out))⟩)
              · skip
                rintro gb172 w15 ⟨hS_, h0_, h1_, h2_, h3_, h4_, h5_, h6_, h7_, h8_, h9_⟩
                have n0_ : Aside0 (w15.heap[gb159]? = some (.cells #[.int .i64 a0_0, .int .i64 a0_1, .int .i64 a0_2, .int .i64 a0_3, .int .i64 a0_4] 23 (0, 0))) := ⟨h0_⟩
                have n1_ : Aside0 (w15.heap[gb160]? = some (.cells #[.int .i64 a1_0, .int .i64 a1_1, .int .i64 a1_2, .int .i64 a1_3, .int .i64 a1_4] 23 (0, 0))) := ⟨h1_⟩
                have n2_ : Aside0 (w15.heap[gb172]? = some (.cells #[.int .i64 0, .int .i64 0, .int .i64 0, .int .i64 0, .int .i64 0] 23 (0, 0))) := ⟨h2_⟩
                have n3_ : Aside0 (w.heap.size ≤ gb172) := ⟨h3_⟩
                have n4_ : Aside0 (w.heap.size ≤ gb172) := ⟨h4_⟩
                have n5_ : Aside0 (gb159 ≠ gb172) := ⟨h5_⟩
                have n6_ : Aside0 (gb172 ≠ gb159) := ⟨h6_⟩
                have n7_ : Aside0 (gb160 ≠ gb172) := ⟨h7_⟩
                have n8_ : Aside0 (gb172 ≠ gb160) := ⟨h8_⟩
                have n9_ : Aside0 (Below w.heap.size w w15) := ⟨h9_⟩
                clear BK159
                clear BK160
                clear HB
                clear h0_ h1_ h2_ h3_ h4_ h5_ h6_ h7_ h8_ h9_
                have BK159 := n0_
                have BK160 := n1_
                have BK172 := n2_
                have GW172 := n3_
                have GE172 := n4_
                have NB159_172 := n5_
                have NB172_159 := n6_
                have NB160_172 := n7_
                have NB172_160 := n8_
                have HB := n9_
                clear n0_ n1_ n2_ n3_ n4_ n5_ n6_ n7_ n8_ n9_
                have hHeld : w15.cell? ⟨gb159, 0, none⟩ = some (.int .i64 a0_0) ∧ w15.cell? ⟨gb159, 1, none⟩ = some (.int .i64 a0_1) ∧ w15.cell? ⟨gb159, 2, none⟩ = some (.int .i64 a0_2) ∧ w15.cell? ⟨gb159, 3, none⟩ = some (.int .i64 a0_3) ∧ w15.cell? ⟨gb159, 4, none⟩ = some (.int .i64 a0_4) ∧ w15.cell? ⟨gb160, 0, none⟩ = some (.int .i64 a1_0) ∧ w15.cell? ⟨gb160, 1, none⟩ = some (.int .i64 a1_1) ∧ w15.cell? ⟨gb160, 2, none⟩ = some (.int .i64 a1_2) ∧ w15.cell? ⟨gb160, 3, none⟩ = some (.int .i64 a1_3) ∧ w15.cell? ⟨gb160, 4, none⟩ = some (.int .i64 a1_4) := hS_
                refine norm_ (a' := ?_) ?_ ?_
                rotate_left
                · simp only [putAll, Act.put, List.setIfInBounds_toArray, List.set_cons_zero, List.set_cons_succ]
                  rfl
                refine two_ (i := 3) (j := 4) (Ni := some 10) (Nj := some 5) #[true, true, true, true, false, true, false, false] #[true, true, true, false, true, true, false, false] rfl rfl rfl rfl (two_of HT_.out (by kernel_rfl)) (by decide) (by decide) (fun K hK => ?_) (fun K hK => ?_)
                · skip
                  refine goes_ Try.func22 (by kernel_rfl) rfl #[.agg #[.int .i64 a1_0, .int .i64 a1_1, .int .i64 a1_2, .int .i64 a1_3, .int .i64 a1_4]] (by rfl) rfl rfl (by (try simp only [List.map_toArray, List.map_cons, List.map_nil]); first | done | rfl | (simp only [List.length_drop, List.length_take]; rfl)) ?_
                  with_reducible refine (limit_fair.calls a1_0 a1_1 a1_2 a1_3 a1_4 t166 t167 t168 t169 t170 _ A4.out).mono ?_
                  rintro e w16 ⟨rfl, hb⟩
                  refine ⟨_, rfl, ?_⟩
                  have n0_ := Aside0.mk (blk_below (g := gb159) (o := .cells #[.int .i64 a0_0, .int .i64 a0_1, .int .i64 a0_2, .int .i64 a0_3, .int .i64 a0_4] 23 (0, 0)) (by (with_reducible repeat (first | refine blk_drewN ?_ _ | refine blk_drew ?_ | refine blk_alloc ?_ _)); exact BK159.out) hb)
                  have n1_ := Aside0.mk (blk_below (g := gb160) (o := .cells #[.int .i64 a1_0, .int .i64 a1_1, .int .i64 a1_2, .int .i64 a1_3, .int .i64 a1_4] 23 (0, 0)) (by (with_reducible repeat (first | refine blk_drewN ?_ _ | refine blk_drew ?_ | refine blk_alloc ?_ _)); exact BK160.out) hb)
                  have n2_ := Aside0.mk (blk_below (g := gb172) (o := .cells #[.int .i64 0, .int .i64 0, .int .i64 0, .int .i64 0, .int .i64 0] 23 (0, 0)) (by (with_reducible repeat (first | refine blk_drewN ?_ _ | refine blk_drew ?_ | refine blk_alloc ?_ _)); exact BK172.out) hb)
                  have n3_ := Aside0.mk (below_step (by repeat (first | (with_reducible first | exact HB.out | apply below_alloc | apply pw_below_drewN | apply below_drew1 | refine below_set ?_ GE159.out | refine below_set ?_ GE160.out | refine below_set ?_ GE172.out) | exact HB.out)) hb)
                  clear BK159
                  clear BK160
                  clear BK172
                  clear HB
                  have BK159 := n0_
                  have BK160 := n1_
                  have BK172 := n2_
                  have HB := n3_
                  clear n0_ n1_ n2_ n3_
                  (try clear hb)
                  (try clear hb2)
                  (try clear hk)
                  (try clear hi)
                  refine hK.out _ _ ⟨(blk_cell BK159.out 0).trans rfl, (blk_cell BK159.out 1).trans rfl, (blk_cell BK159.out 2).trans rfl, (blk_cell BK159.out 3).trans rfl, (blk_cell BK159.out 4).trans rfl, (blk_cell BK160.out 0).trans rfl, (blk_cell BK160.out 1).trans rfl, (blk_cell BK160.out 2).trans rfl, (blk_cell BK160.out 3).trans rfl, (blk_cell BK160.out 4).trans rfl⟩ (fun hHeld => ?_)
                  clear hK K
                  refine norm_ (a' := ?_) ?_ ?_
                  rotate_left
                  · show Act.put _ (some 10) _ = _
                    simp only [Act.put, List.setIfInBounds_toArray, List.set_cons_zero, List.set_cons_succ, i64_w, i32_w]
                    rfl
                  exact norm_ (by first | (simp only [putAll, Act.put, List.setIfInBounds_toArray, List.set_cons_zero, List.set_cons_succ]; done) | (simp only [putAll, Act.put, List.setIfInBounds_toArray, List.set_cons_zero, List.set_cons_succ]; rfl)) (hJ1_3_5 (gb172) _ ⟨hHeld, (by (with_reducible repeat (first | refine blk_drewN ?_ _ | refine blk_drew ?_ | refine blk_alloc ?_ _)); exact BK159.out), (by (with_reducible repeat (first | refine blk_drewN ?_ _ | refine blk_drew ?_ | refine blk_alloc ?_ _)); exact BK160.out), (by (with_reducible repeat (first | refine blk_drewN ?_ _ | refine blk_drew ?_ | refine blk_alloc ?_ _)); exact BK172.out), GW172.out, GE172.out, NB159_172.out, NB172_159.out, NB160_172.out, NB172_160.out, (by repeat (first | (with_reducible first | exact HB.out | apply below_alloc | apply pw_below_drewN | apply below_drew1 | refine below_set ?_ GE159.out | refine below_set ?_ GE160.out | refine below_set ?_ GE172.out) | exact HB.out))⟩)
                · skip
                  refine box_step ?hg (N := 5) ?hd (cs := #[.int .i64 0, .int .i64 0, .int .i64 0, .int .i64 0, .int .i64 0]) (t := 23) ?hr ?_; (case hd => rfl); (case hg => rfl); (case hr => first | (go_simp; done) | (go_simp; rfl))
                  intro gb171 hg w16 hbox hb
                  have n0_ := Aside0.mk (blk_below (g := gb159) (o := .cells #[.int .i64 a0_0, .int .i64 a0_1, .int .i64 a0_2, .int .i64 a0_3, .int .i64 a0_4] 23 (0, 0)) (by (with_reducible repeat (first | refine blk_drewN ?_ _ | refine blk_drew ?_ | refine blk_alloc ?_ _)); exact BK159.out) hb)
                  have n1_ := Aside0.mk (blk_below (g := gb160) (o := .cells #[.int .i64 a1_0, .int .i64 a1_1, .int .i64 a1_2, .int .i64 a1_3, .int .i64 a1_4] 23 (0, 0)) (by (with_reducible repeat (first | refine blk_drewN ?_ _ | refine blk_drew ?_ | refine blk_alloc ?_ _)); exact BK160.out) hb)
                  have n2_ := Aside0.mk (blk_below (g := gb172) (o := .cells #[.int .i64 0, .int .i64 0, .int .i64 0, .int .i64 0, .int .i64 0] 23 (0, 0)) (by (with_reducible repeat (first | refine blk_drewN ?_ _ | refine blk_drew ?_ | refine blk_alloc ?_ _)); exact BK172.out) hb)
                  have n3_ := Aside0.mk (below_step (by repeat (first | (with_reducible first | exact HB.out | apply below_alloc | apply pw_below_drewN | apply below_drew1 | refine below_set ?_ GE159.out | refine below_set ?_ GE160.out | refine below_set ?_ GE172.out) | exact HB.out)) hb)
                  have n4_ := Aside0.mk (hbox)
                  have n5_ := Aside0.mk ((by rw [hg]; exact (below_size (by repeat (first | (with_reducible first | exact HB.out | apply below_alloc | apply pw_below_drewN | apply below_drew1 | refine below_set ?_ GE159.out | refine below_set ?_ GE160.out | refine below_set ?_ GE172.out) | exact HB.out))) : w.heap.size ≤ gb171))
                  have n6_ := Aside0.mk ((by rw [hg]; exact (below_size (by repeat (first | (with_reducible first | exact HB.out | apply below_alloc | apply pw_below_drewN | apply below_drew1 | refine below_set ?_ GE159.out | refine below_set ?_ GE160.out | refine below_set ?_ GE172.out) | exact HB.out))) : w.heap.size ≤ gb171))
                  have n7_ := Aside0.mk ((by rw [hg]; exact Nat.ne_of_lt (blk_lt (g := gb159) (o := .cells #[.int .i64 a0_0, .int .i64 a0_1, .int .i64 a0_2, .int .i64 a0_3, .int .i64 a0_4] 23 (0, 0)) (by (with_reducible repeat (first | refine blk_drewN ?_ _ | refine blk_drew ?_ | refine blk_alloc ?_ _)); exact BK159.out)) : gb159 ≠ gb171))
                  have n8_ := Aside0.mk ((by rw [hg]; exact Nat.ne_of_gt (blk_lt (g := gb159) (o := .cells #[.int .i64 a0_0, .int .i64 a0_1, .int .i64 a0_2, .int .i64 a0_3, .int .i64 a0_4] 23 (0, 0)) (by (with_reducible repeat (first | refine blk_drewN ?_ _ | refine blk_drew ?_ | refine blk_alloc ?_ _)); exact BK159.out)) : gb171 ≠ gb159))
                  have n9_ := Aside0.mk ((by rw [hg]; exact Nat.ne_of_lt (blk_lt (g := gb160) (o := .cells #[.int .i64 a1_0, .int .i64 a1_1, .int .i64 a1_2, .int .i64 a1_3, .int .i64 a1_4] 23 (0, 0)) (by (with_reducible repeat (first | refine blk_drewN ?_ _ | refine blk_drew ?_ | refine blk_alloc ?_ _)); exact BK160.out)) : gb160 ≠ gb171))
                  have n10_ := Aside0.mk ((by rw [hg]; exact Nat.ne_of_gt (blk_lt (g := gb160) (o := .cells #[.int .i64 a1_0, .int .i64 a1_1, .int .i64 a1_2, .int .i64 a1_3, .int .i64 a1_4] 23 (0, 0)) (by (with_reducible repeat (first | refine blk_drewN ?_ _ | refine blk_drew ?_ | refine blk_alloc ?_ _)); exact BK160.out)) : gb171 ≠ gb160))
                  have n11_ := Aside0.mk ((by rw [hg]; exact Nat.ne_of_lt (blk_lt (g := gb172) (o := .cells #[.int .i64 0, .int .i64 0, .int .i64 0, .int .i64 0, .int .i64 0] 23 (0, 0)) (by (with_reducible repeat (first | refine blk_drewN ?_ _ | refine blk_drew ?_ | refine blk_alloc ?_ _)); exact BK172.out)) : gb172 ≠ gb171))
                  have n12_ := Aside0.mk ((by rw [hg]; exact Nat.ne_of_gt (blk_lt (g := gb172) (o := .cells #[.int .i64 0, .int .i64 0, .int .i64 0, .int .i64 0, .int .i64 0] 23 (0, 0)) (by (with_reducible repeat (first | refine blk_drewN ?_ _ | refine blk_drew ?_ | refine blk_alloc ?_ _)); exact BK172.out)) : gb171 ≠ gb172))
                  clear BK159
                  clear BK160
                  clear BK172
                  clear HB
                  have BK159 := n0_
                  have BK160 := n1_
                  have BK172 := n2_
                  have HB := n3_
                  have BK171 := n4_
                  have GW171 := n5_
                  have GE171 := n6_
                  have NB159_171 := n7_
                  have NB171_159 := n8_
                  have NB160_171 := n9_
                  have NB171_160 := n10_
                  have NB172_171 := n11_
                  have NB171_172 := n12_
                  clear n0_ n1_ n2_ n3_ n4_ n5_ n6_ n7_ n8_ n9_ n10_ n11_ n12_
                  clear hb hbox hg
                  refine hK.out _ _ ⟨(blk_cell BK159.out 0).trans rfl, (blk_cell BK159.out 1).trans rfl, (blk_cell BK159.out 2).trans rfl, (blk_cell BK159.out 3).trans rfl, (blk_cell BK159.out 4).trans rfl, (blk_cell BK160.out 0).trans rfl, (blk_cell BK160.out 1).trans rfl, (blk_cell BK160.out 2).trans rfl, (blk_cell BK160.out 3).trans rfl, (blk_cell BK160.out 4).trans rfl⟩ (fun hHeld => ?_)
                  clear hK K
                  refine norm_ (a' := ?_) ?_ ?_
                  rotate_left
                  · show Act.put _ (some 5) _ = _
                    simp only [Act.put, List.setIfInBounds_toArray, List.set_cons_zero, List.set_cons_succ, i64_w, i32_w]
                    rfl
                  exact norm_ (by first | (simp only [putAll, Act.put, List.setIfInBounds_toArray, List.set_cons_zero, List.set_cons_succ]; done) | (simp only [putAll, Act.put, List.setIfInBounds_toArray, List.set_cons_zero, List.set_cons_succ]; rfl)) (hJ1_4_5 (gb171, gb172) _ ⟨hHeld, (by (with_reducible repeat (first | refine blk_drewN ?_ _ | refine blk_drew ?_ | refine blk_alloc ?_ _)); exact BK159.out), (by (with_reducible repeat (first | refine blk_drewN ?_ _ | refine blk_drew ?_ | refine blk_alloc ?_ _)); exact BK160.out), (by (with_reducible repeat (first | refine blk_drewN ?_ _ | refine blk_drew ?_ | refine blk_alloc ?_ _)); exact BK171.out), (by (with_reducible repeat (first | refine blk_drewN ?_ _ | refine blk_drew ?_ | refine blk_alloc ?_ _)); exact BK172.out), GW171.out, GE171.out, NB159_171.out, NB171_159.out, NB160_171.out, NB171_160.out, NB172_171.out, NB171_172.out, GW172.out, GE172.out, NB159_172.out, NB172_159.out, NB160_172.out, NB172_160.out, (by repeat (first | (with_reducible first | exact HB.out | apply below_alloc | apply pw_below_drewN | apply below_drew1 | refine below_set ?_ GE159.out | refine below_set ?_ GE160.out | refine below_set ?_ GE172.out | refine below_set ?_ GE171.out) | exact HB.out))⟩)
            · skip
              rintro gb171 w15 ⟨hS_, h0_, h1_, h2_, h3_, h4_, h5_, h6_, h7_, h8_, h9_⟩
              have n0_ : Aside0 (w15.heap[gb159]? = some (.cells #[.int .i64 a0_0, .int .i64 a0_1, .int .i64 a0_2, .int .i64 a0_3, .int .i64 a0_4] 23 (0, 0))) := ⟨h0_⟩
              have n1_ : Aside0 (w15.heap[gb160]? = some (.cells #[.int .i64 a1_0, .int .i64 a1_1, .int .i64 a1_2, .int .i64 a1_3, .int .i64 a1_4] 23 (0, 0))) := ⟨h1_⟩
              have n2_ : Aside0 (w15.heap[gb171]? = some (.cells #[.int .i64 0, .int .i64 0, .int .i64 0, .int .i64 0, .int .i64 0] 23 (0, 0))) := ⟨h2_⟩
              have n3_ : Aside0 (w.heap.size ≤ gb171) := ⟨h3_⟩
              have n4_ : Aside0 (w.heap.size ≤ gb171) := ⟨h4_⟩
              have n5_ : Aside0 (gb159 ≠ gb171) := ⟨h5_⟩
              have n6_ : Aside0 (gb171 ≠ gb159) := ⟨h6_⟩
              have n7_ : Aside0 (gb160 ≠ gb171) := ⟨h7_⟩
              have n8_ : Aside0 (gb171 ≠ gb160) := ⟨h8_⟩
              have n9_ : Aside0 (Below w.heap.size w w15) := ⟨h9_⟩
              clear BK159
              clear BK160
              clear HB
              clear h0_ h1_ h2_ h3_ h4_ h5_ h6_ h7_ h8_ h9_
              have BK159 := n0_
              have BK160 := n1_
              have BK171 := n2_
              have GW171 := n3_
              have GE171 := n4_
              have NB159_171 := n5_
              have NB171_159 := n6_
              have NB160_171 := n7_
              have NB171_160 := n8_
              have HB := n9_
              clear n0_ n1_ n2_ n3_ n4_ n5_ n6_ n7_ n8_ n9_
              have hHeld : w15.cell? ⟨gb159, 0, none⟩ = some (.int .i64 a0_0) ∧ w15.cell? ⟨gb159, 1, none⟩ = some (.int .i64 a0_1) ∧ w15.cell? ⟨gb159, 2, none⟩ = some (.int .i64 a0_2) ∧ w15.cell? ⟨gb159, 3, none⟩ = some (.int .i64 a0_3) ∧ w15.cell? ⟨gb159, 4, none⟩ = some (.int .i64 a0_4) ∧ w15.cell? ⟨gb160, 0, none⟩ = some (.int .i64 a1_0) ∧ w15.cell? ⟨gb160, 1, none⟩ = some (.int .i64 a1_1) ∧ w15.cell? ⟨gb160, 2, none⟩ = some (.int .i64 a1_2) ∧ w15.cell? ⟨gb160, 3, none⟩ = some (.int .i64 a1_3) ∧ w15.cell? ⟨gb160, 4, none⟩ = some (.int .i64 a1_4) := hS_
              refine norm_ (a' := ?_) ?_ ?_
              rotate_left
              · simp only [putAll, Act.put, List.setIfInBounds_toArray, List.set_cons_zero, List.set_cons_succ]
                rfl
              refine two_ (i := 3) (j := 5) (Ni := some 10) (Nj := some 6) #[true, true, true, true, true, false, false, false] #[true, true, true, false, true, true, false, false] rfl rfl rfl rfl (two_of HT_.out (by kernel_rfl)) (by decide) (by decide) (fun K hK => ?_) (fun K hK => ?_)
              · skip
                refine goes_ Try.func22 (by kernel_rfl) rfl #[.agg #[.int .i64 a1_0, .int .i64 a1_1, .int .i64 a1_2, .int .i64 a1_3, .int .i64 a1_4]] (by rfl) rfl rfl (by (try simp only [List.map_toArray, List.map_cons, List.map_nil]); first | done | rfl | (simp only [List.length_drop, List.length_take]; rfl)) ?_
                with_reducible refine (limit_fair.calls a1_0 a1_1 a1_2 a1_3 a1_4 t166 t167 t168 t169 t170 _ A4.out).mono ?_
                rintro e w16 ⟨rfl, hb⟩
                refine ⟨_, rfl, ?_⟩
                have n0_ := Aside0.mk (blk_below (g := gb159) (o := .cells #[.int .i64 a0_0, .int .i64 a0_1, .int .i64 a0_2, .int .i64 a0_3, .int .i64 a0_4] 23 (0, 0)) (by (with_reducible repeat (first | refine blk_drewN ?_ _ | refine blk_drew ?_ | refine blk_alloc ?_ _)); exact BK159.out) hb)
                have n1_ := Aside0.mk (blk_below (g := gb160) (o := .cells #[.int .i64 a1_0, .int .i64 a1_1, .int .i64 a1_2, .int .i64 a1_3, .int .i64 a1_4] 23 (0, 0)) (by (with_reducible repeat (first | refine blk_drewN ?_ _ | refine blk_drew ?_ | refine blk_alloc ?_ _)); exact BK160.out) hb)
                have n2_ := Aside0.mk (blk_below (g := gb171) (o := .cells #[.int .i64 0, .int .i64 0, .int .i64 0, .int .i64 0, .int .i64 0] 23 (0, 0)) (by (with_reducible repeat (first | refine blk_drewN ?_ _ | refine blk_drew ?_ | refine blk_alloc ?_ _)); exact BK171.out) hb)
                have n3_ := Aside0.mk (below_step (by repeat (first | (with_reducible first | exact HB.out | apply below_alloc | apply pw_below_drewN | apply below_drew1 | refine below_set ?_ GE159.out | refine below_set ?_ GE160.out | refine below_set ?_ GE171.out) | exact HB.out)) hb)
                clear BK159
                clear BK160
                clear BK171
                clear HB
                have BK159 := n0_
                have BK160 := n1_
                have BK171 := n2_
                have HB := n3_
                clear n0_ n1_ n2_ n3_
                (try clear hb)
                (try clear hb2)
                (try clear hk)
                (try clear hi)
                refine hK.out _ _ ⟨(blk_cell BK159.out 0).trans rfl, (blk_cell BK159.out 1).trans rfl, (blk_cell BK159.out 2).trans rfl, (blk_cell BK159.out 3).trans rfl, (blk_cell BK159.out 4).trans rfl, (blk_cell BK160.out 0).trans rfl, (blk_cell BK160.out 1).trans rfl, (blk_cell BK160.out 2).trans rfl, (blk_cell BK160.out 3).trans rfl, (blk_cell BK160.out 4).trans rfl⟩ (fun hHeld => ?_)
                clear hK K
                refine norm_ (a' := ?_) ?_ ?_
                rotate_left
                · show Act.put _ (some 10) _ = _
                  simp only [Act.put, List.setIfInBounds_toArray, List.set_cons_zero, List.set_cons_succ, i64_w, i32_w]
                  rfl
                exact norm_ (by first | (simp only [putAll, Act.put, List.setIfInBounds_toArray, List.set_cons_zero, List.set_cons_succ]; done) | (simp only [putAll, Act.put, List.setIfInBounds_toArray, List.set_cons_zero, List.set_cons_succ]; rfl)) (hJ1_3_4 (gb171) _ ⟨hHeld, (by (with_reducible repeat (first | refine blk_drewN ?_ _ | refine blk_drew ?_ | refine blk_alloc ?_ _)); exact BK159.out), (by (with_reducible repeat (first | refine blk_drewN ?_ _ | refine blk_drew ?_ | refine blk_alloc ?_ _)); exact BK160.out), (by (with_reducible repeat (first | refine blk_drewN ?_ _ | refine blk_drew ?_ | refine blk_alloc ?_ _)); exact BK171.out), GW171.out, GE171.out, NB159_171.out, NB171_159.out, NB160_171.out, NB171_160.out, (by repeat (first | (with_reducible first | exact HB.out | apply below_alloc | apply pw_below_drewN | apply below_drew1 | refine below_set ?_ GE159.out | refine below_set ?_ GE160.out | refine below_set ?_ GE171.out) | exact HB.out))⟩)
              · skip
                refine box_step ?hg (N := 6) ?hd (cs := #[.int .i64 0, .int .i64 0, .int .i64 0, .int .i64 0, .int .i64 0]) (t := 23) ?hr ?_; (case hd => rfl); (case hg => rfl); (case hr => first | (go_simp; done) | (go_simp; rfl))
                intro gb172 hg w16 hbox hb
                have n0_ := Aside0.mk (blk_below (g := gb159) (o := .cells #[.int .i64 a0_0, .int .i64 a0_1, .int .i64 a0_2, .int .i64 a0_3, .int .i64 a0_4] 23 (0, 0)) (by (with_reducible repeat (first | refine blk_drewN ?_ _ | refine blk_drew ?_ | refine blk_alloc ?_ _)); exact BK159.out) hb)
                have n1_ := Aside0.mk (blk_below (g := gb160) (o := .cells #[.int .i64 a1_0, .int .i64 a1_1, .int .i64 a1_2, .int .i64 a1_3, .int .i64 a1_4] 23 (0, 0)) (by (with_reducible repeat (first | refine blk_drewN ?_ _ | refine blk_drew ?_ | refine blk_alloc ?_ _)); exact BK160.out) hb)
                have n2_ := Aside0.mk (blk_below (g := gb171) (o := .cells #[.int .i64 0, .int .i64 0, .int .i64 0, .int .i64 0, .int .i64 0] 23 (0, 0)) (by (with_reducible repeat (first | refine blk_drewN ?_ _ | refine blk_drew ?_ | refine blk_alloc ?_ _)); exact BK171.out) hb)
                have n3_ := Aside0.mk (below_step (by repeat (first | (with_reducible first | exact HB.out | apply below_alloc | apply pw_below_drewN | apply below_drew1 | refine below_set ?_ GE159.out | refine below_set ?_ GE160.out | refine below_set ?_ GE171.out) | exact HB.out)) hb)
                have n4_ := Aside0.mk (hbox)
                have n5_ := Aside0.mk ((by rw [hg]; exact (below_size (by repeat (first | (with_reducible first | exact HB.out | apply below_alloc | apply pw_below_drewN | apply below_drew1 | refine below_set ?_ GE159.out | refine below_set ?_ GE160.out | refine below_set ?_ GE171.out) | exact HB.out))) : w.heap.size ≤ gb172))
                have n6_ := Aside0.mk ((by rw [hg]; exact (below_size (by repeat (first | (with_reducible first | exact HB.out | apply below_alloc | apply pw_below_drewN | apply below_drew1 | refine below_set ?_ GE159.out | refine below_set ?_ GE160.out | refine below_set ?_ GE171.out) | exact HB.out))) : w.heap.size ≤ gb172))
                have n7_ := Aside0.mk ((by rw [hg]; exact Nat.ne_of_lt (blk_lt (g := gb159) (o := .cells #[.int .i64 a0_0, .int .i64 a0_1, .int .i64 a0_2, .int .i64 a0_3, .int .i64 a0_4] 23 (0, 0)) (by (with_reducible repeat (first | refine blk_drewN ?_ _ | refine blk_drew ?_ | refine blk_alloc ?_ _)); exact BK159.out)) : gb159 ≠ gb172))
                have n8_ := Aside0.mk ((by rw [hg]; exact Nat.ne_of_gt (blk_lt (g := gb159) (o := .cells #[.int .i64 a0_0, .int .i64 a0_1, .int .i64 a0_2, .int .i64 a0_3, .int .i64 a0_4] 23 (0, 0)) (by (with_reducible repeat (first | refine blk_drewN ?_ _ | refine blk_drew ?_ | refine blk_alloc ?_ _)); exact BK159.out)) : gb172 ≠ gb159))
                have n9_ := Aside0.mk ((by rw [hg]; exact Nat.ne_of_lt (blk_lt (g := gb160) (o := .cells #[.int .i64 a1_0, .int .i64 a1_1, .int .i64 a1_2, .int .i64 a1_3, .int .i64 a1_4] 23 (0, 0)) (by (with_reducible repeat (first | refine blk_drewN ?_ _ | refine blk_drew ?_ | refine blk_alloc ?_ _)); exact BK160.out)) : gb160 ≠ gb172))
                have n10_ := Aside0.mk ((by rw [hg]; exact Nat.ne_of_gt (blk_lt (g := gb160) (o := .cells #[.int .i64 a1_0, .int .i64 a1_1, .int .i64 a1_2, .int .i64 a1_3, .int .i64 a1_4] 23 (0, 0)) (by (with_reducible repeat (first | refine blk_drewN ?_ _ | refine blk_drew ?_ | refine blk_alloc ?_ _)); exact BK160.out)) : gb172 ≠ gb160))
                have n11_ := Aside0.mk ((by rw [hg]; exact Nat.ne_of_lt (blk_lt (g := gb171) (o := .cells #[.int .i64 0, .int .i64 0, .int .i64 0, .int .i64 0, .int .i64 0] 23 (0, 0)) (by (with_reducible repeat (first | refine blk_drewN ?_ _ | refine blk_drew ?_ | refine blk_alloc ?_ _)); exact BK171.out)) : gb171 ≠ gb172))
                have n12_ := Aside0.mk ((by rw [hg]; exact Nat.ne_of_gt (blk_lt (g := gb171) (o := .cells #[.int .i64 0, .int .i64 0, .int .i64 0, .int .i64 0, .int .i64 0] 23 (0, 0)) (by (with_reducible repeat (first | refine blk_drewN ?_ _ | refine blk_drew ?_ | refine blk_alloc ?_ _)); exact BK171.out)) : gb172 ≠ gb171))
                clear BK159
                clear BK160
                clear BK171
                clear HB
                have BK159 := n0_
                have BK160 := n1_
                have BK171 := n2_
                have HB := n3_
                have BK172 := n4_
                have GW172 := n5_
                have GE172 := n6_
                have NB159_172 := n7_
                have NB172_159 := n8_
                have NB160_172 := n9_
                have NB172_160 := n10_
                have NB171_172 := n11_
                have NB172_171 := n12_
                clear n0_ n1_ n2_ n3_ n4_ n5_ n6_ n7_ n8_ n9_ n10_ n11_ n12_
                clear hb hbox hg
                refine hK.out _ _ ⟨(blk_cell BK159.out 0).trans rfl, (blk_cell BK159.out 1).trans rfl, (blk_cell BK159.out 2).trans rfl, (blk_cell BK159.out 3).trans rfl, (blk_cell BK159.out 4).trans rfl, (blk_cell BK160.out 0).trans rfl, (blk_cell BK160.out 1).trans rfl, (blk_cell BK160.out 2).trans rfl, (blk_cell BK160.out 3).trans rfl, (blk_cell BK160.out 4).trans rfl⟩ (fun hHeld => ?_)
                clear hK K
                refine norm_ (a' := ?_) ?_ ?_
                rotate_left
                · show Act.put _ (some 6) _ = _
                  simp only [Act.put, List.setIfInBounds_toArray, List.set_cons_zero, List.set_cons_succ, i64_w, i32_w]
                  rfl
                exact norm_ (by first | (simp only [putAll, Act.put, List.setIfInBounds_toArray, List.set_cons_zero, List.set_cons_succ]; done) | (simp only [putAll, Act.put, List.setIfInBounds_toArray, List.set_cons_zero, List.set_cons_succ]; rfl)) (hJ1_4_5 (gb171, gb172) _ ⟨hHeld, (by (with_reducible repeat (first | refine blk_drewN ?_ _ | refine blk_drew ?_ | refine blk_alloc ?_ _)); exact BK159.out), (by (with_reducible repeat (first | refine blk_drewN ?_ _ | refine blk_drew ?_ | refine blk_alloc ?_ _)); exact BK160.out), (by (with_reducible repeat (first | refine blk_drewN ?_ _ | refine blk_drew ?_ | refine blk_alloc ?_ _)); exact BK171.out), (by (with_reducible repeat (first | refine blk_drewN ?_ _ | refine blk_drew ?_ | refine blk_alloc ?_ _)); exact BK172.out), GW171.out, GE171.out, NB159_171.out, NB171_159.out, NB160_171.out, NB171_160.out, NB172_171.out, NB171_172.out, GW172.out, GE172.out, NB159_172.out, NB172_159.out, NB160_172.out, NB172_160.out, (by repeat (first | (with_reducible first | exact HB.out | apply below_alloc | apply pw_below_drewN | apply below_drew1 | refine below_set ?_ GE159.out | refine below_set ?_ GE160.out | refine below_set ?_ GE171.out | refine below_set ?_ GE172.out) | exact HB.out))⟩)
          · skip
            rintro _ w15 ⟨hS_, h0_, h1_, h2_⟩
            have n0_ : Aside0 (w15.heap[gb159]? = some (.cells #[.int .i64 a0_0, .int .i64 a0_1, .int .i64 a0_2, .int .i64 a0_3, .int .i64 a0_4] 23 (0, 0))) := ⟨h0_⟩
            have n1_ : Aside0 (w15.heap[gb160]? = some (.cells #[.int .i64 a1_0, .int .i64 a1_1, .int .i64 a1_2, .int .i64 a1_3, .int .i64 a1_4] 23 (0, 0))) := ⟨h1_⟩
            have n2_ : Aside0 (Below w.heap.size w w15) := ⟨h2_⟩
            clear BK159
            clear BK160
            clear HB
            clear h0_ h1_ h2_
            have BK159 := n0_
            have BK160 := n1_
            have HB := n2_
            clear n0_ n1_ n2_
            have hHeld : w15.cell? ⟨gb159, 0, none⟩ = some (.int .i64 a0_0) ∧ w15.cell? ⟨gb159, 1, none⟩ = some (.int .i64 a0_1) ∧ w15.cell? ⟨gb159, 2, none⟩ = some (.int .i64 a0_2) ∧ w15.cell? ⟨gb159, 3, none⟩ = some (.int .i64 a0_3) ∧ w15.cell? ⟨gb159, 4, none⟩ = some (.int .i64 a0_4) ∧ w15.cell? ⟨gb160, 0, none⟩ = some (.int .i64 a1_0) ∧ w15.cell? ⟨gb160, 1, none⟩ = some (.int .i64 a1_1) ∧ w15.cell? ⟨gb160, 2, none⟩ = some (.int .i64 a1_2) ∧ w15.cell? ⟨gb160, 3, none⟩ = some (.int .i64 a1_3) ∧ w15.cell? ⟨gb160, 4, none⟩ = some (.int .i64 a1_4) := hS_
            refine norm_ (a' := ?_) ?_ ?_
            rotate_left
            · simp only [putAll, Act.put, List.setIfInBounds_toArray, List.set_cons_zero, List.set_cons_succ]
              rfl
            refine two_ (i := 4) (j := 5) (Ni := some 5) (Nj := some 6) #[true, true, true, true, true, false, false, false] #[true, true, true, true, false, true, false, false] rfl rfl rfl rfl (two_of HT_.out (by kernel_rfl)) (by decide) (by decide) (fun K hK => ?_) (fun K hK => ?_)
            · skip
              refine box_step ?hg (N := 5) ?hd (cs := #[.int .i64 0, .int .i64 0, .int .i64 0, .int .i64 0, .int .i64 0]) (t := 23) ?hr ?_; (case hd => rfl); (case hg => rfl); (case hr => first | (go_simp; done) | (go_simp; rfl))
              intro gb171 hg w16 hbox hb
              have n0_ := Aside0.mk (blk_below (g := gb159) (o := .cells #[.int .i64 a0_0, .int .i64 a0_1, .int .i64 a0_2, .int .i64 a0_3, .int .i64 a0_4] 23 (0, 0)) (by (with_reducible repeat (first | refine blk_drewN ?_ _ | refine blk_drew ?_ | refine blk_alloc ?_ _)); exact BK159.out) hb)
              have n1_ := Aside0.mk (blk_below (g := gb160) (o := .cells #[.int .i64 a1_0, .int .i64 a1_1, .int .i64 a1_2, .int .i64 a1_3, .int .i64 a1_4] 23 (0, 0)) (by (with_reducible repeat (first | refine blk_drewN ?_ _ | refine blk_drew ?_ | refine blk_alloc ?_ _)); exact BK160.out) hb)
              have n2_ := Aside0.mk (below_step (by repeat (first | (with_reducible first | exact HB.out | apply below_alloc | apply pw_below_drewN | apply below_drew1 | refine below_set ?_ GE159.out | refine below_set ?_ GE160.out) | exact HB.out)) hb)
              have n3_ := Aside0.mk (hbox)
              have n4_ := Aside0.mk ((by rw [hg]; exact (below_size (by repeat (first | (with_reducible first | exact HB.out | apply below_alloc | apply pw_below_drewN | apply below_drew1 | refine below_set ?_ GE159.out | refine below_set ?_ GE160.out) | exact HB.out))) : w.heap.size ≤ gb171))
              have n5_ := Aside0.mk ((by rw [hg]; exact (below_size (by repeat (first | (with_reducible first | exact HB.out | apply below_alloc | apply pw_below_drewN | apply below_drew1 | refine below_set ?_ GE159.out | refine below_set ?_ GE160.out) | exact HB.out))) : w.heap.size ≤ gb171))
              have n6_ := Aside0.mk ((by rw [hg]; exact Nat.ne_of_lt (blk_lt (g := gb159) (o := .cells #[.int .i64 a0_0, .int .i64 a0_1, .int .i64 a0_2, .int .i64 a0_3, .int .i64 a0_4] 23 (0, 0)) (by (with_reducible repeat (first | refine blk_drewN ?_ _ | refine blk_drew ?_ | refine blk_alloc ?_ _)); exact BK159.out)) : gb159 ≠ gb171))
              have n7_ := Aside0.mk ((by rw [hg]; exact Nat.ne_of_gt (blk_lt (g := gb159) (o := .cells #[.int .i64 a0_0, .int .i64 a0_1, .int .i64 a0_2, .int .i64 a0_3, .int .i64 a0_4] 23 (0, 0)) (by (with_reducible repeat (first | refine blk_drewN ?_ _ | refine blk_drew ?_ | refine blk_alloc ?_ _)); exact BK159.out)) : gb171 ≠ gb159))
              have n8_ := Aside0.mk ((by rw [hg]; exact Nat.ne_of_lt (blk_lt (g := gb160) (o := .cells #[.int .i64 a1_0, .int .i64 a1_1, .int .i64 a1_2, .int .i64 a1_3, .int .i64 a1_4] 23 (0, 0)) (by (with_reducible repeat (first | refine blk_drewN ?_ _ | refine blk_drew ?_ | refine blk_alloc ?_ _)); exact BK160.out)) : gb160 ≠ gb171))
              have n9_ := Aside0.mk ((by rw [hg]; exact Nat.ne_of_gt (blk_lt (g := gb160) (o := .cells #[.int .i64 a1_0, .int .i64 a1_1, .int .i64 a1_2, .int .i64 a1_3, .int .i64 a1_4] 23 (0, 0)) (by (with_reducible repeat (first | refine blk_drewN ?_ _ | refine blk_drew ?_ | refine blk_alloc ?_ _)); exact BK160.out)) : gb171 ≠ gb160))
              clear BK159
              clear BK160
              clear HB
              have BK159 := n0_
              have BK160 := n1_
              have HB := n2_
              have BK171 := n3_
              have GW171 := n4_
              have GE171 := n5_
              have NB159_171 := n6_
              have NB171_159 := n7_
              have NB160_171 := n8_
              have NB171_160 := n9_
              clear n0_ n1_ n2_ n3_ n4_ n5_ n6_ n7_ n8_ n9_
              clear hb hbox hg
              refine hK.out _ _ ⟨(blk_cell BK159.out 0).trans rfl, (blk_cell BK159.out 1).trans rfl, (blk_cell BK159.out 2).trans rfl, (blk_cell BK159.out 3).trans rfl, (blk_cell BK159.out 4).trans rfl, (blk_cell BK160.out 0).trans rfl, (blk_cell BK160.out 1).trans rfl, (blk_cell BK160.out 2).trans rfl, (blk_cell BK160.out 3).trans rfl, (blk_cell BK160.out 4).trans rfl⟩ (fun hHeld => ?_)
              clear hK K
              refine norm_ (a' := ?_) ?_ ?_
              rotate_left
              · show Act.put _ (some 5) _ = _
                simp only [Act.put, List.setIfInBounds_toArray, List.set_cons_zero, List.set_cons_succ, i64_w, i32_w]
                rfl
              exact norm_ (by first | (simp only [putAll, Act.put, List.setIfInBounds_toArray, List.set_cons_zero, List.set_cons_succ]; done) | (simp only [putAll, Act.put, List.setIfInBounds_toArray, List.set_cons_zero, List.set_cons_succ]; rfl)) (hJ1_3_4 (gb171) _ ⟨hHeld, (by (with_reducible repeat (first | refine blk_drewN ?_ _ | refine blk_drew ?_ | refine blk_alloc ?_ _)); exact BK159.out), (by (with_reducible repeat (first | refine blk_drewN ?_ _ | refine blk_drew ?_ | refine blk_alloc ?_ _)); exact BK160.out), (by (with_reducible repeat (first | refine blk_drewN ?_ _ | refine blk_drew ?_ | refine blk_alloc ?_ _)); exact BK171.out), GW171.out, GE171.out, NB159_171.out, NB171_159.out, NB160_171.out, NB171_160.out, (by repeat (first | (with_reducible first | exact HB.out | apply below_alloc | apply pw_below_drewN | apply below_drew1 | refine below_set ?_ GE159.out | refine below_set ?_ GE160.out | refine below_set ?_ GE171.out) | exact HB.out))⟩)
            · skip
              refine box_step ?hg (N := 6) ?hd (cs := #[.int .i64 0, .int .i64 0, .int .i64 0, .int .i64 0, .int .i64 0]) (t := 23) ?hr ?_; (case hd => rfl); (case hg => rfl); (case hr => first | (go_simp; done) | (go_simp; rfl))
              intro gb172 hg w16 hbox hb
              have n0_ := Aside0.mk (blk_below (g := gb159) (o := .cells #[.int .i64 a0_0, .int .i64 a0_1, .int .i64 a0_2, .int .i64 a0_3, .int .i64 a0_4] 23 (0, 0)) (by (with_reducible repeat (first | refine blk_drewN ?_ _ | refine blk_drew ?_ | refine blk_alloc ?_ _)); exact BK159.out) hb)
              have n1_ := Aside0.mk (blk_below (g := gb160) (o := .cells #[.int .i64 a1_0, .int .i64 a1_1, .int .i64 a1_2, .int .i64 a1_3, .int .i64 a1_4] 23 (0, 0)) (by (with_reducible repeat (first | refine blk_drewN ?_ _ | refine blk_drew ?_ | refine blk_alloc ?_ _)); exact BK160.out) hb)
              have n2_ := Aside0.mk (below_step (by repeat (first | (with_reducible first | exact HB.out | apply below_alloc | apply pw_below_drewN | apply below_drew1 | refine below_set ?_ GE159.out | refine below_set ?_ GE160.out) | exact HB.out)) hb)
              have n3_ := Aside0.mk (hbox)
              have n4_ := Aside0.mk ((by rw [hg]; exact (below_size (by repeat (first | (with_reducible first | exact HB.out | apply below_alloc | apply pw_below_drewN | apply below_drew1 | refine below_set ?_ GE159.out | refine below_set ?_ GE160.out) | exact HB.out))) : w.heap.size ≤ gb172))
              have n5_ := Aside0.mk ((by rw [hg]; exact (below_size (by repeat (first | (with_reducible first | exact HB.out | apply below_alloc | apply pw_below_drewN | apply below_drew1 | refine below_set ?_ GE159.out | refine below_set ?_ GE160.out) | exact HB.out))) : w.heap.size ≤ gb172))
              have n6_ := Aside0.mk ((by rw [hg]; exact Nat.ne_of_lt (blk_lt (g := gb159) (o := .cells #[.int .i64 a0_0, .int .i64 a0_1, .int .i64 a0_2, .int .i64 a0_3, .int .i64 a0_4] 23 (0, 0)) (by (with_reducible repeat (first | refine blk_drewN ?_ _ | refine blk_drew ?_ | refine blk_alloc ?_ _)); exact BK159.out)) : gb159 ≠ gb172))
              have n7_ := Aside0.mk ((by rw [hg]; exact Nat.ne_of_gt (blk_lt (g := gb159) (o := .cells #[.int .i64 a0_0, .int .i64 a0_1, .int .i64 a0_2, .int .i64 a0_3, .int .i64 a0_4] 23 (0, 0)) (by (with_reducible repeat (first | refine blk_drewN ?_ _ | refine blk_drew ?_ | refine blk_alloc ?_ _)); exact BK159.out)) : gb172 ≠ gb159))
              have n8_ := Aside0.mk ((by rw [hg]; exact Nat.ne_of_lt (blk_lt (g := gb160) (o := .cells #[.int .i64 a1_0, .int .i64 a1_1, .int .i64 a1_2, .int .i64 a1_3, .int .i64 a1_4] 23 (0, 0)) (by (with_reducible repeat (first | refine blk_drewN ?_ _ | refine blk_drew ?_ | refine blk_alloc ?_ _)); exact BK160.out)) : gb160 ≠ gb172))
              have n9_ := Aside0.mk ((by rw [hg]; exact Nat.ne_of_gt (blk_lt (g := gb160) (o := .cells #[.int .i64 a1_0, .int .i64 a1_1, .int .i64 a1_2, .int .i64 a1_3, .int .i64 a1_4] 23 (0, 0)) (by (with_reducible repeat (first | refine blk_drewN ?_ _ | refine blk_drew ?_ | refine blk_alloc ?_ _)); exact BK160.out)) : gb172 ≠ gb160))
              clear BK159
              clear BK160
              clear HB
              have BK159 := n0_
              have BK160 := n1_
              have HB := n2_
              have BK172 := n3_
              have GW172 := n4_
              have GE172 := n5_
              have NB159_172 := n6_
              have NB172_159 := n7_
              have NB160_172 := n8_
              have NB172_160 := n9_
              clear n0_ n1_ n2_ n3_ n4_ n5_ n6_ n7_ n8_ n9_
              clear hb hbox hg
              refine hK.out _ _ ⟨(blk_cell BK159.out 0).trans rfl, (blk_cell BK159.out 1).trans rfl, (blk_cell BK159.out 2).trans rfl, (blk_cell BK159.out 3).trans rfl, (blk_cell BK159.out 4).trans rfl, (blk_cell BK160.out 0).trans rfl, (blk_cell BK160.out 1).trans rfl, (blk_cell BK160.out 2).trans rfl, (blk_cell BK160.out 3).trans rfl, (blk_cell BK160.out 4).trans rfl⟩ (fun hHeld => ?_)
              clear hK K
              refine norm_ (a' := ?_) ?_ ?_
              rotate_left
              · show Act.put _ (some 6) _ = _
                simp only [Act.put, List.setIfInBounds_toArray, List.set_cons_zero, List.set_cons_succ, i64_w, i32_w]
                rfl
              exact norm_ (by first | (simp only [putAll, Act.put, List.setIfInBounds_toArray, List.set_cons_zero, List.set_cons_succ]; done) | (simp only [putAll, Act.put, List.setIfInBounds_toArray, List.set_cons_zero, List.set_cons_succ]; rfl)) (hJ1_3_5 (gb172) _ ⟨hHeld, (by (with_reducible repeat (first | refine blk_drewN ?_ _ | refine blk_drew ?_ | refine blk_alloc ?_ _)); exact BK159.out), (by (with_reducible repeat (first | refine blk_drewN ?_ _ | refine blk_drew ?_ | refine blk_alloc ?_ _)); exact BK160.out), (by (with_reducible repeat (first | refine blk_drewN ?_ _ | refine blk_drew ?_ | refine blk_alloc ?_ _)); exact BK172.out), GW172.out, GE172.out, NB159_172.out, NB172_159.out, NB160_172.out, NB172_160.out, (by repeat (first | (with_reducible first | exact HB.out | apply below_alloc | apply pw_below_drewN | apply below_drew1 | refine below_set ?_ GE159.out | refine below_set ?_ GE160.out | refine below_set ?_ GE172.out) | exact HB.out))⟩)
        · skip
          rintro ⟨gb171, gb172⟩ w16 ⟨hS_, h0_, h1_, h2_, h3_, h4_, h5_, h6_, h7_, h8_, h9_, h10_, h11_, h12_, h13_, h14_, h15_, h16_, h17_, h18_⟩
          have n0_ : Aside0 (w16.heap[gb159]? = some (.cells #[.int .i64 a0_0, .int .i64 a0_1, .int .i64 a0_2, .int .i64 a0_3, .int .i64 a0_4] 23 (0, 0))) := ⟨h0_⟩
          have n1_ : Aside0 (w16.heap[gb160]? = some (.cells #[.int .i64 a1_0, .int .i64 a1_1, .int .i64 a1_2, .int .i64 a1_3, .int .i64 a1_4] 23 (0, 0))) := ⟨h1_⟩
          have n2_ : Aside0 (w16.heap[gb171]? = some (.cells #[.int .i64 0, .int .i64 0, .int .i64 0, .int .i64 0, .int .i64 0] 23 (0, 0))) := ⟨h2_⟩
          have n3_ : Aside0 (w16.heap[gb172]? = some (.cells #[.int .i64 0, .int .i64 0, .int .i64 0, .int .i64 0, .int .i64 0] 23 (0, 0))) := ⟨h3_⟩
          have n4_ : Aside0 (w.heap.size ≤ gb171) := ⟨h4_⟩
          have n5_ : Aside0 (w.heap.size ≤ gb171) := ⟨h5_⟩
          have n6_ : Aside0 (gb159 ≠ gb171) := ⟨h6_⟩
          have n7_ : Aside0 (gb171 ≠ gb159) := ⟨h7_⟩
          have n8_ : Aside0 (gb160 ≠ gb171) := ⟨h8_⟩
          have n9_ : Aside0 (gb171 ≠ gb160) := ⟨h9_⟩
          have n10_ : Aside0 (gb172 ≠ gb171) := ⟨h10_⟩
          have n11_ : Aside0 (gb171 ≠ gb172) := ⟨h11_⟩
          have n12_ : Aside0 (w.heap.size ≤ gb172) := ⟨h12_⟩
          have n13_ : Aside0 (w.heap.size ≤ gb172) := ⟨h13_⟩
          have n14_ : Aside0 (gb159 ≠ gb172) := ⟨h14_⟩
          have n15_ : Aside0 (gb172 ≠ gb159) := ⟨h15_⟩
          have n16_ : Aside0 (gb160 ≠ gb172) := ⟨h16_⟩
          have n17_ : Aside0 (gb172 ≠ gb160) := ⟨h17_⟩
          have n18_ : Aside0 (Below w.heap.size w w16) := ⟨h18_⟩
          clear BK159
          clear BK160
          clear HB
          clear h0_ h1_ h2_ h3_ h4_ h5_ h6_ h7_ h8_ h9_ h10_ h11_ h12_ h13_ h14_ h15_ h16_ h17_ h18_
          have BK159 := n0_
          have BK160 := n1_
          have BK171 := n2_
          have BK172 := n3_
          have GW171 := n4_
          have GE171 := n5_
          have NB159_171 := n6_
          have NB171_159 := n7_
          have NB160_171 := n8_
          have NB171_160 := n9_
          have NB172_171 := n10_
          have NB171_172 := n11_
          have GW172 := n12_
          have GE172 := n13_
          have NB159_172 := n14_
          have NB172_159 := n15_
          have NB160_172 := n16_
          have NB172_160 := n17_
          have HB := n18_
          clear n0_ n1_ n2_ n3_ n4_ n5_ n6_ n7_ n8_ n9_ n10_ n11_ n12_ n13_ n14_ n15_ n16_ n17_ n18_
          have hHeld : w16.cell? ⟨gb159, 0, none⟩ = some (.int .i64 a0_0) ∧ w16.cell? ⟨gb159, 1, none⟩ = some (.int .i64 a0_1) ∧ w16.cell? ⟨gb159, 2, none⟩ = some (.int .i64 a0_2) ∧ w16.cell? ⟨gb159, 3, none⟩ = some (.int .i64 a0_3) ∧ w16.cell? ⟨gb159, 4, none⟩ = some (.int .i64 a0_4) ∧ w16.cell? ⟨gb160, 0, none⟩ = some (.int .i64 a1_0) ∧ w16.cell? ⟨gb160, 1, none⟩ = some (.int .i64 a1_1) ∧ w16.cell? ⟨gb160, 2, none⟩ = some (.int .i64 a1_2) ∧ w16.cell? ⟨gb160, 3, none⟩ = some (.int .i64 a1_3) ∧ w16.cell? ⟨gb160, 4, none⟩ = some (.int .i64 a1_4) := hS_
          refine norm_ (a' := ?_) ?_ ?_
          rotate_left
          · simp only [putAll, Act.put, List.setIfInBounds_toArray, List.set_cons_zero, List.set_cons_succ]
            rfl
          refine one_ (i := 3) (N := some 10) #[true, true, true, true, true, true, false, false] rfl rfl (one_of HT_.out (by kernel_rfl)) (by decide) (fun K hK => ?_)
          refine goes_ Try.func22 (by kernel_rfl) rfl #[.agg #[.int .i64 a1_0, .int .i64 a1_1, .int .i64 a1_2, .int .i64 a1_3, .int .i64 a1_4]] (by rfl) rfl rfl (by (try simp only [List.map_toArray, List.map_cons, List.map_nil]); first | done | rfl | (simp only [List.length_drop, List.length_take]; rfl)) ?_
          with_reducible refine (limit_fair.calls a1_0 a1_1 a1_2 a1_3 a1_4 t166 t167 t168 t169 t170 _ A4.out).mono ?_
          rintro e w17 ⟨rfl, hb⟩
          refine ⟨_, rfl, ?_⟩
          have n0_ := Aside0.mk (blk_below (g := gb159) (o := .cells #[.int .i64 a0_0, .int .i64 a0_1, .int .i64 a0_2, .int .i64 a0_3, .int .i64 a0_4] 23 (0, 0)) (by (with_reducible repeat (first | refine blk_drewN ?_ _ | refine blk_drew ?_ | refine blk_alloc ?_ _)); exact BK159.out) hb)
          have n1_ := Aside0.mk (blk_below (g := gb160) (o := .cells #[.int .i64 a1_0, .int .i64 a1_1, .int .i64 a1_2, .int .i64 a1_3, .int .i64 a1_4] 23 (0, 0)) (by (with_reducible repeat (first | refine blk_drewN ?_ _ | refine blk_drew ?_ | refine blk_alloc ?_ _)); exact BK160.out) hb)
          have n2_ := Aside0.mk (blk_below (g := gb171) (o := .cells #[.int .i64 0, .int .i64 0, .int .i64 0, .int .i64 0, .int .i64 0] 23 (0, 0)) (by (with_reducible repeat (first | refine blk_drewN ?_ _ | refine blk_drew ?_ | refine blk_alloc ?_ _)); exact BK171.out) hb)
          have n3_ := Aside0.mk (blk_below (g := gb172) (o := .cells #[.int .i64 0, .int .i64 0, .int .i64 0, .int .i64 0, .int .i64 0] 23 (0, 0)) (by (with_reducible repeat (first | refine blk_drewN ?_ _ | refine blk_drew ?_ | refine blk_alloc ?_ _)); exact BK172.out) hb)
          have n4_ := Aside0.mk (below_step (by repeat (first | (with_reducible first | exact HB.out | apply below_alloc | apply pw_below_drewN | apply below_drew1 | refine below_set ?_ GE159.out | refine below_set ?_ GE160.out | refine below_set ?_ GE171.out | refine below_set ?_ GE172.out) | exact HB.out)) hb)
          clear BK159
          clear BK160
          clear BK171
          clear BK172
          clear HB
          have BK159 := n0_
          have BK160 := n1_
          have BK171 := n2_
          have BK172 := n3_
          have HB := n4_
          clear n0_ n1_ n2_ n3_ n4_
          (try clear hb)
          (try clear hb2)
          (try clear hk)
          (try clear hi)
          refine hK.out _ _ ⟨(blk_cell BK159.out 0).trans rfl, (blk_cell BK159.out 1).trans rfl, (blk_cell BK159.out 2).trans rfl, (blk_cell BK159.out 3).trans rfl, (blk_cell BK159.out 4).trans rfl, (blk_cell BK160.out 0).trans rfl, (blk_cell BK160.out 1).trans rfl, (blk_cell BK160.out 2).trans rfl, (blk_cell BK160.out 3).trans rfl, (blk_cell BK160.out 4).trans rfl⟩ (fun hHeld => ?_)
          clear hK K
          refine norm_ (a' := ?_) ?_ ?_
          rotate_left
          · show Act.put _ (some 10) _ = _
            simp only [Act.put, List.setIfInBounds_toArray, List.set_cons_zero, List.set_cons_succ, i64_w, i32_w]
            rfl
          exact norm_ (by first | (simp only [putAll, Act.put, List.setIfInBounds_toArray, List.set_cons_zero, List.set_cons_succ]; done) | (simp only [putAll, Act.put, List.setIfInBounds_toArray, List.set_cons_zero, List.set_cons_succ]; rfl)) (hJ1_3_4_5 (gb171, gb172) _ ⟨hHeld, (by (with_reducible repeat (first | refine blk_drewN ?_ _ | refine blk_drew ?_ | refine blk_alloc ?_ _)); exact BK159.out), (by (with_reducible repeat (first | refine blk_drewN ?_ _ | refine blk_drew ?_ | refine blk_alloc ?_ _)); exact BK160.out), (by (with_reducible repeat (first | refine blk_drewN ?_ _ | refine blk_drew ?_ | refine blk_alloc ?_ _)); exact BK171.out), (by (with_reducible repeat (first | refine blk_drewN ?_ _ | refine blk_drew ?_ | refine blk_alloc ?_ _)); exact BK172.out), GW171.out, GE171.out, NB159_171.out, NB171_159.out, NB160_171.out, NB171_160.out, NB172_171.out, NB171_172.out, GW172.out, GE172.out, NB159_172.out, NB172_159.out, NB160_172.out, NB172_160.out, (by repeat (first | (with_reducible first | exact HB.out | apply below_alloc | apply pw_below_drewN | apply below_drew1 | refine below_set ?_ GE159.out | refine below_set ?_ GE160.out | refine below_set ?_ GE171.out | refine below_set ?_ GE172.out) | exact HB.out))⟩)
      · skip
        rintro gb172 w16 ⟨hS_, h0_, h1_, h2_, h3_, h4_, h5_, h6_, h7_, h8_, h9_⟩
        have n0_ : Aside0 (w16.heap[gb159]? = some (.cells #[.int .i64 a0_0, .int .i64 a0_1, .int .i64 a0_2, .int .i64 a0_3, .int .i64 a0_4] 23 (0, 0))) := ⟨h0_⟩
        have n1_ : Aside0 (w16.heap[gb160]? = some (.cells #[.int .i64 a1_0, .int .i64 a1_1, .int .i64 a1_2, .int .i64 a1_3, .int .i64 a1_4] 23 (0, 0))) := ⟨h1_⟩
        have n2_ : Aside0 (w16.heap[gb172]? = some (.cells #[.int .i64 0, .int .i64 0, .int .i64 0, .int .i64 0, .int .i64 0] 23 (0, 0))) := ⟨h2_⟩
        have n3_ : Aside0 (w.heap.size ≤ gb172) := ⟨h3_⟩
        have n4_ : Aside0 (w.heap.size ≤ gb172) := ⟨h4_⟩
        have n5_ : Aside0 (gb159 ≠ gb172) := ⟨h5_⟩
        have n6_ : Aside0 (gb172 ≠ gb159) := ⟨h6_⟩
        have n7_ : Aside0 (gb160 ≠ gb172) := ⟨h7_⟩
        have n8_ : Aside0 (gb172 ≠ gb160) := ⟨h8_⟩
        have n9_ : Aside0 (Below w.heap.size w w16) := ⟨h9_⟩
        clear BK159
        clear BK160
        clear HB
        clear h0_ h1_ h2_ h3_ h4_ h5_ h6_ h7_ h8_ h9_
        have BK159 := n0_
        have BK160 := n1_
        have BK172 := n2_
        have GW172 := n3_
        have GE172 := n4_
        have NB159_172 := n5_
        have NB172_159 := n6_
        have NB160_172 := n7_
        have NB172_160 := n8_
        have HB := n9_
        clear n0_ n1_ n2_ n3_ n4_ n5_ n6_ n7_ n8_ n9_
        have hHeld : w16.cell? ⟨gb159, 0, none⟩ = some (.int .i64 a0_0) ∧ w16.cell? ⟨gb159, 1, none⟩ = some (.int .i64 a0_1) ∧ w16.cell? ⟨gb159, 2, none⟩ = some (.int .i64 a0_2) ∧ w16.cell? ⟨gb159, 3, none⟩ = some (.int .i64 a0_3) ∧ w16.cell? ⟨gb159, 4, none⟩ = some (.int .i64 a0_4) ∧ w16.cell? ⟨gb160, 0, none⟩ = some (.int .i64 a1_0) ∧ w16.cell? ⟨gb160, 1, none⟩ = some (.int .i64 a1_1) ∧ w16.cell? ⟨gb160, 2, none⟩ = some (.int .i64 a1_2) ∧ w16.cell? ⟨gb160, 3, none⟩ = some (.int .i64 a1_3) ∧ w16.cell? ⟨gb160, 4, none⟩ = some (.int .i64 a1_4) := hS_
        refine norm_ (a' := ?_) ?_ ?_
        rotate_left
        · simp only [putAll, Act.put, List.setIfInBounds_toArray, List.set_cons_zero, List.set_cons_succ]
          rfl
        refine one_ (i := 4) (N := some 5) #[true, true, true, true, true, true, false, false] rfl rfl (one_of HT_.out (by kernel_rfl)) (by decide) (fun K hK => ?_)
        refine box_step ?hg (N := 5) ?hd (cs := #[.int .i64 0, .int .i64 0, .int .i64 0, .int .i64 0, .int .i64 0]) (t := 23) ?hr ?_; (case hd => rfl); (case hg => rfl); (case hr => first | (go_simp; done) | (go_simp; rfl))
        intro gb171 hg w17 hbox hb
        have n0_ := Aside0.mk (blk_below (g := gb159) (o := .cells #[.int .i64 a0_0, .int .i64 a0_1, .int .i64 a0_2, .int .i64 a0_3, .int .i64 a0_4] 23 (0, 0)) (by (with_reducible repeat (first | refine blk_drewN ?_ _ | refine blk_drew ?_ | refine blk_alloc ?_ _)); exact BK159.out) hb)
        have n1_ := Aside0.mk (blk_below (g := gb160) (o := .cells #[.int .i64 a1_0, .int .i64 a1_1, .int .i64 a1_2, .int .i64 a1_3, .int .i64 a1_4] 23 (0, 0)) (by (with_reducible repeat (first | refine blk_drewN ?_ _ | refine blk_drew ?_ | refine blk_alloc ?_ _)); exact BK160.out) hb)
        have n2_ := Aside0.mk (blk_below (g := gb172) (o := .cells #[.int .i64 0, .int .i64 0, .int .i64 0, .int .i64 0, .int .i64 0] 23 (0, 0)) (by (with_reducible repeat (first | refine blk_drewN ?_ _ | refine blk_drew ?_ | refine blk_alloc ?_ _)); exact BK172.out) hb)
        have n3_ := Aside0.mk (below_step (by repeat (first | (with_reducible first | exact HB.out | apply below_alloc | apply pw_below_drewN | apply below_drew1 | refine below_set ?_ GE159.out | refine below_set ?_ GE160.out | refine below_set ?_ GE172.out) | exact HB.out)) hb)
        have n4_ := Aside0.mk (hbox)
        have n5_ := Aside0.mk ((by rw [hg]; exact (below_size (by repeat (first | (with_reducible first | exact HB.out | apply below_alloc | apply pw_below_drewN | apply below_drew1 | refine below_set ?_ GE159.out | refine below_set ?_ GE160.out | refine below_set ?_ GE172.out) | exact HB.out))) : w.heap.size ≤ gb171))
        have n6_ := Aside0.mk ((by rw [hg]; exact (below_size (by repeat (first | (with_reducible first | exact HB.out | apply below_alloc | apply pw_below_drewN | apply below_drew1 | refine below_set ?_ GE159.out | refine below_set ?_ GE160.out | refine below_set ?_ GE172.out) | exact HB.out))) : w.heap.size ≤ gb171))
        have n7_ := Aside0.mk ((by rw [hg]; exact Nat.ne_of_lt (blk_lt (g := gb159) (o := .cells #[.int .i64 a0_0, .int .i64 a0_1, .int .i64 a0_2, .int .i64 a0_3, .int .i64 a0_4] 23 (0, 0)) (by (with_reducible repeat (first | refine blk_drewN ?_ _ | refine blk_drew ?_ | refine blk_alloc ?_ _)); exact BK159.out)) : gb159 ≠ gb171))
        have n8_ := Aside0.mk ((by rw [hg]; exact Nat.ne_of_gt (blk_lt (g := gb159) (o := .cells #[.int .i64 a0_0, .int .i64 a0_1, .int .i64 a0_2, .int .i64 a0_3, .int .i64 a0_4] 23 (0, 0)) (by (with_reducible repeat (first | refine blk_drewN ?_ _ | refine blk_drew ?_ | refine blk_alloc ?_ _)); exact BK159.out)) : gb171 ≠ gb159))
        have n9_ := Aside0.mk ((by rw [hg]; exact Nat.ne_of_lt (blk_lt (g := gb160) (o := .cells #[.int .i64 a1_0, .int .i64 a1_1, .int .i64 a1_2, .int .i64 a1_3, .int .i64 a1_4] 23 (0, 0)) (by (with_reducible repeat (first | refine blk_drewN ?_ _ | refine blk_drew ?_ | refine blk_alloc ?_ _)); exact BK160.out)) : gb160 ≠ gb171))
        have n10_ := Aside0.mk ((by rw [hg]; exact Nat.ne_of_gt (blk_lt (g := gb160) (o := .cells #[.int .i64 a1_0, .int .i64 a1_1, .int .i64 a1_2, .int .i64 a1_3, .int .i64 a1_4] 23 (0, 0)) (by (with_reducible repeat (first | refine blk_drewN ?_ _ | refine blk_drew ?_ | refine blk_alloc ?_ _)); exact BK160.out)) : gb171 ≠ gb160))
        have n11_ := Aside0.mk ((by rw [hg]; exact Nat.ne_of_lt (blk_lt (g := gb172) (o := .cells #[.int .i64 0, .int .i64 0, .int .i64 0, .int .i64 0, .int .i64 0] 23 (0, 0)) (by (with_reducible repeat (first | refine blk_drewN ?_ _ | refine blk_drew ?_ | refine blk_alloc ?_ _)); exact BK172.out)) : gb172 ≠ gb171))
        have n12_ := Aside0.mk ((by rw [hg]; exact Nat.ne_of_gt (blk_lt (g := gb172) (o := .cells #[.int .i64 0, .int .i64 0, .int .i64 0, .int .i64 0, .int .i64 0] 23 (0, 0)) (by (with_reducible repeat (first | refine blk_drewN ?_ _ | refine blk_drew ?_ | refine blk_alloc ?_ _)); exact BK172.out)) : gb171 ≠ gb172))
        clear BK159
        clear BK160
        clear BK172
        clear HB
        have BK159 := n0_
        have BK160 := n1_
        have BK172 := n2_
        have HB := n3_
        have BK171 := n4_
        have GW171 := n5_
        have GE171 := n6_
        have NB159_171 := n7_
        have NB171_159 := n8_
        have NB160_171 := n9_
        have NB171_160 := n10_
        have NB172_171 := n11_
        have NB171_172 := n12_
        clear n0_ n1_ n2_ n3_ n4_ n5_ n6_ n7_ n8_ n9_ n10_ n11_ n12_
        clear hb hbox hg
        refine hK.out _ _ ⟨(blk_cell BK159.out 0).trans rfl, (blk_cell BK159.out 1).trans rfl, (blk_cell BK159.out 2).trans rfl, (blk_cell BK159.out 3).trans rfl, (blk_cell BK159.out 4).trans rfl, (blk_cell BK160.out 0).trans rfl, (blk_cell BK160.out 1).trans rfl, (blk_cell BK160.out 2).trans rfl, (blk_cell BK160.out 3).trans rfl, (blk_cell BK160.out 4).trans rfl⟩ (fun hHeld => ?_)
        clear hK K
        refine norm_ (a' := ?_) ?_ ?_
        rotate_left
        · show Act.put _ (some 5) _ = _
          simp only [Act.put, List.setIfInBounds_toArray, List.set_cons_zero, List.set_cons_succ, i64_w, i32_w]
          rfl
        exact norm_ (by first | (simp only [putAll, Act.put, List.setIfInBounds_toArray, List.set_cons_zero, List.set_cons_succ]; done) | (simp only [putAll, Act.put, List.setIfInBounds_toArray, List.set_cons_zero, List.set_cons_succ]; rfl)) (hJ1_3_4_5 (gb171, gb172) _ ⟨hHeld, (by (with_reducible repeat (first | refine blk_drewN ?_ _ | refine blk_drew ?_ | refine blk_alloc ?_ _)); exact BK159.out), (by (with_reducible repeat (first | refine blk_drewN ?_ _ | refine blk_drew ?_ | refine blk_alloc ?_ _)); exact BK160.out), (by (with_reducible repeat (first | refine blk_drewN ?_ _ | refine blk_drew ?_ | refine blk_alloc ?_ _)); exact BK171.out), (by (with_reducible repeat (first | refine blk_drewN ?_ _ | refine blk_drew ?_ | refine blk_alloc ?_ _)); exact BK172.out), GW171.out, GE171.out, NB159_171.out, NB171_159.out, NB160_171.out, NB171_160.out, NB172_171.out, NB171_172.out, GW172.out, GE172.out, NB159_172.out, NB172_159.out, NB160_172.out, NB172_160.out, (by repeat (first | (with_reducible first | exact HB.out | apply below_alloc | apply pw_below_drewN | apply below_drew1 | refine below_set ?_ GE159.out | refine below_set ?_ GE160.out | refine below_set ?_ GE172.out | refine below_set ?_ GE171.out) | exact HB.out))⟩)
    · skip
      rintro gb171 w16 ⟨hS_, h0_, h1_, h2_, h3_, h4_, h5_, h6_, h7_, h8_, h9_⟩
      have n0_ : Aside0 (w16.heap[gb159]? = some (.cells #[.int .i64 a0_0, .int .i64 a0_1, .int .i64 a0_2, .int .i64 a0_3, .int .i64 a0_4] 23 (0, 0))) := ⟨h0_⟩
      have n1_ : Aside0 (w16.heap[gb160]? = some (.cells #[.int .i64 a1_0, .int .i64 a1_1, .int .i64 a1_2, .int .i64 a1_3, .int .i64 a1_4] 23 (0, 0))) := ⟨h1_⟩
      have n2_ : Aside0 (w16.heap[gb171]? = some (.cells #[.int .i64 0, .int .i64 0, .int .i64 0, .int .i64 0, .int .i64 0] 23 (0, 0))) := ⟨h2_⟩
      have n3_ : Aside0 (w.heap.size ≤ gb171) := ⟨h3_⟩
      have n4_ : Aside0 (w.heap.size ≤ gb171) := ⟨h4_⟩
      have n5_ : Aside0 (gb159 ≠ gb171) := ⟨h5_⟩
      have n6_ : Aside0 (gb171 ≠ gb159) := ⟨h6_⟩
      have n7_ : Aside0 (gb160 ≠ gb171) := ⟨h7_⟩
      have n8_ : Aside0 (gb171 ≠ gb160) := ⟨h8_⟩
      have n9_ : Aside0 (Below w.heap.size w w16) := ⟨h9_⟩
      clear BK159
      clear BK160
      clear HB
      clear h0_ h1_ h2_ h3_ h4_ h5_ h6_ h7_ h8_ h9_
      have BK159 := n0_
      have BK160 := n1_
      have BK171 := n2_
      have GW171 := n3_
      have GE171 := n4_
      have NB159_171 := n5_
      have NB171_159 := n6_
      have NB160_171 := n7_
      have NB171_160 := n8_
      have HB := n9_
      clear n0_ n1_ n2_ n3_ n4_ n5_ n6_ n7_ n8_ n9_
      have hHeld : w16.cell? ⟨gb159, 0, none⟩ = some (.int .i64 a0_0) ∧ w16.cell? ⟨gb159, 1, none⟩ = some (.int .i64 a0_1) ∧ w16.cell? ⟨gb159, 2, none⟩ = some (.int .i64 a0_2) ∧ w16.cell? ⟨gb159, 3, none⟩ = some (.int .i64 a0_3) ∧ w16.cell? ⟨gb159, 4, none⟩ = some (.int .i64 a0_4) ∧ w16.cell? ⟨gb160, 0, none⟩ = some (.int .i64 a1_0) ∧ w16.cell? ⟨gb160, 1, none⟩ = some (.int .i64 a1_1) ∧ w16.cell? ⟨gb160, 2, none⟩ = some (.int .i64 a1_2) ∧ w16.cell? ⟨gb160, 3, none⟩ = some (.int .i64 a1_3) ∧ w16.cell? ⟨gb160, 4, none⟩ = some (.int .i64 a1_4) := hS_
      refine norm_ (a' := ?_) ?_ ?_
      rotate_left
      · simp only [putAll, Act.put, List.setIfInBounds_toArray, List.set_cons_zero, List.set_cons_succ]
        rfl
      refine one_ (i := 5) (N := some 6) #[true, true, true, true, true, true, false, false] rfl rfl (one_of HT_.out (by kernel_rfl)) (by decide) (fun K hK => ?_)
      refine box_step ?hg (N := 6) ?hd (cs := #[.int .i64 0, .int .i64 0, .int .i64 0, .int .i64 0, .int .i64 0]) (t := 23) ?hr ?_; (case hd => rfl); (case hg => rfl); (case hr => first | (go_simp; done) | (go_simp; rfl))
      intro gb172 hg w17 hbox hb
      have n0_ := Aside0.mk (blk_below (g := gb159) (o := .cells #[.int .i64 a0_0, .int .i64 a0_1, .int .i64 a0_2, .int .i64 a0_3, .int .i64 a0_4] 23 (0, 0)) (by (with_reducible repeat (first | refine blk_drewN ?_ _ | refine blk_drew ?_ | refine blk_alloc ?_ _)); exact BK159.out) hb)
      have n1_ := Aside0.mk (blk_below (g := gb160) (o := .cells #[.int .i64 a1_0, .int .i64 a1_1, .int .i64 a1_2, .int .i64 a1_3, .int .i64 a1_4] 23 (0, 0)) (by (with_reducible repeat (first | refine blk_drewN ?_ _ | refine blk_drew ?_ | refine blk_alloc ?_ _)); exact BK160.out) hb)
      have n2_ := Aside0.mk (blk_below (g := gb171) (o := .cells #[.int .i64 0, .int .i64 0, .int .i64 0, .int .i64 0, .int .i64 0] 23 (0, 0)) (by (with_reducible repeat (first | refine blk_drewN ?_ _ | refine blk_drew ?_ | refine blk_alloc ?_ _)); exact BK171.out) hb)
      have n3_ := Aside0.mk (below_step (by repeat (first | (with_reducible first | exact HB.out | apply below_alloc | apply pw_below_drewN | apply below_drew1 | refine below_set ?_ GE159.out | refine below_set ?_ GE160.out | refine below_set ?_ GE171.out) | exact HB.out)) hb)
      have n4_ := Aside0.mk (hbox)
      have n5_ := Aside0.mk ((by rw [hg]; exact (below_size (by repeat (first | (with_reducible first | exact HB.out | apply below_alloc | apply pw_below_drewN | apply below_drew1 | refine below_set ?_ GE159.out | refine below_set ?_ GE160.out | refine below_set ?_ GE171.out) | exact HB.out))) : w.heap.size ≤ gb172))
      have n6_ := Aside0.mk ((by rw [hg]; exact (below_size (by repeat (first | (with_reducible first | exact HB.out | apply below_alloc | apply pw_below_drewN | apply below_drew1 | refine below_set ?_ GE159.out | refine below_set ?_ GE160.out | refine below_set ?_ GE171.out) | exact HB.out))) : w.heap.size ≤ gb172))
      have n7_ := Aside0.mk ((by rw [hg]; exact Nat.ne_of_lt (blk_lt (g := gb159) (o := .cells #[.int .i64 a0_0, .int .i64 a0_1, .int .i64 a0_2, .int .i64 a0_3, .int .i64 a0_4] 23 (0, 0)) (by (with_reducible repeat (first | refine blk_drewN ?_ _ | refine blk_drew ?_ | refine blk_alloc ?_ _)); exact BK159.out)) : gb159 ≠ gb172))
      have n8_ := Aside0.mk ((by rw [hg]; exact Nat.ne_of_gt (blk_lt (g := gb159) (o := .cells #[.int .i64 a0_0, .int .i64 a0_1, .int .i64 a0_2, .int .i64 a0_3, .int .i64 a0_4] 23 (0, 0)) (by (with_reducible repeat (first | refine blk_drewN ?_ _ | refine blk_drew ?_ | refine blk_alloc ?_ _)); exact BK159.out)) : gb172 ≠ gb159))
      have n9_ := Aside0.mk ((by rw [hg]; exact Nat.ne_of_lt (blk_lt (g := gb160) (o := .cells #[.int .i64 a1_0, .int .i64 a1_1, .int .i64 a1_2, .int .i64 a1_3, .int .i64 a1_4] 23 (0, 0)) (by (with_reducible repeat (first | refine blk_drewN ?_ _ | refine blk_drew ?_ | refine blk_alloc ?_ _)); exact BK160.out)) : gb160 ≠ gb172))
      have n10_ := Aside0.mk ((by rw [hg]; exact Nat.ne_of_gt (blk_lt (g := gb160) (o := .cells #[.int .i64 a1_0, .int .i64 a1_1, .int .i64 a1_2, .int .i64 a1_3, .int .i64 a1_4] 23 (0, 0)) (by (with_reducible repeat (first | refine blk_drewN ?_ _ | refine blk_drew ?_ | refine blk_alloc ?_ _)); exact BK160.out)) : gb172 ≠ gb160))
      have n11_ := Aside0.mk ((by rw [hg]; exact Nat.ne_of_lt (blk_lt (g := gb171) (o := .cells #[.int .i64 0, .int .i64 0, .int .i64 0, .int .i64 0, .int .i64 0] 23 (0, 0)) (by (with_reducible repeat (first | refine blk_drewN ?_ _ | refine blk_drew ?_ | refine blk_alloc ?_ _)); exact BK171.out)) : gb171 ≠ gb172))
      have n12_ := Aside0.mk ((by rw [hg]; exact Nat.ne_of_gt (blk_lt (g := gb171) (o := .cells #[.int .i64 0, .int .i64 0, .int .i64 0, .int .i64 0, .int .i64 0] 23 (0, 0)) (by (with_reducible repeat (first | refine blk_drewN ?_ _ | refine blk_drew ?_ | refine blk_alloc ?_ _)); exact BK171.out)) : gb172 ≠ gb171))
      clear BK159
      clear BK160
      clear BK171
      clear HB
      have BK159 := n0_
      have BK160 := n1_
      have BK171 := n2_
      have HB := n3_
      have BK172 := n4_
      have GW172 := n5_
      have GE172 := n6_
      have NB159_172 := n7_
      have NB172_159 := n8_
      have NB160_172 := n9_
      have NB172_160 := n10_
      have NB171_172 := n11_
      have NB172_171 := n12_
      clear n0_ n1_ n2_ n3_ n4_ n5_ n6_ n7_ n8_ n9_ n10_ n11_ n12_
      clear hb hbox hg
      refine hK.out _ _ ⟨(blk_cell BK159.out 0).trans rfl, (blk_cell BK159.out 1).trans rfl, (blk_cell BK159.out 2).trans rfl, (blk_cell BK159.out 3).trans rfl, (blk_cell BK159.out 4).trans rfl, (blk_cell BK160.out 0).trans rfl, (blk_cell BK160.out 1).trans rfl, (blk_cell BK160.out 2).trans rfl, (blk_cell BK160.out 3).trans rfl, (blk_cell BK160.out 4).trans rfl⟩ (fun hHeld => ?_)
      clear hK K
      refine norm_ (a' := ?_) ?_ ?_
      rotate_left
      · show Act.put _ (some 6) _ = _
        simp only [Act.put, List.setIfInBounds_toArray, List.set_cons_zero, List.set_cons_succ, i64_w, i32_w]
        rfl
      exact norm_ (by first | (simp only [putAll, Act.put, List.setIfInBounds_toArray, List.set_cons_zero, List.set_cons_succ]; done) | (simp only [putAll, Act.put, List.setIfInBounds_toArray, List.set_cons_zero, List.set_cons_succ]; rfl)) (hJ1_3_4_5 (gb171, gb172) _ ⟨hHeld, (by (with_reducible repeat (first | refine blk_drewN ?_ _ | refine blk_drew ?_ | refine blk_alloc ?_ _)); exact BK159.out), (by (with_reducible repeat (first | refine blk_drewN ?_ _ | refine blk_drew ?_ | refine blk_alloc ?_ _)); exact BK160.out), (by (with_reducible repeat (first | refine blk_drewN ?_ _ | refine blk_drew ?_ | refine blk_alloc ?_ _)); exact BK171.out), (by (with_reducible repeat (first | refine blk_drewN ?_ _ | refine blk_drew ?_ | refine blk_alloc ?_ _)); exact BK172.out), GW171.out, GE171.out, NB159_171.out, NB171_159.out, NB160_171.out, NB171_160.out, NB172_171.out, NB171_172.out, GW172.out, GE172.out, NB159_172.out, NB172_159.out, NB160_172.out, NB172_160.out, (by repeat (first | (with_reducible first | exact HB.out | apply below_alloc | apply pw_below_drewN | apply below_drew1 | refine below_set ?_ GE159.out | refine below_set ?_ GE160.out | refine below_set ?_ GE171.out | refine below_set ?_ GE172.out) | exact HB.out))⟩)
  rintro ⟨gb171, gb172⟩ w17 ⟨hS_, h0_, h1_, h2_, h3_, h4_, h5_, h6_, h7_, h8_, h9_, h10_, h11_, h12_, h13_, h14_, h15_, h16_, h17_, h18_⟩
  have n0_ : Aside0 (w17.heap[gb159]? = some (.cells #[.int .i64 a0_0, .int .i64 a0_1, .int .i64 a0_2, .int .i64 a0_3, .int .i64 a0_4] 23 (0, 0))) := ⟨h0_⟩
  have n1_ : Aside0 (w17.heap[gb160]? = some (.cells #[.int .i64 a1_0, .int .i64 a1_1, .int .i64 a1_2, .int .i64 a1_3, .int .i64 a1_4] 23 (0, 0))) := ⟨h1_⟩
  have n2_ : Aside0 (w17.heap[gb171]? = some (.cells #[.int .i64 0, .int .i64 0, .int .i64 0, .int .i64 0, .int .i64 0] 23 (0, 0))) := ⟨h2_⟩
  have n3_ : Aside0 (w17.heap[gb172]? = some (.cells #[.int .i64 0, .int .i64 0, .int .i64 0, .int .i64 0, .int .i64 0] 23 (0, 0))) := ⟨h3_⟩
  have n4_ : Aside0 (w.heap.size ≤ gb171) := ⟨h4_⟩
  have n5_ : Aside0 (w.heap.size ≤ gb171) := ⟨h5_⟩
  have n6_ : Aside0 (gb159 ≠ gb171) := ⟨h6_⟩
  have n7_ : Aside0 (gb171 ≠ gb159) := ⟨h7_⟩
  have n8_ : Aside0 (gb160 ≠ gb171) := ⟨h8_⟩
  have n9_ : Aside0 (gb171 ≠ gb160) := ⟨h9_⟩
  have n10_ : Aside0 (gb172 ≠ gb171) := ⟨h10_⟩
  have n11_ : Aside0 (gb171 ≠ gb172) := ⟨h11_⟩
  have n12_ : Aside0 (w.heap.size ≤ gb172) := ⟨h12_⟩
  have n13_ : Aside0 (w.heap.size ≤ gb172) := ⟨h13_⟩
  have n14_ : Aside0 (gb159 ≠ gb172) := ⟨h14_⟩
  have n15_ : Aside0 (gb172 ≠ gb159) := ⟨h15_⟩
  have n16_ : Aside0 (gb160 ≠ gb172) := ⟨h16_⟩
  have n17_ : Aside0 (gb172 ≠ gb160) := ⟨h17_⟩
  have n18_ : Aside0 (Below w.heap.size w w17) := ⟨h18_⟩
  clear BK159
  clear BK160
  clear HB
  clear h0_ h1_ h2_ h3_ h4_ h5_ h6_ h7_ h8_ h9_ h10_ h11_ h12_ h13_ h14_ h15_ h16_ h17_ h18_
  have BK159 := n0_
  have BK160 := n1_
  have BK171 := n2_
  have BK172 := n3_
  have GW171 := n4_
  have GE171 := n5_
  have NB159_171 := n6_
  have NB171_159 := n7_
  have NB160_171 := n8_
  have NB171_160 := n9_
  have NB172_171 := n10_
  have NB171_172 := n11_
  have GW172 := n12_
  have GE172 := n13_
  have NB159_172 := n14_
  have NB172_159 := n15_
  have NB160_172 := n16_
  have NB172_160 := n17_
  have HB := n18_
  clear n0_ n1_ n2_ n3_ n4_ n5_ n6_ n7_ n8_ n9_ n10_ n11_ n12_ n13_ n14_ n15_ n16_ n17_ n18_
  have hHeld : w17.cell? ⟨gb159, 0, none⟩ = some (.int .i64 a0_0) ∧ w17.cell? ⟨gb159, 1, none⟩ = some (.int .i64 a0_1) ∧ w17.cell? ⟨gb159, 2, none⟩ = some (.int .i64 a0_2) ∧ w17.cell? ⟨gb159, 3, none⟩ = some (.int .i64 a0_3) ∧ w17.cell? ⟨gb159, 4, none⟩ = some (.int .i64 a0_4) ∧ w17.cell? ⟨gb160, 0, none⟩ = some (.int .i64 a1_0) ∧ w17.cell? ⟨gb160, 1, none⟩ = some (.int .i64 a1_1) ∧ w17.cell? ⟨gb160, 2, none⟩ = some (.int .i64 a1_2) ∧ w17.cell? ⟨gb160, 3, none⟩ = some (.int .i64 a1_3) ∧ w17.cell? ⟨gb160, 4, none⟩ = some (.int .i64 a1_4) := hS_
  refine norm_ (a' := ?_) ?_ ?_
  rotate_left
  · simp only [putAll, Act.put, List.setIfInBounds_toArray, List.set_cons_zero, List.set_cons_succ]
    rfl
  refine one_ (i := 6) (N := none) #[true, true, true, true, true, true, true, false] rfl rfl (one_of HT_.out (by kernel_rfl)) (by decide) (fun K hK => ?_)
  have hs18 : w17.cell? ⟨gb171, 0, none⟩ = some (.int .i64 0) := (blk_cell BK171.out 0).trans rfl
  have hfs18 := blk_frozen BK171.out 0
  have hns18_0 := NB159_171.out
  have hns18_1 := NB160_171.out
  have hns18_3 := NB172_171.out
  have hms18_0 := NB171_159.out
  have hms18_1 := NB171_160.out
  have hms18_3 := NB171_172.out
  have hs19 : w17.cell? ⟨gb171, 1, none⟩ = some (.int .i64 0) := (blk_cell BK171.out 1).trans rfl
  have hfs19 := blk_frozen BK171.out 1
  have hns19_0 := NB159_171.out
  have hns19_1 := NB160_171.out
  have hns19_3 := NB172_171.out
  have hms19_0 := NB171_159.out
  have hms19_1 := NB171_160.out
  have hms19_3 := NB171_172.out
  have hs20 : w17.cell? ⟨gb171, 2, none⟩ = some (.int .i64 0) := (blk_cell BK171.out 2).trans rfl
  have hfs20 := blk_frozen BK171.out 2
  have hns20_0 := NB159_171.out
  have hns20_1 := NB160_171.out
  have hns20_3 := NB172_171.out
  have hms20_0 := NB171_159.out
  have hms20_1 := NB171_160.out
  have hms20_3 := NB171_172.out
  have hs21 : w17.cell? ⟨gb171, 3, none⟩ = some (.int .i64 0) := (blk_cell BK171.out 3).trans rfl
  have hfs21 := blk_frozen BK171.out 3
  have hns21_0 := NB159_171.out
  have hns21_1 := NB160_171.out
  have hns21_3 := NB172_171.out
  have hms21_0 := NB171_159.out
  have hms21_1 := NB171_160.out
  have hms21_3 := NB171_172.out
  have hs22 : w17.cell? ⟨gb171, 4, none⟩ = some (.int .i64 0) := (blk_cell BK171.out 4).trans rfl
  have hfs22 := blk_frozen BK171.out 4
  have hns22_0 := NB159_171.out
  have hns22_1 := NB160_171.out
  have hns22_3 := NB172_171.out
  have hms22_0 := NB171_159.out
  have hms22_1 := NB171_160.out
  have hms22_3 := NB171_172.out
  refine skip_ (w1 := ?_) (by rfl) rfl ?_ ?_
  rotate_left
  · go_simp
    rfl
  refine hK.out _ _ ⟨((cell_far (p := ⟨gb171, _, none⟩) NB159_171.out _).trans (((cell_far (p := ⟨gb171, _, none⟩) NB159_171.out _).trans (((cell_far (p := ⟨gb171, _, none⟩) NB159_171.out _).trans (((cell_far (p := ⟨gb171, _, none⟩) NB159_171.out _).trans (((cell_far (p := ⟨gb171, _, none⟩) NB159_171.out _).trans (hHeld.1)))))))))), ((cell_far (p := ⟨gb171, _, none⟩) NB159_171.out _).trans (((cell_far (p := ⟨gb171, _, none⟩) NB159_171.out _).trans (((cell_far (p := ⟨gb171, _, none⟩) NB159_171.out _).trans (((cell_far (p := ⟨gb171, _, none⟩) NB159_171.out _).trans (((cell_far (p := ⟨gb171, _, none⟩) NB159_171.out _).trans (hHeld.2.1)))))))))), ((cell_far (p := ⟨gb171, _, none⟩) NB159_171.out _).trans (((cell_far (p := ⟨gb171, _, none⟩) NB159_171.out _).trans (((cell_far (p := ⟨gb171, _, none⟩) NB159_171.out _).trans (((cell_far (p := ⟨gb171, _, none⟩) NB159_171.out _).trans (((cell_far (p := ⟨gb171, _, none⟩) NB159_171.out _).trans (hHeld.2.2.1)))))))))), ((cell_far (p := ⟨gb171, _, none⟩) NB159_171.out _).trans (((cell_far (p := ⟨gb171, _, none⟩) NB159_171.out _).trans (((cell_far (p := ⟨gb171, _, none⟩) NB159_171.out _).trans (((cell_far (p := ⟨gb171, _, none⟩) NB159_171.out _).trans (((cell_far (p := ⟨gb171, _, none⟩) NB159_171.out _).trans (hHeld.2.2.2.1)))))))))), ((cell_far (p := ⟨gb171, _, none⟩) NB159_171.out _).trans (((cell_far (p := ⟨gb171, _, none⟩) NB159_171.out _).trans (((cell_far (p := ⟨gb171, _, none⟩) NB159_171.out _).trans (((cell_far (p := ⟨gb171, _, none⟩) NB159_171.out _).trans (((cell_far (p := ⟨gb171, _, none⟩) NB159_171.out _).trans (hHeld.2.2.2.2.1)))))))))), ((cell_far (p := ⟨gb171, _, none⟩) NB160_171.out _).trans (((cell_far (p := ⟨gb171, _, none⟩) NB160_171.out _).trans (((cell_far (p := ⟨gb171, _, none⟩) NB160_171.out _).trans (((cell_far (p := ⟨gb171, _, none⟩) NB160_171.out _).trans (((cell_far (p := ⟨gb171, _, none⟩) NB160_171.out _).trans (hHeld.2.2.2.2.2.1)))))))))), ((cell_far (p := ⟨gb171, _, none⟩) NB160_171.out _).trans (((cell_far (p := ⟨gb171, _, none⟩) NB160_171.out _).trans (((cell_far (p := ⟨gb171, _, none⟩) NB160_171.out _).trans (((cell_far (p := ⟨gb171, _, none⟩) NB160_171.out _).trans (((cell_far (p := ⟨gb171, _, none⟩) NB160_171.out _).trans (hHeld.2.2.2.2.2.2.1)))))))))), ((cell_far (p := ⟨gb171, _, none⟩) NB160_171.out _).trans (((cell_far (p := ⟨gb171, _, none⟩) NB160_171.out _).trans (((cell_far (p := ⟨gb171, _, none⟩) NB160_171.out _).trans (((cell_far (p := ⟨gb171, _, none⟩) NB160_171.out _).trans (((cell_far (p := ⟨gb171, _, none⟩) NB160_171.out _).trans (hHeld.2.2.2.2.2.2.2.1)))))))))), ((cell_far (p := ⟨gb171, _, none⟩) NB160_171.out _).trans (((cell_far (p := ⟨gb171, _, none⟩) NB160_171.out _).trans (((cell_far (p := ⟨gb171, _, none⟩) NB160_171.out _).trans (((cell_far (p := ⟨gb171, _, none⟩) NB160_171.out _).trans (((cell_far (p := ⟨gb171, _, none⟩) NB160_171.out _).trans (hHeld.2.2.2.2.2.2.2.2.1)))))))))), ((cell_far (p := ⟨gb171, _, none⟩) NB160_171.out _).trans (((cell_far (p := ⟨gb171, _, none⟩) NB160_171.out _).trans (((cell_far (p := ⟨gb171, _, none⟩) NB160_171.out _).trans (((cell_far (p := ⟨gb171, _, none⟩) NB160_171.out _).trans (((cell_far (p := ⟨gb171, _, none⟩) NB160_171.out _).trans (hHeld.2.2.2.2.2.2.2.2.2))))))))))⟩ (fun hHeld => ?_)
  clear hK K
  refine one_ (i := 7) (N := none) #[true, true, true, true, true, true, true, true] rfl rfl (one_of HT_.out (by kernel_rfl)) (by decide) (fun K hK => ?_)
  have hs23 : w17.cell? ⟨gb172, 0, none⟩ = some (.int .i64 0) := (blk_cell BK172.out 0).trans rfl
  have hfs23 := blk_frozen BK172.out 0
  have hns23_0 := NB159_172.out
  have hns23_1 := NB160_172.out
  have hns23_2 := NB171_172.out
  have hms23_0 := NB172_159.out
  have hms23_1 := NB172_160.out
  have hms23_2 := NB172_171.out
  have hs24 : w17.cell? ⟨gb172, 1, none⟩ = some (.int .i64 0) := (blk_cell BK172.out 1).trans rfl
  have hfs24 := blk_frozen BK172.out 1
  have hns24_0 := NB159_172.out
  have hns24_1 := NB160_172.out
  have hns24_2 := NB171_172.out
  have hms24_0 := NB172_159.out
  have hms24_1 := NB172_160.out
  have hms24_2 := NB172_171.out
  have hs25 : w17.cell? ⟨gb172, 2, none⟩ = some (.int .i64 0) := (blk_cell BK172.out 2).trans rfl
  have hfs25 := blk_frozen BK172.out 2
  have hns25_0 := NB159_172.out
  have hns25_1 := NB160_172.out
  have hns25_2 := NB171_172.out
  have hms25_0 := NB172_159.out
  have hms25_1 := NB172_160.out
  have hms25_2 := NB172_171.out
  have hs26 : w17.cell? ⟨gb172, 3, none⟩ = some (.int .i64 0) := (blk_cell BK172.out 3).trans rfl
  have hfs26 := blk_frozen BK172.out 3
  have hns26_0 := NB159_172.out
  have hns26_1 := NB160_172.out
  have hns26_2 := NB171_172.out
  have hms26_0 := NB172_159.out
  have hms26_1 := NB172_160.out
  have hms26_2 := NB172_171.out
  have hs27 : w17.cell? ⟨gb172, 4, none⟩ = some (.int .i64 0) := (blk_cell BK172.out 4).trans rfl
  have hfs27 := blk_frozen BK172.out 4
  have hns27_0 := NB159_172.out
  have hns27_1 := NB160_172.out
  have hns27_2 := NB171_172.out
  have hms27_0 := NB172_159.out
  have hms27_1 := NB172_160.out
  have hms27_2 := NB172_171.out
  refine skip_ (w1 := ?_) (by rfl) rfl ?_ ?_
  rotate_left
  · go_simp
    rfl
  refine hK.out _ _ ⟨((cell_far (p := ⟨gb172, _, none⟩) NB159_172.out _).trans (((cell_far (p := ⟨gb172, _, none⟩) NB159_172.out _).trans (((cell_far (p := ⟨gb172, _, none⟩) NB159_172.out _).trans (((cell_far (p := ⟨gb172, _, none⟩) NB159_172.out _).trans (((cell_far (p := ⟨gb172, _, none⟩) NB159_172.out _).trans (hHeld.1)))))))))), ((cell_far (p := ⟨gb172, _, none⟩) NB159_172.out _).trans (((cell_far (p := ⟨gb172, _, none⟩) NB159_172.out _).trans (((cell_far (p := ⟨gb172, _, none⟩) NB159_172.out _).trans (((cell_far (p := ⟨gb172, _, none⟩) NB159_172.out _).trans (((cell_far (p := ⟨gb172, _, none⟩) NB159_172.out _).trans (hHeld.2.1)))))))))), ((cell_far (p := ⟨gb172, _, none⟩) NB159_172.out _).trans (((cell_far (p := ⟨gb172, _, none⟩) NB159_172.out _).trans (((cell_far (p := ⟨gb172, _, none⟩) NB159_172.out _).trans (((cell_far (p := ⟨gb172, _, none⟩) NB159_172.out _).trans (((cell_far (p := ⟨gb172, _, none⟩) NB159_172.out _).trans (hHeld.2.2.1)))))))))), ((cell_far (p := ⟨gb172, _, none⟩) NB159_172.out _).trans (((cell_far (p := ⟨gb172, _, none⟩) NB159_172.out _).trans (((cell_far (p := ⟨gb172, _, none⟩) NB159_172.out _).trans (((cell_far (p := ⟨gb172, _, none⟩) NB159_172.out _).trans (((cell_far (p := ⟨gb172, _, none⟩) NB159_172.out _).trans (hHeld.2.2.2.1)))))))))), ((cell_far (p := ⟨gb172, _, none⟩) NB159_172.out _).trans (((cell_far (p := ⟨gb172, _, none⟩) NB159_172.out _).trans (((cell_far (p := ⟨gb172, _, none⟩) NB159_172.out _).trans (((cell_far (p := ⟨gb172, _, none⟩) NB159_172.out _).trans (((cell_far (p := ⟨gb172, _, none⟩) NB159_172.out _).trans (hHeld.2.2.2.2.1)))))))))), ((cell_far (p := ⟨gb172, _, none⟩) NB160_172.out _).trans (((cell_far (p := ⟨gb172, _, none⟩) NB160_172.out _).trans (((cell_far (p := ⟨gb172, _, none⟩) NB160_172.out _).trans (((cell_far (p := ⟨gb172, _, none⟩) NB160_172.out _).trans (((cell_far (p := ⟨gb172, _, none⟩) NB160_172.out _).trans (hHeld.2.2.2.2.2.1)))))))))), ((cell_far (p := ⟨gb172, _, none⟩) NB160_172.out _).trans (((cell_far (p := ⟨gb172, _, none⟩) NB160_172.out _).trans (((cell_far (p := ⟨gb172, _, none⟩) NB160_172.out _).trans (((cell_far (p := ⟨gb172, _, none⟩) NB160_172.out _).trans (((cell_far (p := ⟨gb172, _, none⟩) NB160_172.out _).trans (hHeld.2.2.2.2.2.2.1)))))))))), ((cell_far (p := ⟨gb172, _, none⟩) NB160_172.out _).trans (((cell_far (p := ⟨gb172, _, none⟩) NB160_172.out _).trans (((cell_far (p := ⟨gb172, _, none⟩) NB160_172.out _).trans (((cell_far (p := ⟨gb172, _, none⟩) NB160_172.out _).trans (((cell_far (p := ⟨gb172, _, none⟩) NB160_172.out _).trans (hHeld.2.2.2.2.2.2.2.1)))))))))), ((cell_far (p := ⟨gb172, _, none⟩) NB160_172.out _).trans (((cell_far (p := ⟨gb172, _, none⟩) NB160_172.out _).trans (((cell_far (p := ⟨gb172, _, none⟩) NB160_172.out _).trans (((cell_far (p := ⟨gb172, _, none⟩) NB160_172.out _).trans (((cell_far (p := ⟨gb172, _, none⟩) NB160_172.out _).trans (hHeld.2.2.2.2.2.2.2.2.1)))))))))), ((cell_far (p := ⟨gb172, _, none⟩) NB160_172.out _).trans (((cell_far (p := ⟨gb172, _, none⟩) NB160_172.out _).trans (((cell_far (p := ⟨gb172, _, none⟩) NB160_172.out _).trans (((cell_far (p := ⟨gb172, _, none⟩) NB160_172.out _).trans (((cell_far (p := ⟨gb172, _, none⟩) NB160_172.out _).trans (hHeld.2.2.2.2.2.2.2.2.2))))))))))⟩ (fun hHeld => ?_)
  clear hK K
  refine done_ (done_of HT_.out (by kernel_rfl)) ?_
  have hnb28 := NB172_159.out
  have hnc28 := NB159_172.out
  have hnb29 := NB172_160.out
  have hnc29 := NB160_172.out
  have hnb30 := NB172_171.out
  have hnc30 := NB171_172.out
  have hcz31_0 : w17.cell? ⟨gb172, 0, none⟩ = some (.int .i64 0) := (blk_cell BK172.out 0).trans rfl
  have hcz31_1 : w17.cell? ⟨gb172, 1, none⟩ = some (.int .i64 0) := (blk_cell BK172.out 1).trans rfl
  have hcz31_2 : w17.cell? ⟨gb172, 2, none⟩ = some (.int .i64 0) := (blk_cell BK172.out 2).trans rfl
  have hcz31_3 : w17.cell? ⟨gb172, 3, none⟩ = some (.int .i64 0) := (blk_cell BK172.out 3).trans rfl
  have hcz31_4 : w17.cell? ⟨gb172, 4, none⟩ = some (.int .i64 0) := (blk_cell BK172.out 4).trans rfl
  have hfz31_0 := blk_frozen BK172.out 0
  have hfz31_1 := blk_frozen BK172.out 1
  have hfz31_2 := blk_frozen BK172.out 2
  have hfz31_3 := blk_frozen BK172.out 3
  have hfz31_4 := blk_frozen BK172.out 4
  have hnb32 := NB171_159.out
  have hnc32 := NB159_171.out
  have hnb33 := NB171_160.out
  have hnc33 := NB160_171.out
  have hcz34_0 : w17.cell? ⟨gb171, 0, none⟩ = some (.int .i64 0) := (blk_cell BK171.out 0).trans rfl
  have hcz34_1 : w17.cell? ⟨gb171, 1, none⟩ = some (.int .i64 0) := (blk_cell BK171.out 1).trans rfl
  have hcz34_2 : w17.cell? ⟨gb171, 2, none⟩ = some (.int .i64 0) := (blk_cell BK171.out 2).trans rfl
  have hcz34_3 : w17.cell? ⟨gb171, 3, none⟩ = some (.int .i64 0) := (blk_cell BK171.out 3).trans rfl
  have hcz34_4 : w17.cell? ⟨gb171, 4, none⟩ = some (.int .i64 0) := (blk_cell BK171.out 4).trans rfl
  have hfz34_0 := blk_frozen BK171.out 0
  have hfz34_1 := blk_frozen BK171.out 1
  have hfz34_2 := blk_frozen BK171.out 2
  have hfz34_3 := blk_frozen BK171.out 3
  have hfz34_4 := blk_frozen BK171.out 4
  try go_wp2
  go_ret
  exact ⟨by first | rfl | (simp [errW_none, errW_some] <;> rfl) | (simp only [← hji5, ← hji6, ← hji7, ← hji8, ← hji9]; first | rfl | (simp [errW_none, errW_some] <;> rfl)) | (simp [*, errW_none, errW_some] <;> rfl), by repeat (first | (with_reducible first | exact HB.out | apply below_alloc | apply pw_below_drewN | apply below_drew1 | refine below_set ?_ GE159.out | refine below_set ?_ GE160.out | refine below_set ?_ GE171.out | refine below_set ?_ GE172.out) | exact HB.out)⟩

end Go.Proofs.Ytaonclkhjcbgoaa.HLimitOrder
