-- Written by the session's program hy.py.
import Derived.Test.YtngpdacbmkfbcaaHShapeRowsx0
import Derived.Test.YtngpdacbmkfbcaaHShapeRowsx1
import Derived.Test.YtngpdacbmkfbcaaHShapeRowsx2
namespace Go.Proofs.Ytngpdacbmkfbcaa.HShapeRows
open Go.RowKit Go.Proofs.YtngpdacbmkfbcaaW.PrintWords Go.Proofs.YtngpdacbmkfbcaaW.PrintLast Go.Proofs.YtngpdacbmkfbcaaW.PrintMore
attribute [local go_sem] max2_int min2_int max_two min_two max_three min_three max_four min_four   -- for this text's walks alone
set_option linter.unusedVariables false
set_option linter.unusedSimpArgs false

/-! ### decklelaw09_ShapeRows: function 5 -/
def decklelaw09_ShapeRows.j0 : Nat → List Int → List Int → Int → Int → Bool → List Int → Int → Bool → Option (Bool)
  | 0, _, _, _, _, _, _, _, _ => none
  | k + 1, x0, x1, x2, x3, x9, x10, x11, x59 => if x59 = true then (some x9) else ((some (([] : List Int) : List Int)).bind fun y209 => (if y209.length + x1.length < 17592186044416 then ((some (y209 ++ x1 : List Int)).bind fun y212 => (if y212.length < 17592186044416 then ((shape_Place.f k x10 (y212 ++ [x3])).bind fun bt218 => ((some (([x2] : List Int) : List Int)).bind fun y220 => (if y220.length + x0.length < 17592186044416 then ((some (([x3] : List Int) : List Int)).bind fun y226 => (if y226.length + x1.length < 17592186044416 then ((shape_Place.f k (y220 ++ x0) (y226 ++ x1)).bind fun bt232 => ((shape_Count.f k x0).bind fun bt234 => (if x9 = true then (if bt218.2 = true then (if bt218.1 = (wrap64 ((wrap64 (x2 * x11)) + x3)) then (if bt232.2 = true then (if bt234.2 = true then (some (bt232.1 == (wrap64 ((wrap64 (x3 * bt234.1)) + x11)))) else (none)) else (none)) else (none)) else (none)) else (none)))) else (none))) else (none)))) else (none))) else (none)))
def decklelaw09_ShapeRows.f (k : Nat) (l0 : List Int) (l1 : List Int) (a2 : Int) (a3 : Int) : Option (Bool) := (decklelaw09_small.f k).bind fun t195 => ((some (([] : List Int) : List Int)).bind fun y196 => (if y196.length + l0.length < 17592186044416 then ((some (y196 ++ l0 : List Int)).bind fun y199 => (if y199.length < 17592186044416 then ((some (y199 ++ [a2] : List Int)).bind fun y202 => ((shape_Place.f k l0 l1).bind fun bt205 => ((shape_Count.f k y202).bind fun bt207 => (if (l0.length : Int) > 50 then (decklelaw09_ShapeRows.j0 k l0 l1 a2 a3 t195 y202 bt205.1 true) else (if bt205.2 = true then (if bt207.2 = true then (if a3 < 0 then (decklelaw09_ShapeRows.j0 k l0 l1 a2 a3 t195 y202 bt205.1 true) else (decklelaw09_ShapeRows.j0 k l0 l1 a2 a3 t195 y202 bt205.1 (decide (a3 ≥ a2)))) else (decklelaw09_ShapeRows.j0 k l0 l1 a2 a3 t195 y202 bt205.1 true)) else (decklelaw09_ShapeRows.j0 k l0 l1 a2 a3 t195 y202 bt205.1 true)))))) else (none))) else (none)))
theorem decklelaw09_ShapeRows.mono_l : ∀ k, (∀ y0 y1 y2 y3 y4 y5 y6 y7, LeO (decklelaw09_ShapeRows.j0 k y0 y1 y2 y3 y4 y5 y6 y7) (decklelaw09_ShapeRows.j0 (k + 1) y0 y1 y2 y3 y4 y5 y6 y7))
  | 0 => fun _ _ _ _ _ _ _ _ r h => by simp [decklelaw09_ShapeRows.j0] at h
  | k + 1 => by
    have ih0 := decklelaw09_ShapeRows.mono_l k
    · intro y0 y1 y2 y3 y4 y5 y6 y7
      unfold decklelaw09_ShapeRows.j0
      repeat' first
      | (with_reducible exact ih0 _ _ _ _ _ _ _ _)
      | (with_reducible exact decklelaw09_small.mono _)
      | (with_reducible exact shape_Count.mono _ _)
      | (with_reducible exact shape_Place.mono _ _ _)
      | (with_reducible exact LeO.refl _)
      | (with_reducible exact LeO.none _)
      | (with_reducible refine LeO.ite ?_ ?_)
      | (with_reducible refine LeO.bind ?_ (fun _ => ?_))
      | exact ih0 _ _ _ _ _ _ _ _
      | exact decklelaw09_small.mono _
      | exact shape_Count.mono _ _
      | exact shape_Place.mono _ _ _
      | exact LeO.none _
      | refine LeO.ite ?_ ?_
      | refine LeO.bind ?_ (fun _ => ?_)
theorem decklelaw09_ShapeRows.mono : ∀ a0 a1 a2 a3 k, LeO (decklelaw09_ShapeRows.f k a0 a1 a2 a3) (decklelaw09_ShapeRows.f (k + 1) a0 a1 a2 a3) := by
  intro a0 a1 a2 a3 k
  have ih0 := decklelaw09_ShapeRows.mono_l k
  unfold decklelaw09_ShapeRows.f
  repeat' first
      | (with_reducible exact ih0 _ _ _ _ _ _ _ _)
      | (with_reducible exact decklelaw09_small.mono _)
      | (with_reducible exact shape_Count.mono _ _)
      | (with_reducible exact shape_Place.mono _ _ _)
      | (with_reducible exact LeO.refl _)
      | (with_reducible exact LeO.none _)
      | (with_reducible refine LeO.ite ?_ ?_)
      | (with_reducible refine LeO.bind ?_ (fun _ => ?_))
      | exact ih0 _ _ _ _ _ _ _ _
      | exact decklelaw09_small.mono _
      | exact shape_Count.mono _ _
      | exact shape_Place.mono _ _ _
      | exact LeO.none _
      | refine LeO.ite ?_ ?_
      | refine LeO.bind ?_ (fun _ => ?_)
set_option maxHeartbeats 8000000 in
set_option maxRecDepth 100000 in
theorem decklelaw09_ShapeRows.calls (k : Nat) (A0 : Option Addr) (c0 : Nat) (l0 : List Int) (A1 : Option Addr) (c1 : Nat) (l1 : List Int) (a2 : Int) (a3 : Int) (r : Bool) (w : World) (hr0 : Kd.C (Kd.int .i64) w A0 l0.length l0) (hc0 : l0.length ≤ c0) (hr1 : Kd.C (Kd.int .i64) w A1 l1.length l1) (hc1 : l1.length ≤ c1) (h : decklelaw09_ShapeRows.f k l0 l1 a2 a3 = some r) :
    Calls Try.prog 5 #[.slice A0 l0.length c0, .slice A1 l1.length c1, .int .i64 a2, .int .i64 a3] w fun e w' => e = .returned (.bool r) ∧ Below w.heap.size w w' := by
  have HR0 := Aside0.mk hr0
  have HC0 := Aside0.mk hc0
  clear hr0 hc0
  have HR1 := Aside0.mk hr1
  have HC1 := Aside0.mk hc1
  clear hr1 hc1
  have HB := Aside0.mk (Below.refl w.heap.size w)
  have H : ((decklelaw09_small.f k).bind fun t195 => ((some (([] : List Int) : List Int)).bind fun y196 => (if y196.length + l0.length < 17592186044416 then ((some (y196 ++ l0 : List Int)).bind fun y199 => (if y199.length < 17592186044416 then ((some (y199 ++ [a2] : List Int)).bind fun y202 => ((shape_Place.f k l0 l1).bind fun bt205 => ((shape_Count.f k y202).bind fun bt207 => (if (l0.length : Int) > 50 then (decklelaw09_ShapeRows.j0 k l0 l1 a2 a3 t195 y202 bt205.1 true) else (if bt205.2 = true then (if bt207.2 = true then (if a3 < 0 then (decklelaw09_ShapeRows.j0 k l0 l1 a2 a3 t195 y202 bt205.1 true) else (decklelaw09_ShapeRows.j0 k l0 l1 a2 a3 t195 y202 bt205.1 (decide (a3 ≥ a2)))) else (decklelaw09_ShapeRows.j0 k l0 l1 a2 a3 t195 y202 bt205.1 true)) else (decklelaw09_ShapeRows.j0 k l0 l1 a2 a3 t195 y202 bt205.1 true)))))) else (none))) else (none)))) = some r := h
  clear h
  replace H := Option.bind_eq_some_iff.mp H
  obtain ⟨t195, A50, H⟩ := H
  replace H : ((some (([] : List Int) : List Int)).bind fun y196 => (if y196.length + l0.length < 17592186044416 then ((some (y196 ++ l0 : List Int)).bind fun y199 => (if y199.length < 17592186044416 then ((some (y199 ++ [a2] : List Int)).bind fun y202 => ((shape_Place.f k l0 l1).bind fun bt205 => ((shape_Count.f k y202).bind fun bt207 => (if (l0.length : Int) > 50 then (decklelaw09_ShapeRows.j0 k l0 l1 a2 a3 t195 y202 bt205.1 true) else (if bt205.2 = true then (if bt207.2 = true then (if a3 < 0 then (decklelaw09_ShapeRows.j0 k l0 l1 a2 a3 t195 y202 bt205.1 true) else (decklelaw09_ShapeRows.j0 k l0 l1 a2 a3 t195 y202 bt205.1 (decide (a3 ≥ a2)))) else (decklelaw09_ShapeRows.j0 k l0 l1 a2 a3 t195 y202 bt205.1 true)) else (decklelaw09_ShapeRows.j0 k l0 l1 a2 a3 t195 y202 bt205.1 true)))))) else (none))) else (none))) = some r := H
  have A5 := Aside0.mk A50
  clear A50
  obtain ⟨y196, hy196⟩ : ∃ y_ : List Int, y_ = (([] : List Int)) := ⟨_, rfl⟩
  replace H : (if y196.length + l0.length < 17592186044416 then ((some (y196 ++ l0 : List Int)).bind fun y199 => (if y199.length < 17592186044416 then ((some (y199 ++ [a2] : List Int)).bind fun y202 => ((shape_Place.f k l0 l1).bind fun bt205 => ((shape_Count.f k y202).bind fun bt207 => (if (l0.length : Int) > 50 then (decklelaw09_ShapeRows.j0 k l0 l1 a2 a3 t195 y202 bt205.1 true) else (if bt205.2 = true then (if bt207.2 = true then (if a3 < 0 then (decklelaw09_ShapeRows.j0 k l0 l1 a2 a3 t195 y202 bt205.1 true) else (decklelaw09_ShapeRows.j0 k l0 l1 a2 a3 t195 y202 bt205.1 (decide (a3 ≥ a2)))) else (decklelaw09_ShapeRows.j0 k l0 l1 a2 a3 t195 y202 bt205.1 true)) else (decklelaw09_ShapeRows.j0 k l0 l1 a2 a3 t195 y202 bt205.1 true)))))) else (none))) else (none)) = some r := by first | (rw [hy196]; with_reducible exact H) | (have H2_ := (Option.bind_some _ _).symm.trans H; rw [hy196]; with_reducible exact H2_) | (have H2_ := (Option.bind_some _ _).symm.trans H; with_reducible exact H2_) | with_reducible exact H | (rw [hy196]; exact H) | exact H
  have Ny196 := Aside0.mk hy196
  clear hy196
  by_cases c6 : y196.length + l0.length < 17592186044416
  · rw [if_pos c6] at H
    have LMc6 := Aside0.mk c6
    clear c6
    obtain ⟨y199, hy199⟩ : ∃ y_ : List Int, y_ = (y196 ++ l0) := ⟨_, rfl⟩
    replace H : (if y199.length < 17592186044416 then ((some (y199 ++ [a2] : List Int)).bind fun y202 => ((shape_Place.f k l0 l1).bind fun bt205 => ((shape_Count.f k y202).bind fun bt207 => (if (l0.length : Int) > 50 then (decklelaw09_ShapeRows.j0 k l0 l1 a2 a3 t195 y202 bt205.1 true) else (if bt205.2 = true then (if bt207.2 = true then (if a3 < 0 then (decklelaw09_ShapeRows.j0 k l0 l1 a2 a3 t195 y202 bt205.1 true) else (decklelaw09_ShapeRows.j0 k l0 l1 a2 a3 t195 y202 bt205.1 (decide (a3 ≥ a2)))) else (decklelaw09_ShapeRows.j0 k l0 l1 a2 a3 t195 y202 bt205.1 true)) else (decklelaw09_ShapeRows.j0 k l0 l1 a2 a3 t195 y202 bt205.1 true)))))) else (none)) = some r := by first | (rw [hy199]; with_reducible exact H) | (have H2_ := (Option.bind_some _ _).symm.trans H; rw [hy199]; with_reducible exact H2_) | (have H2_ := (Option.bind_some _ _).symm.trans H; with_reducible exact H2_) | with_reducible exact H | (rw [hy199]; exact H) | exact H
    have Ny199 := Aside0.mk hy199
    clear hy199
    by_cases c7 : y199.length < 17592186044416
    · rw [if_pos c7] at H
      have LMc7 := Aside0.mk c7
      clear c7
      obtain ⟨y202, hy202⟩ : ∃ y_ : List Int, y_ = (y199 ++ [a2]) := ⟨_, rfl⟩
      replace H : ((shape_Place.f k l0 l1).bind fun bt205 => ((shape_Count.f k y202).bind fun bt207 => (if (l0.length : Int) > 50 then (decklelaw09_ShapeRows.j0 k l0 l1 a2 a3 t195 y202 bt205.1 true) else (if bt205.2 = true then (if bt207.2 = true then (if a3 < 0 then (decklelaw09_ShapeRows.j0 k l0 l1 a2 a3 t195 y202 bt205.1 true) else (decklelaw09_ShapeRows.j0 k l0 l1 a2 a3 t195 y202 bt205.1 (decide (a3 ≥ a2)))) else (decklelaw09_ShapeRows.j0 k l0 l1 a2 a3 t195 y202 bt205.1 true)) else (decklelaw09_ShapeRows.j0 k l0 l1 a2 a3 t195 y202 bt205.1 true))))) = some r := by first | (rw [hy202]; with_reducible exact H) | (have H2_ := (Option.bind_some _ _).symm.trans H; rw [hy202]; with_reducible exact H2_) | (have H2_ := (Option.bind_some _ _).symm.trans H; with_reducible exact H2_) | with_reducible exact H | (rw [hy202]; exact H) | exact H
      have Ny202 := Aside0.mk hy202
      clear hy202
      replace H := Option.bind_eq_some_iff.mp H
      obtain ⟨⟨t205, t206⟩, A80, H⟩ := H
      replace H : ((shape_Count.f k y202).bind fun bt207 => (if (l0.length : Int) > 50 then (decklelaw09_ShapeRows.j0 k l0 l1 a2 a3 t195 y202 t205 true) else (if t206 = true then (if bt207.2 = true then (if a3 < 0 then (decklelaw09_ShapeRows.j0 k l0 l1 a2 a3 t195 y202 t205 true) else (decklelaw09_ShapeRows.j0 k l0 l1 a2 a3 t195 y202 t205 (decide (a3 ≥ a2)))) else (decklelaw09_ShapeRows.j0 k l0 l1 a2 a3 t195 y202 t205 true)) else (decklelaw09_ShapeRows.j0 k l0 l1 a2 a3 t195 y202 t205 true)))) = some r := H
      have A8 := Aside0.mk A80
      clear A80
      replace H := Option.bind_eq_some_iff.mp H
      obtain ⟨⟨t207, t208⟩, A90, H⟩ := H
      replace H : (if (l0.length : Int) > 50 then (decklelaw09_ShapeRows.j0 k l0 l1 a2 a3 t195 y202 t205 true) else (if t206 = true then (if t208 = true then (if a3 < 0 then (decklelaw09_ShapeRows.j0 k l0 l1 a2 a3 t195 y202 t205 true) else (decklelaw09_ShapeRows.j0 k l0 l1 a2 a3 t195 y202 t205 (decide (a3 ≥ a2)))) else (decklelaw09_ShapeRows.j0 k l0 l1 a2 a3 t195 y202 t205 true)) else (decklelaw09_ShapeRows.j0 k l0 l1 a2 a3 t195 y202 t205 true))) = some r := H
      have A9 := Aside0.mk A90
      clear A90
      have HC10 := Aside0.mk H
      clear H
      go_enter Try.func5, Try.ntmps5
      go_upto_region 5 with (first | ((with_reducible refine gate_callee (f := 8) rfl ?_); refine goesL_ (some 22) rfl rfl Try.func8 (by kernel_rfl) rfl #[] rfl (by (try simp only [List.map_toArray, List.map_cons, List.map_nil]); first | done | rfl | (simp only [List.length_drop, List.length_take]; rfl)) ?_; (with_reducible refine (decklelaw09_small.calls k  t195 _ A5.out).mono ?_); rintro e w11 ⟨rfl, hb⟩; refine ⟨_, rfl, ?_⟩; have n0_ := Aside0.mk (below_step (by repeat (first | (with_reducible first | exact HB.out | apply below_alloc | apply pw_below_drewN | apply below_drew1) | exact HB.out)) hb); clear HB; have HB := n0_; clear n0_; (try clear hb); (try clear hb2); (try clear hk); (try clear hi)) | ((with_reducible refine gate_dst (N := 23) rfl ?_); refine Kd.R_lit (Kd.int .i64) _ 3 ?hg (N := 23) ?hd (xs := ([] : List Int)) (inner := []) (ok := fun _ => True) (okp := fun _ => True) ?hr ?hp (fun _ hk => hk) trivial (Below.refl _ _) (Nat.le_refl _) (by simp) ?_; (case hd => rfl); (case hg => rfl); (case hr => first | (go_simp; done) | (go_simp; rfl)); (case hp => exact (Reps.none _ _)); intro v197 w12 ho13 hb hg_ hnew_; clear hg_ hnew_; (first | rw [← Ny196.out] at ho13 | (simp only [Int.reduceToNat] at ho13; rw [← Ny196.out] at ho13)); have n0_ := Aside0.mk (Kd.R_lower ho13 (below_size (by repeat (first | (with_reducible first | exact HB.out | apply below_alloc | apply pw_below_drewN | apply below_drew1) | exact HB.out)))); have n1_ := Aside0.mk (below_step (by repeat (first | (with_reducible first | exact HB.out | apply below_alloc | apply pw_below_drewN | apply below_drew1) | exact HB.out)) hb); clear HB; have HO198 := n0_; have HB := n1_; clear n0_ n1_; clear hb ho13) | ((with_reducible refine gate_builtin (b := .append) (xs := #[.tmp 23, .tmp 24]) rfl ?_); at_builtin; refine Kd.R_append_rows (Kd.int .i64) (w0 := w) w.heap.size rfl (.tmp 23) (.tmp 24) 22 3 (.int .i64 0) 8 rfl Try.underlying22 info3 rfl (by decide) (by omega) v197 y196 l0 _ _ _ (fun _ => True) (fun _ => False) rfl rfl ?aO ?aR (fun _ _ h => h) (fun _ h => h.elim) ?aF ?aB ?aS ?aL ?_; (case aR => repeat (first | exact (Kd.C_below HR0.out HB.out) | (with_reducible refine Kd.C_alloc ?_ _) | (with_reducible refine Kd.C_drewN ?_ _) | (with_reducible refine Kd.C_drew ?_))); (case aB => exact (by repeat (first | (with_reducible first | exact HB.out | apply below_alloc | apply pw_below_drewN | apply below_drew1) | exact HB.out))); (case aF => exact (fun _ _ => trivial)); (case aO => exact (by (with_reducible repeat (first | apply Kd.R_alloc | apply Kd.R_drewN | apply Kd.R_drew)); exact HO198.out)); (case aS => exact (below_size (by repeat (first | (with_reducible first | exact HB.out | apply below_alloc | apply pw_below_drewN | apply below_drew1) | exact HB.out)))); (case aL => have := LMc6.out; omega); intro v200 w14 ho hb hg hat; rw [← Ny199.out] at ho; have n0_ := Aside0.mk (hb); have n1_ := Aside0.mk (ho); clear HB; clear HO198; have HB := n0_; have HO201 := n1_; clear n0_ n1_; clear ho hb hg hat) | ((with_reducible refine gate_builtin (b := .append) (xs := #[.tmp 25, .tmp 27]) rfl ?_); at_builtin; refine Kd.R_append (Kd.int .i64) (w0 := w) w.heap.size rfl (.tmp 25) (.tmp 27) 22 3 (.int .i64 0) 8 rfl Try.underlying22 info3 rfl (by decide) (by omega) v200 y199 a2 [.int .i64 a2] (fun _ => True) (fun _ => False) rfl rfl ?aP (fun _ hk => hk.elim) ?aF ?aO ?aB ?aS ?aL ?_; (case aP => exact rfl); (case aB => exact (by repeat (first | (with_reducible first | exact HB.out | apply below_alloc | apply pw_below_drewN | apply below_drew1) | exact HB.out))); (case aF => exact (fun _ _ => trivial)); (case aO => exact (by (with_reducible repeat (first | apply Kd.R_alloc | apply Kd.R_drewN | apply Kd.R_drew)); exact HO201.out)); (case aS => exact (below_size (by repeat (first | (with_reducible first | exact HB.out | apply below_alloc | apply pw_below_drewN | apply below_drew1) | exact HB.out)))); (case aL => have := LMc7.out; omega); intro v203 w15 ho hb hg hat; rw [← Ny202.out] at ho; have n0_ := Aside0.mk (hb); have n1_ := Aside0.mk (ho); clear HB; clear HO201; have HB := n0_; have HO204 := n1_; clear n0_ n1_; clear ho hb hg hat) | ((with_reducible refine gate_callee (f := 11) rfl ?_); refine goesL_ (some 32) rfl rfl Try.func11 (by kernel_rfl) rfl #[.slice A0 l0.length c0, .slice A1 l1.length c1] rfl (by (try simp only [List.map_toArray, List.map_cons, List.map_nil]); first | done | rfl | (simp only [List.length_drop, List.length_take]; rfl)) ?_; (with_reducible refine (shape_Place.calls k _ _ l0 _ _ l1 t205 t206 _ ?side1 ?side2 ?side3 ?side4 A8.out).mono ?_); (case side1 => repeat (first | exact (Kd.C_below HR0.out HB.out) | (with_reducible refine Kd.C_alloc ?_ _) | (with_reducible refine Kd.C_drewN ?_ _) | (with_reducible refine Kd.C_drew ?_))); (case side2 => exact HC0.out); (case side3 => repeat (first | exact (Kd.C_below HR1.out HB.out) | (with_reducible refine Kd.C_alloc ?_ _) | (with_reducible refine Kd.C_drewN ?_ _) | (with_reducible refine Kd.C_drew ?_))); (case side4 => exact HC1.out); rintro e w' ⟨rfl, ⟨nd, rfl⟩⟩; refine ⟨_, rfl, ?_⟩; obtain ⟨Ao16, co16, eo16⟩ := Kd.R_slice HO204.out; subst eo16) | ((with_reducible refine gate_callee (f := 9) rfl ?_); refine goesL_ (some 37) rfl rfl Try.func9 (by kernel_rfl) rfl #[.slice Ao16 y202.length co16] rfl (by (try simp only [List.map_toArray, List.map_cons, List.map_nil]); first | done | rfl | (simp only [List.length_drop, List.length_take]; rfl)) ?_; (with_reducible refine (shape_Count.calls k _ _ y202 t207 t208 _ ?side1 ?side2 A9.out).mono ?_); (case side1 => repeat (first | exact (Kd.R_reads' HO204.out).2.2 | (with_reducible refine Kd.C_alloc ?_ _) | (with_reducible refine Kd.C_drewN ?_ _) | (with_reducible refine Kd.C_drew ?_))); (case side2 => exact (Kd.R_reads' HO204.out).2.1); rintro e w' ⟨rfl, ⟨nd, rfl⟩⟩; refine ⟨_, rfl, ?_⟩))
      (try simp only [Act.put, List.setIfInBounds_toArray, List.set_cons_zero, List.set_cons_succ])
      go_cut [59] (fun v59 wc => ∃ (kq : Nat) (x59_9 : Bool), v59 = .bool x59_9 ∧ Aside0 (decklelaw09_ShapeRows.j0 kq l0 l1 a2 a3 t195 y202 t205 x59_9 = some r) ∧ Aside0 (kq ≤ k) ∧ Aside0 (Kd.R (Kd.int .i64) 3 wc w.heap.size (fun _ => True) (.slice Ao16 y202.length co16) y202) ∧ Aside0 (Below w.heap.size w wc))
      case first =>
        have H := HC10.out
        clear HC10
        by_cases c17 : (l0.length : Int) > 50
        · rw [if_pos c17] at H
          have c17b0 : decide (50 < (l0.length : Int)) = true := decide_eq_true c17
          have c17b1 : decide (50 < l0.length) = true := decide_eq_true (by omega)
          clear c17
          (first | rw [c17b0] | (simp only [i64_w, i32_w]; rw [c17b0]) | skip)
          have H' := Aside0.mk H
          clear H
          go_wp2
          go_meet
          case rel => exact ⟨_, (true), (by first | rfl | (simp; done) | (simp [*]; done)), H', ⟨by first | omega | exact Nat.le_refl _⟩, ⟨by (with_reducible repeat (first | apply Kd.R_alloc | apply Kd.R_drewN | apply Kd.R_drew)); exact HO204.out⟩, ⟨by repeat (first | (with_reducible first | exact HB.out | apply below_alloc | apply pw_below_drewN | apply below_drew1) | exact HB.out)⟩⟩
        · rw [if_neg c17] at H
          have c17b0 : decide (50 < (l0.length : Int)) = false := decide_eq_false c17
          have c17b1 : decide (50 < l0.length) = false := decide_eq_false (by omega)
          clear c17
          (first | rw [c17b0] | (simp only [i64_w, i32_w]; rw [c17b0]) | skip)
          by_cases c18 : t206 = true
          · subst c18
            have H1 : (if t208 = true then (if a3 < 0 then (decklelaw09_ShapeRows.j0 k l0 l1 a2 a3 t195 y202 t205 true) else (decklelaw09_ShapeRows.j0 k l0 l1 a2 a3 t195 y202 t205 (decide (a3 ≥ a2)))) else (decklelaw09_ShapeRows.j0 k l0 l1 a2 a3 t195 y202 t205 true)) = some r := by rw [if_pos rfl] at H; exact H
            clear H
            have H := H1
            clear H1
            by_cases c19 : t208 = true
            · subst c19
              have H1 : (if a3 < 0 then (decklelaw09_ShapeRows.j0 k l0 l1 a2 a3 t195 y202 t205 true) else (decklelaw09_ShapeRows.j0 k l0 l1 a2 a3 t195 y202 t205 (decide (a3 ≥ a2)))) = some r := by rw [if_pos rfl] at H; exact H
              clear H
              have H := H1
              clear H1
              by_cases c20 : a3 < 0
              · rw [if_pos c20] at H
                have c20b0 : decide (a3 < 0) = true := decide_eq_true c20
                clear c20
                have H' := Aside0.mk H
                clear H
                go_wp2
                go_meet
                case rel => exact ⟨_, (true), (by first | rfl | (simp; done) | (simp [*]; done)), H', ⟨by first | omega | exact Nat.le_refl _⟩, ⟨by (with_reducible repeat (first | apply Kd.R_alloc | apply Kd.R_drewN | apply Kd.R_drew)); exact HO204.out⟩, ⟨by repeat (first | (with_reducible first | exact HB.out | apply below_alloc | apply pw_below_drewN | apply below_drew1) | exact HB.out)⟩⟩
              · rw [if_neg c20] at H
                have c20b0 : decide (a3 < 0) = false := decide_eq_false c20
                clear c20
                have H' := Aside0.mk H
                clear H
                go_wp2
                go_meet
                case rel => exact ⟨_, (decide (a3 ≥ a2)), (by first | rfl | (simp; done) | (simp [*]; done)), H', ⟨by first | omega | exact Nat.le_refl _⟩, ⟨by (with_reducible repeat (first | apply Kd.R_alloc | apply Kd.R_drewN | apply Kd.R_drew)); exact HO204.out⟩, ⟨by repeat (first | (with_reducible first | exact HB.out | apply below_alloc | apply pw_below_drewN | apply below_drew1) | exact HB.out)⟩⟩
            · replace c19 := Bool.eq_false_iff.mpr c19
              subst c19
              have H1 : (decklelaw09_ShapeRows.j0 k l0 l1 a2 a3 t195 y202 t205 true) = some r := by rw [if_neg (show ¬ (false = true) by decide)] at H; exact H
              clear H
              have H := H1
              clear H1
              have H' := Aside0.mk H
              clear H
              go_wp2
              go_meet
              case rel => exact ⟨_, (true), (by first | rfl | (simp; done) | (simp [*]; done)), H', ⟨by first | omega | exact Nat.le_refl _⟩, ⟨by (with_reducible repeat (first | apply Kd.R_alloc | apply Kd.R_drewN | apply Kd.R_drew)); exact HO204.out⟩, ⟨by repeat (first | (with_reducible first | exact HB.out | apply below_alloc | apply pw_below_drewN | apply below_drew1) | exact HB.out)⟩⟩
          · replace c18 := Bool.eq_false_iff.mpr c18
            subst c18
            have H1 : (decklelaw09_ShapeRows.j0 k l0 l1 a2 a3 t195 y202 t205 true) = some r := by rw [if_neg (show ¬ (false = true) by decide)] at H; exact H
            clear H
            have H := H1
            clear H1
            have H' := Aside0.mk H
            clear H
            go_wp2
            go_meet
            case rel => exact ⟨_, (true), (by first | rfl | (simp; done) | (simp [*]; done)), H', ⟨by first | omega | exact Nat.le_refl _⟩, ⟨by (with_reducible repeat (first | apply Kd.R_alloc | apply Kd.R_drewN | apply Kd.R_drew)); exact HO204.out⟩, ⟨by repeat (first | (with_reducible first | exact HB.out | apply below_alloc | apply pw_below_drewN | apply below_drew1) | exact HB.out)⟩⟩
      case rest =>
        clear HC10
        try clear c1
        try clear c2
        try clear p2
        try clear c5
        try clear c6
        try clear c7
        try clear c8
        try clear c9
        try clear c11
        try clear c17
        try clear c17b0
        try clear c17b1
        try clear c18
        try clear c19
        try clear c20
        try clear c20b0
        obtain ⟨kq, x59_9, rfl, HA, HJ9, HO_10, HB⟩ := hcut
        cases kq with
        | zero => exact absurd HA.out (by simp [decklelaw09_ShapeRows.j0])
        | succ kj9 =>
          have H := HA.out
          clear HA
          simp only [decklelaw09_ShapeRows.j0] at H
          by_cases c21 : x59_9 = true
          · subst c21
            have H1 : (some t195) = some r := by rw [if_pos rfl] at H; exact H
            clear H
            have H := H1
            clear H1
            obtain rfl := Option.some.inj H
            go_wp2
            go_ret
            exact ⟨by first | rfl | (simp [errW_none, errW_some] <;> rfl) | (simp [*, errW_none, errW_some] <;> rfl), by repeat (first | (with_reducible first | exact HB.out | apply below_alloc | apply pw_below_drewN | apply below_drew1) | exact HB.out)⟩
          · replace c21 := Bool.eq_false_iff.mpr c21
            subst c21
            have H1 : ((some (([] : List Int) : List Int)).bind fun y209 => (if y209.length + l1.length < 17592186044416 then ((some (y209 ++ l1 : List Int)).bind fun y212 => (if y212.length < 17592186044416 then ((shape_Place.f kj9 y202 (y212 ++ [a3])).bind fun bt218 => ((some (([a2] : List Int) : List Int)).bind fun y220 => (if y220.length + l0.length < 17592186044416 then ((some (([a3] : List Int) : List Int)).bind fun y226 => (if y226.length + l1.length < 17592186044416 then ((shape_Place.f kj9 (y220 ++ l0) (y226 ++ l1)).bind fun bt232 => ((shape_Count.f kj9 l0).bind fun bt234 => (if t195 = true then (if bt218.2 = true then (if bt218.1 = (wrap64 ((wrap64 (a2 * t205)) + a3)) then (if bt232.2 = true then (if bt234.2 = true then (some (bt232.1 == (wrap64 ((wrap64 (a3 * bt234.1)) + t205)))) else (none)) else (none)) else (none)) else (none)) else (none)))) else (none))) else (none)))) else (none))) else (none))) = some r := by rw [if_neg (show ¬ (false = true) by decide)] at H; exact H
            clear H
            have H := H1
            clear H1
            obtain ⟨y209, hy209⟩ : ∃ y_ : List Int, y_ = (([] : List Int)) := ⟨_, rfl⟩
            replace H : (if y209.length + l1.length < 17592186044416 then ((some (y209 ++ l1 : List Int)).bind fun y212 => (if y212.length < 17592186044416 then ((shape_Place.f kj9 y202 (y212 ++ [a3])).bind fun bt218 => ((some (([a2] : List Int) : List Int)).bind fun y220 => (if y220.length + l0.length < 17592186044416 then ((some (([a3] : List Int) : List Int)).bind fun y226 => (if y226.length + l1.length < 17592186044416 then ((shape_Place.f kj9 (y220 ++ l0) (y226 ++ l1)).bind fun bt232 => ((shape_Count.f kj9 l0).bind fun bt234 => (if t195 = true then (if bt218.2 = true then (if bt218.1 = (wrap64 ((wrap64 (a2 * t205)) + a3)) then (if bt232.2 = true then (if bt234.2 = true then (some (bt232.1 == (wrap64 ((wrap64 (a3 * bt234.1)) + t205)))) else (none)) else (none)) else (none)) else (none)) else (none)))) else (none))) else (none)))) else (none))) else (none)) = some r := by first | (rw [hy209]; with_reducible exact H) | (have H2_ := (Option.bind_some _ _).symm.trans H; rw [hy209]; with_reducible exact H2_) | (have H2_ := (Option.bind_some _ _).symm.trans H; with_reducible exact H2_) | with_reducible exact H | (rw [hy209]; exact H) | exact H
            have Ny209 := Aside0.mk hy209
            clear hy209
            by_cases c22 : y209.length + l1.length < 17592186044416
            · rw [if_pos c22] at H
              have LMc22 := Aside0.mk c22
              clear c22
              obtain ⟨y212, hy212⟩ : ∃ y_ : List Int, y_ = (y209 ++ l1) := ⟨_, rfl⟩
              replace H : (if y212.length < 17592186044416 then ((shape_Place.f kj9 y202 (y212 ++ [a3])).bind fun bt218 => ((some (([a2] : List Int) : List Int)).bind fun y220 => (if y220.length + l0.length < 17592186044416 then ((some (([a3] : List Int) : List Int)).bind fun y226 => (if y226.length + l1.length < 17592186044416 then ((shape_Place.f kj9 (y220 ++ l0) (y226 ++ l1)).bind fun bt232 => ((shape_Count.f kj9 l0).bind fun bt234 => (if t195 = true then (if bt218.2 = true then (if bt218.1 = (wrap64 ((wrap64 (a2 * t205)) + a3)) then (if bt232.2 = true then (if bt234.2 = true then (some (bt232.1 == (wrap64 ((wrap64 (a3 * bt234.1)) + t205)))) else (none)) else (none)) else (none)) else (none)) else (none)))) else (none))) else (none)))) else (none)) = some r := by first | (rw [hy212]; with_reducible exact H) | (have H2_ := (Option.bind_some _ _).symm.trans H; rw [hy212]; with_reducible exact H2_) | (have H2_ := (Option.bind_some _ _).symm.trans H; with_reducible exact H2_) | with_reducible exact H | (rw [hy212]; exact H) | exact H
              have Ny212 := Aside0.mk hy212
              clear hy212
              by_cases c23 : y212.length < 17592186044416
              · rw [if_pos c23] at H
                have LMc23 := Aside0.mk c23
                clear c23
                obtain ⟨y215, hy215⟩ : ∃ y_ : List Int, y_ = (y212 ++ [a3]) := ⟨_, rfl⟩
                replace H : ((shape_Place.f kj9 y202 y215).bind fun bt218 => ((some (([a2] : List Int) : List Int)).bind fun y220 => (if y220.length + l0.length < 17592186044416 then ((some (([a3] : List Int) : List Int)).bind fun y226 => (if y226.length + l1.length < 17592186044416 then ((shape_Place.f kj9 (y220 ++ l0) (y226 ++ l1)).bind fun bt232 => ((shape_Count.f kj9 l0).bind fun bt234 => (if t195 = true then (if bt218.2 = true then (if bt218.1 = (wrap64 ((wrap64 (a2 * t205)) + a3)) then (if bt232.2 = true then (if bt234.2 = true then (some (bt232.1 == (wrap64 ((wrap64 (a3 * bt234.1)) + t205)))) else (none)) else (none)) else (none)) else (none)) else (none)))) else (none))) else (none)))) = some r := by first | (rw [hy215]; with_reducible exact H) | (have H2_ := (Option.bind_some _ _).symm.trans H; rw [hy215]; with_reducible exact H2_) | (have H2_ := (Option.bind_some _ _).symm.trans H; with_reducible exact H2_) | with_reducible exact H | (rw [hy215]; exact H) | exact H
                have Ny215 := Aside0.mk hy215
                clear hy215
                replace H := Option.bind_eq_some_iff.mp H
                obtain ⟨⟨t218, t219⟩, A240, H⟩ := H
                replace H : ((some (([a2] : List Int) : List Int)).bind fun y220 => (if y220.length + l0.length < 17592186044416 then ((some (([a3] : List Int) : List Int)).bind fun y226 => (if y226.length + l1.length < 17592186044416 then ((shape_Place.f kj9 (y220 ++ l0) (y226 ++ l1)).bind fun bt232 => ((shape_Count.f kj9 l0).bind fun bt234 => (if t195 = true then (if t219 = true then (if t218 = (wrap64 ((wrap64 (a2 * t205)) + a3)) then (if bt232.2 = true then (if bt234.2 = true then (some (bt232.1 == (wrap64 ((wrap64 (a3 * bt234.1)) + t205)))) else (none)) else (none)) else (none)) else (none)) else (none)))) else (none))) else (none))) = some r := H
                have A24 := Aside0.mk A240
                clear A240
                obtain ⟨y220, hy220⟩ : ∃ y_ : List Int, y_ = (([a2] : List Int)) := ⟨_, rfl⟩
                replace H : (if y220.length + l0.length < 17592186044416 then ((some (([a3] : List Int) : List Int)).bind fun y226 => (if y226.length + l1.length < 17592186044416 then ((shape_Place.f kj9 (y220 ++ l0) (y226 ++ l1)).bind fun bt232 => ((shape_Count.f kj9 l0).bind fun bt234 => (if t195 = true then (if t219 = true then (if t218 = (wrap64 ((wrap64 (a2 * t205)) + a3)) then (if bt232.2 = true then (if bt234.2 = true then (some (bt232.1 == (wrap64 ((wrap64 (a3 * bt234.1)) + t205)))) else (none)) else (none)) else (none)) else (none)) else (none)))) else (none))) else (none)) = some r := by first | (rw [hy220]; with_reducible exact H) | (have H2_ := (Option.bind_some _ _).symm.trans H; rw [hy220]; with_reducible exact H2_) | (have H2_ := (Option.bind_some _ _).symm.trans H; with_reducible exact H2_) | with_reducible exact H | (rw [hy220]; exact H) | exact H
                have Ny220 := Aside0.mk hy220
                clear hy220
                by_cases c25 : y220.length + l0.length < 17592186044416
                · rw [if_pos c25] at H
                  have LMc25 := Aside0.mk c25
                  clear c25
                  obtain ⟨y223, hy223⟩ : ∃ y_ : List Int, y_ = (y220 ++ l0) := ⟨_, rfl⟩
                  replace H : ((some (([a3] : List Int) : List Int)).bind fun y226 => (if y226.length + l1.length < 17592186044416 then ((shape_Place.f kj9 y223 (y226 ++ l1)).bind fun bt232 => ((shape_Count.f kj9 l0).bind fun bt234 => (if t195 = true then (if t219 = true then (if t218 = (wrap64 ((wrap64 (a2 * t205)) + a3)) then (if bt232.2 = true then (if bt234.2 = true then (some (bt232.1 == (wrap64 ((wrap64 (a3 * bt234.1)) + t205)))) else (none)) else (none)) else (none)) else (none)) else (none)))) else (none))) = some r := by first | (rw [hy223]; with_reducible exact H) | (have H2_ := (Option.bind_some _ _).symm.trans H; rw [hy223]; with_reducible exact H2_) | (have H2_ := (Option.bind_some _ _).symm.trans H; with_reducible exact H2_) | with_reducible exact H | (rw [hy223]; exact H) | exact H
                  have Ny223 := Aside0.mk hy223
                  clear hy223
                  obtain ⟨y226, hy226⟩ : ∃ y_ : List Int, y_ = (([a3] : List Int)) := ⟨_, rfl⟩
                  replace H : (if y226.length + l1.length < 17592186044416 then ((shape_Place.f kj9 y223 (y226 ++ l1)).bind fun bt232 => ((shape_Count.f kj9 l0).bind fun bt234 => (if t195 = true then (if t219 = true then (if t218 = (wrap64 ((wrap64 (a2 * t205)) + a3)) then (if bt232.2 = true then (if bt234.2 = true then (some (bt232.1 == (wrap64 ((wrap64 (a3 * bt234.1)) + t205)))) else (none)) else (none)) else (none)) else (none)) else (none)))) else (none)) = some r := by first | (rw [hy226]; with_reducible exact H) | (have H2_ := (Option.bind_some _ _).symm.trans H; rw [hy226]; with_reducible exact H2_) | (have H2_ := (Option.bind_some _ _).symm.trans H; with_reducible exact H2_) | with_reducible exact H | (rw [hy226]; exact H) | exact H
                  have Ny226 := Aside0.mk hy226
                  clear hy226
                  by_cases c26 : y226.length + l1.length < 17592186044416
                  · rw [if_pos c26] at H
                    have LMc26 := Aside0.mk c26
                    clear c26
                    obtain ⟨y229, hy229⟩ : ∃ y_ : List Int, y_ = (y226 ++ l1) := ⟨_, rfl⟩
                    replace H : ((shape_Place.f kj9 y223 y229).bind fun bt232 => ((shape_Count.f kj9 l0).bind fun bt234 => (if t195 = true then (if t219 = true then (if t218 = (wrap64 ((wrap64 (a2 * t205)) + a3)) then (if bt232.2 = true then (if bt234.2 = true then (some (bt232.1 == (wrap64 ((wrap64 (a3 * bt234.1)) + t205)))) else (none)) else (none)) else (none)) else (none)) else (none)))) = some r := by first | (rw [hy229]; with_reducible exact H) | (have H2_ := (Option.bind_some _ _).symm.trans H; rw [hy229]; with_reducible exact H2_) | (have H2_ := (Option.bind_some _ _).symm.trans H; with_reducible exact H2_) | with_reducible exact H | (rw [hy229]; exact H) | exact H
                    have Ny229 := Aside0.mk hy229
                    clear hy229
                    replace H := Option.bind_eq_some_iff.mp H
                    obtain ⟨⟨t232, t233⟩, A270, H⟩ := H
                    replace H : ((shape_Count.f kj9 l0).bind fun bt234 => (if t195 = true then (if t219 = true then (if t218 = (wrap64 ((wrap64 (a2 * t205)) + a3)) then (if t233 = true then (if bt234.2 = true then (some (t232 == (wrap64 ((wrap64 (a3 * bt234.1)) + t205)))) else (none)) else (none)) else (none)) else (none)) else (none))) = some r := H
                    have A27 := Aside0.mk A270
                    clear A270
                    replace H := Option.bind_eq_some_iff.mp H
                    obtain ⟨⟨t234, t235⟩, A280, H⟩ := H
                    replace H : (if t195 = true then (if t219 = true then (if t218 = (wrap64 ((wrap64 (a2 * t205)) + a3)) then (if t233 = true then (if t235 = true then (some (t232 == (wrap64 ((wrap64 (a3 * t234)) + t205)))) else (none)) else (none)) else (none)) else (none)) else (none)) = some r := H
                    have A28 := Aside0.mk A280
                    clear A280
                    by_cases c29 : t195 = true
                    · subst c29
                      have H1 : (if t219 = true then (if t218 = (wrap64 ((wrap64 (a2 * t205)) + a3)) then (if t233 = true then (if t235 = true then (some (t232 == (wrap64 ((wrap64 (a3 * t234)) + t205)))) else (none)) else (none)) else (none)) else (none)) = some r := by rw [if_pos rfl] at H; exact H
                      clear H
                      have H := H1
                      clear H1
                      by_cases c30 : t219 = true
                      · subst c30
                        have H1 : (if t218 = (wrap64 ((wrap64 (a2 * t205)) + a3)) then (if t233 = true then (if t235 = true then (some (t232 == (wrap64 ((wrap64 (a3 * t234)) + t205)))) else (none)) else (none)) else (none)) = some r := by rw [if_pos rfl] at H; exact H
                        clear H
                        have H := H1
                        clear H1
                        by_cases c31 : t218 = (wrap64 ((wrap64 (a2 * t205)) + a3))
                        · rw [if_pos c31] at H
                          have c31b0 : (t218 == (wrap64 ((wrap64 (a2 * t205)) + a3))) = true := beq_iff_eq.mpr c31
                          have c31b1 : (t218 != (wrap64 ((wrap64 (a2 * t205)) + a3))) = false := bne_eq_false_iff_eq.mpr c31
                          clear c31
                          by_cases c32 : t233 = true
                          · subst c32
                            have H1 : (if t235 = true then (some (t232 == (wrap64 ((wrap64 (a3 * t234)) + t205)))) else (none)) = some r := by rw [if_pos rfl] at H; exact H
                            clear H
                            have H := H1
                            clear H1
                            by_cases c33 : t235 = true
                            · subst c33
                              have H1 : (some (t232 == (wrap64 ((wrap64 (a3 * t234)) + t205)))) = some r := by rw [if_pos rfl] at H; exact H
                              clear H
                              have H := H1
                              clear H1
                              obtain rfl := Option.some.inj H
                              go_wp2_with (first | ((with_reducible refine gate_dst (N := 63) rfl ?_); refine Kd.R_lit (Kd.int .i64) _ 3 ?hg (N := 63) ?hd (xs := ([] : List Int)) (inner := []) (ok := fun _ => True) (okp := fun _ => True) ?hr ?hp (fun _ hk => hk) trivial (Below.refl _ _) (Nat.le_refl _) (by simp) ?_; (case hd => rfl); (case hg => rfl); (case hr => first | (go_simp; done) | (go_simp; rfl)); (case hp => exact (Reps.none _ _)); intro v210 w34 ho35 hb hg_ hnew_; clear hg_ hnew_; (first | rw [← Ny209.out] at ho35 | (simp only [Int.reduceToNat] at ho35; rw [← Ny209.out] at ho35)); have n0_ := Aside0.mk (Kd.R_elder' (by (with_reducible repeat (first | apply Kd.R_alloc | apply Kd.R_drewN | apply Kd.R_drew)); exact HO_10.out) (Kd.R_base ho35) hb); have n1_ := Aside0.mk (Kd.R_lower (Kd.R_new' ho35 (Kd.R_lt (by (with_reducible repeat (first | apply Kd.R_alloc | apply Kd.R_drewN | apply Kd.R_drew)); exact HO_10.out))) (below_size (by repeat (first | (with_reducible first | exact HB.out | apply below_alloc | apply pw_below_drewN | apply below_drew1) | exact HB.out)))); have n2_ := Aside0.mk (below_step (by repeat (first | (with_reducible first | exact HB.out | apply below_alloc | apply pw_below_drewN | apply below_drew1) | exact HB.out)) hb); clear HO_10; clear HB; have HO_10 := n0_; have HO211 := n1_; have HB := n2_; clear n0_ n1_ n2_; clear hb ho35) | ((with_reducible refine gate_builtin (b := .append) (xs := #[.tmp 63, .tmp 64]) rfl ?_); at_builtin; refine Kd.R_append_rows (Kd.int .i64) (w0 := w) w.heap.size rfl (.tmp 63) (.tmp 64) 22 3 (.int .i64 0) 8 rfl Try.underlying22 info3 rfl (by decide) (by omega) v210 y209 l1 _ _ _ (fun k_ => some k_ ≠ (.slice Ao16 y202.length co16 : Value).ownBlock) (fun _ => False) rfl rfl ?aO ?aR (fun _ _ h => h) (fun _ h => h.elim) ?aF ?aB ?aS ?aL ?_; (case aR => repeat (first | exact (Kd.C_below HR1.out HB.out) | (with_reducible refine Kd.C_alloc ?_ _) | (with_reducible refine Kd.C_drewN ?_ _) | (with_reducible refine Kd.C_drew ?_))); (case aB => exact (by repeat (first | (with_reducible first | exact HB.out | apply below_alloc | apply pw_below_drewN | apply below_drew1) | exact HB.out))); (case aF => exact (fun k_ hk => Kd.fresh' (Kd.R_lt (by (with_reducible repeat (first | apply Kd.R_alloc | apply Kd.R_drewN | apply Kd.R_drew)); exact HO_10.out)) k_ hk)); (case aO => exact (by (with_reducible repeat (first | apply Kd.R_alloc | apply Kd.R_drewN | apply Kd.R_drew)); exact Kd.R_mono HO211.out (fun _ hk => hk.2))); (case aS => exact (below_size (by repeat (first | (with_reducible first | exact HB.out | apply below_alloc | apply pw_below_drewN | apply below_drew1) | exact HB.out)))); (case aL => have := LMc22.out; omega); intro v213 w36 ho hb hg hat; rw [← Ny212.out] at ho; have n0_ := Aside0.mk (Kd.R_after (ok := (fun _ => True)) (by (with_reducible repeat (first | apply Kd.R_alloc | apply Kd.R_drewN | apply Kd.R_drew)); exact HO_10.out) hg hat); have n1_ := Aside0.mk (hb); have n2_ := Aside0.mk (ho); clear HO_10; clear HB; clear HO211; have HO_10 := n0_; have HB := n1_; have HO214 := n2_; clear n0_ n1_ n2_; clear ho hb hg hat) | ((with_reducible refine gate_builtin (b := .append) (xs := #[.tmp 65, .tmp 67]) rfl ?_); at_builtin; refine Kd.R_append (Kd.int .i64) (w0 := w) w.heap.size rfl (.tmp 65) (.tmp 67) 22 3 (.int .i64 0) 8 rfl Try.underlying22 info3 rfl (by decide) (by omega) v213 y212 a3 [.int .i64 a3] (fun k_ => some k_ ≠ (.slice Ao16 y202.length co16 : Value).ownBlock) (fun _ => False) rfl rfl ?aP (fun _ hk => hk.elim) ?aF ?aO ?aB ?aS ?aL ?_; (case aP => exact rfl); (case aB => exact (by repeat (first | (with_reducible first | exact HB.out | apply below_alloc | apply pw_below_drewN | apply below_drew1) | exact HB.out))); (case aF => exact (fun k_ hk => Kd.fresh' (Kd.R_lt (by (with_reducible repeat (first | apply Kd.R_alloc | apply Kd.R_drewN | apply Kd.R_drew)); exact HO_10.out)) k_ hk)); (case aO => exact (by (with_reducible repeat (first | apply Kd.R_alloc | apply Kd.R_drewN | apply Kd.R_drew)); exact HO214.out)); (case aS => exact (below_size (by repeat (first | (with_reducible first | exact HB.out | apply below_alloc | apply pw_below_drewN | apply below_drew1) | exact HB.out)))); (case aL => have := LMc23.out; omega); intro v216 w37 ho hb hg hat; rw [← Ny215.out] at ho; have n0_ := Aside0.mk (Kd.R_after (ok := (fun _ => True)) (by (with_reducible repeat (first | apply Kd.R_alloc | apply Kd.R_drewN | apply Kd.R_drew)); exact HO_10.out) hg hat); have n1_ := Aside0.mk (hb); have n2_ := Aside0.mk (ho); clear HO_10; clear HB; clear HO214; have HO_10 := n0_; have HB := n1_; have HO217 := n2_; clear n0_ n1_ n2_; clear ho hb hg hat; obtain ⟨Ao38, co38, eo38⟩ := Kd.R_slice HO217.out; subst eo38) | ((with_reducible refine gate_callee (f := 11) rfl ?_); refine goesL_ (some 69) rfl rfl Try.func11 (by kernel_rfl) rfl #[.slice Ao16 y202.length co16, .slice Ao38 y215.length co38] rfl (by (try simp only [List.map_toArray, List.map_cons, List.map_nil]); first | done | rfl | (simp only [List.length_drop, List.length_take]; rfl)) ?_; (with_reducible refine (shape_Place.calls kj9 _ _ y202 _ _ y215 t218 true _ ?side1 ?side2 ?side3 ?side4 A24.out).mono ?_); (case side1 => repeat (first | exact (Kd.R_reads' HO_10.out).2.2 | (with_reducible refine Kd.C_alloc ?_ _) | (with_reducible refine Kd.C_drewN ?_ _) | (with_reducible refine Kd.C_drew ?_))); (case side2 => exact (Kd.R_reads' HO_10.out).2.1); (case side3 => repeat (first | exact (Kd.R_reads' HO217.out).2.2 | (with_reducible refine Kd.C_alloc ?_ _) | (with_reducible refine Kd.C_drewN ?_ _) | (with_reducible refine Kd.C_drew ?_))); (case side4 => exact (Kd.R_reads' HO217.out).2.1); rintro e w' ⟨rfl, ⟨nd, rfl⟩⟩; refine ⟨_, rfl, ?_⟩) | ((with_reducible refine gate_dst (N := 73) rfl ?_); refine Kd.R_lit (Kd.int .i64) _ 3 ?hg (N := 73) ?hd (xs := ([a2] : List Int)) (inner := [.int .i64 a2]) (ok := fun _ => True) (okp := fun _ => True) ?hr ?hp (fun _ hk => hk) trivial (Below.refl _ _) (Nat.le_refl _) (by simp) ?_; (case hd => rfl); (case hg => rfl); (case hr => first | (go_simp; done) | (go_simp; rfl)); (case hp => exact (Reps.one (show Kd.M (Kd.int .i64) _ _ _ a2 [.int .i64 a2] from rfl) (Reps.none _ _))); intro v221 w39 ho40 hb hg_ hnew_; clear hg_ hnew_; (first | rw [← Ny220.out] at ho40 | (simp only [Int.reduceToNat] at ho40; rw [← Ny220.out] at ho40)); have n0_ := Aside0.mk (Kd.R_elder' (by (with_reducible repeat (first | apply Kd.R_alloc | apply Kd.R_drewN | apply Kd.R_drew)); exact HO_10.out) (Kd.R_base ho40) hb); have n1_ := Aside0.mk (Kd.R_elder' (by (with_reducible repeat (first | apply Kd.R_alloc | apply Kd.R_drewN | apply Kd.R_drew)); exact HO217.out) (Kd.R_base ho40) hb); have n2_ := Aside0.mk (Kd.R_lower (Kd.R_new' (Kd.R_new' ho40 (Kd.R_lt (by (with_reducible repeat (first | apply Kd.R_alloc | apply Kd.R_drewN | apply Kd.R_drew)); exact HO_10.out))) (Kd.R_lt (by (with_reducible repeat (first | apply Kd.R_alloc | apply Kd.R_drewN | apply Kd.R_drew)); exact HO217.out))) (below_size (by repeat (first | (with_reducible first | exact HB.out | apply below_alloc | apply pw_below_drewN | apply below_drew1) | exact HB.out)))); have n3_ := Aside0.mk (below_step (by repeat (first | (with_reducible first | exact HB.out | apply below_alloc | apply pw_below_drewN | apply below_drew1) | exact HB.out)) hb); clear HO_10; clear HO217; clear HB; have HO_10 := n0_; have HO217 := n1_; have HO222 := n2_; have HB := n3_; clear n0_ n1_ n2_ n3_; clear hb ho40) | ((with_reducible refine gate_builtin (b := .append) (xs := #[.tmp 73, .tmp 74]) rfl ?_); at_builtin; refine Kd.R_append_rows (Kd.int .i64) (w0 := w) w.heap.size rfl (.tmp 73) (.tmp 74) 22 3 (.int .i64 0) 8 rfl Try.underlying22 info3 rfl (by decide) (by omega) v221 y220 l0 _ _ _ (fun k_ => some k_ ≠ (.slice Ao16 y202.length co16 : Value).ownBlock ∧ some k_ ≠ (.slice Ao38 y215.length co38 : Value).ownBlock) (fun _ => False) rfl rfl ?aO ?aR (fun _ _ h => h) (fun _ h => h.elim) ?aF ?aB ?aS ?aL ?_; (case aR => repeat (first | exact (Kd.C_below HR0.out HB.out) | (with_reducible refine Kd.C_alloc ?_ _) | (with_reducible refine Kd.C_drewN ?_ _) | (with_reducible refine Kd.C_drew ?_))); (case aB => exact (by repeat (first | (with_reducible first | exact HB.out | apply below_alloc | apply pw_below_drewN | apply below_drew1) | exact HB.out))); (case aF => exact (fun k_ hk => ⟨Kd.fresh' (Kd.R_lt (by (with_reducible repeat (first | apply Kd.R_alloc | apply Kd.R_drewN | apply Kd.R_drew)); exact HO_10.out)) k_ hk, Kd.fresh' (Kd.R_lt (by (with_reducible repeat (first | apply Kd.R_alloc | apply Kd.R_drewN | apply Kd.R_drew)); exact HO217.out)) k_ hk⟩)); (case aO => exact (by (with_reducible repeat (first | apply Kd.R_alloc | apply Kd.R_drewN | apply Kd.R_drew)); exact Kd.R_mono HO222.out (fun _ hk => ⟨hk.1.2, hk.2⟩))); (case aS => exact (below_size (by repeat (first | (with_reducible first | exact HB.out | apply below_alloc | apply pw_below_drewN | apply below_drew1) | exact HB.out)))); (case aL => have := LMc25.out; omega); intro v224 w41 ho hb hg hat; rw [← Ny223.out] at ho; have n0_ := Aside0.mk (Kd.R_after (ok := (fun k_ => some k_ ≠ (.slice Ao38 y215.length co38 : Value).ownBlock)) (by (with_reducible repeat (first | apply Kd.R_alloc | apply Kd.R_drewN | apply Kd.R_drew)); exact Kd.R_mono HO_10.out (fun _ hk => ⟨hk.1.2, hk.2⟩)) hg hat); have n1_ := Aside0.mk (Kd.R_after (ok := (fun k_ => some k_ ≠ (.slice Ao16 y202.length co16 : Value).ownBlock)) (by (with_reducible repeat (first | apply Kd.R_alloc | apply Kd.R_drewN | apply Kd.R_drew)); exact HO217.out) hg hat); have n2_ := Aside0.mk (hb); have n3_ := Aside0.mk (ho); clear HO_10; clear HO217; clear HB; clear HO222; have HO_10 := n0_; have HO217 := n1_; have HB := n2_; have HO225 := n3_; clear n0_ n1_ n2_ n3_; clear ho hb hg hat) | ((with_reducible refine gate_dst (N := 79) rfl ?_); refine Kd.R_lit (Kd.int .i64) _ 3 ?hg (N := 79) ?hd (xs := ([a3] : List Int)) (inner := [.int .i64 a3]) (ok := fun _ => True) (okp := fun _ => True) ?hr ?hp (fun _ hk => hk) trivial (Below.refl _ _) (Nat.le_refl _) (by simp) ?_; (case hd => rfl); (case hg => rfl); (case hr => first | (go_simp; done) | (go_simp; rfl)); (case hp => exact (Reps.one (show Kd.M (Kd.int .i64) _ _ _ a3 [.int .i64 a3] from rfl) (Reps.none _ _))); intro v227 w42 ho43 hb hg_ hnew_; clear hg_ hnew_; (first | rw [← Ny226.out] at ho43 | (simp only [Int.reduceToNat] at ho43; rw [← Ny226.out] at ho43)); have n0_ := Aside0.mk (Kd.R_elder' (by (with_reducible repeat (first | apply Kd.R_alloc | apply Kd.R_drewN | apply Kd.R_drew)); exact HO_10.out) (Kd.R_base ho43) hb); have n1_ := Aside0.mk (Kd.R_elder' (by (with_reducible repeat (first | apply Kd.R_alloc | apply Kd.R_drewN | apply Kd.R_drew)); exact HO217.out) (Kd.R_base ho43) hb); have n2_ := Aside0.mk (Kd.R_elder' (by (with_reducible repeat (first | apply Kd.R_alloc | apply Kd.R_drewN | apply Kd.R_drew)); exact HO225.out) (Kd.R_base ho43) hb); have n3_ := Aside0.mk (Kd.R_lower (Kd.R_new' (Kd.R_new' (Kd.R_new' ho43 (Kd.R_lt (by (with_reducible repeat (first | apply Kd.R_alloc | apply Kd.R_drewN | apply Kd.R_drew)); exact HO_10.out))) (Kd.R_lt (by (with_reducible repeat (first | apply Kd.R_alloc | apply Kd.R_drewN | apply Kd.R_drew)); exact HO217.out))) (Kd.R_lt (by (with_reducible repeat (first | apply Kd.R_alloc | apply Kd.R_drewN | apply Kd.R_drew)); exact HO225.out))) (below_size (by repeat (first | (with_reducible first | exact HB.out | apply below_alloc | apply pw_below_drewN | apply below_drew1) | exact HB.out)))); have n4_ := Aside0.mk (below_step (by repeat (first | (with_reducible first | exact HB.out | apply below_alloc | apply pw_below_drewN | apply below_drew1) | exact HB.out)) hb); clear HO_10; clear HO217; clear HO225; clear HB; have HO_10 := n0_; have HO217 := n1_; have HO225 := n2_; have HO228 := n3_; have HB := n4_; clear n0_ n1_ n2_ n3_ n4_; clear hb ho43) | ((with_reducible refine gate_builtin (b := .append) (xs := #[.tmp 79, .tmp 80]) rfl ?_); at_builtin; refine Kd.R_append_rows (Kd.int .i64) (w0 := w) w.heap.size rfl (.tmp 79) (.tmp 80) 22 3 (.int .i64 0) 8 rfl Try.underlying22 info3 rfl (by decide) (by omega) v227 y226 l1 _ _ _ (fun k_ => some k_ ≠ (.slice Ao16 y202.length co16 : Value).ownBlock ∧ some k_ ≠ (.slice Ao38 y215.length co38 : Value).ownBlock ∧ some k_ ≠ (v224 : Value).ownBlock) (fun _ => False) rfl rfl ?aO ?aR (fun _ _ h => h) (fun _ h => h.elim) ?aF ?aB ?aS ?aL ?_; (case aR => repeat (first | exact (Kd.C_below HR1.out HB.out) | (with_reducible refine Kd.C_alloc ?_ _) | (with_reducible refine Kd.C_drewN ?_ _) | (with_reducible refine Kd.C_drew ?_))); (case aB => exact (by repeat (first | (with_reducible first | exact HB.out | apply below_alloc | apply pw_below_drewN | apply below_drew1) | exact HB.out))); (case aF => exact (fun k_ hk => ⟨Kd.fresh' (Kd.R_lt (by (with_reducible repeat (first | apply Kd.R_alloc | apply Kd.R_drewN | apply Kd.R_drew)); exact HO_10.out)) k_ hk, Kd.fresh' (Kd.R_lt (by (with_reducible repeat (first | apply Kd.R_alloc | apply Kd.R_drewN | apply Kd.R_drew)); exact HO217.out)) k_ hk, Kd.fresh' (Kd.R_lt (by (with_reducible repeat (first | apply Kd.R_alloc | apply Kd.R_drewN | apply Kd.R_drew)); exact HO225.out)) k_ hk⟩)); (case aO => exact (by (with_reducible repeat (first | apply Kd.R_alloc | apply Kd.R_drewN | apply Kd.R_drew)); exact Kd.R_mono HO228.out (fun _ hk => ⟨hk.1.1.2, ⟨hk.1.2, hk.2⟩⟩))); (case aS => exact (below_size (by repeat (first | (with_reducible first | exact HB.out | apply below_alloc | apply pw_below_drewN | apply below_drew1) | exact HB.out)))); (case aL => have := LMc26.out; omega); intro v230 w44 ho hb hg hat; rw [← Ny229.out] at ho; have n0_ := Aside0.mk (Kd.R_after (ok := (fun k_ => some k_ ≠ (.slice Ao38 y215.length co38 : Value).ownBlock ∧ some k_ ≠ (v224 : Value).ownBlock)) (by (with_reducible repeat (first | apply Kd.R_alloc | apply Kd.R_drewN | apply Kd.R_drew)); exact HO_10.out) hg hat); have n1_ := Aside0.mk (Kd.R_after (ok := (fun k_ => some k_ ≠ (.slice Ao16 y202.length co16 : Value).ownBlock ∧ some k_ ≠ (v224 : Value).ownBlock)) (by (with_reducible repeat (first | apply Kd.R_alloc | apply Kd.R_drewN | apply Kd.R_drew)); exact HO217.out) hg hat); have n2_ := Aside0.mk (Kd.R_after (ok := (fun k_ => some k_ ≠ (.slice Ao16 y202.length co16 : Value).ownBlock ∧ some k_ ≠ (.slice Ao38 y215.length co38 : Value).ownBlock)) (by (with_reducible repeat (first | apply Kd.R_alloc | apply Kd.R_drewN | apply Kd.R_drew)); exact HO225.out) hg hat); have n3_ := Aside0.mk (hb); have n4_ := Aside0.mk (ho); clear HO_10; clear HO217; clear HO225; clear HB; clear HO228; have HO_10 := n0_; have HO217 := n1_; have HO225 := n2_; have HB := n3_; have HO231 := n4_; clear n0_ n1_ n2_ n3_ n4_; clear ho hb hg hat; obtain ⟨Ao45, co45, eo45⟩ := Kd.R_slice HO225.out; subst eo45; obtain ⟨Ao46, co46, eo46⟩ := Kd.R_slice HO231.out; subst eo46) | ((with_reducible refine gate_callee (f := 11) rfl ?_); refine goesL_ (some 82) rfl rfl Try.func11 (by kernel_rfl) rfl #[.slice Ao45 y223.length co45, .slice Ao46 y229.length co46] rfl (by (try simp only [List.map_toArray, List.map_cons, List.map_nil]); first | done | rfl | (simp only [List.length_drop, List.length_take]; rfl)) ?_; (with_reducible refine (shape_Place.calls kj9 _ _ y223 _ _ y229 t232 true _ ?side1 ?side2 ?side3 ?side4 A27.out).mono ?_); (case side1 => repeat (first | exact (Kd.R_reads' HO225.out).2.2 | (with_reducible refine Kd.C_alloc ?_ _) | (with_reducible refine Kd.C_drewN ?_ _) | (with_reducible refine Kd.C_drew ?_))); (case side2 => exact (Kd.R_reads' HO225.out).2.1); (case side3 => repeat (first | exact (Kd.R_reads' HO231.out).2.2 | (with_reducible refine Kd.C_alloc ?_ _) | (with_reducible refine Kd.C_drewN ?_ _) | (with_reducible refine Kd.C_drew ?_))); (case side4 => exact (Kd.R_reads' HO231.out).2.1); rintro e w' ⟨rfl, ⟨nd, rfl⟩⟩; refine ⟨_, rfl, ?_⟩) | ((with_reducible refine gate_callee (f := 9) rfl ?_); refine goesL_ (some 87) rfl rfl Try.func9 (by kernel_rfl) rfl #[.slice A0 l0.length c0] rfl (by (try simp only [List.map_toArray, List.map_cons, List.map_nil]); first | done | rfl | (simp only [List.length_drop, List.length_take]; rfl)) ?_; (with_reducible refine (shape_Count.calls kj9 _ _ l0 t234 true _ ?side1 ?side2 A28.out).mono ?_); (case side1 => repeat (first | exact (Kd.C_below HR0.out (by repeat (first | (with_reducible first | exact HB.out | apply below_alloc | apply pw_below_drewN | apply below_drew1) | exact HB.out))) | (with_reducible refine Kd.C_alloc ?_ _) | (with_reducible refine Kd.C_drewN ?_ _) | (with_reducible refine Kd.C_drew ?_))); (case side2 => exact HC0.out); rintro e w' ⟨rfl, ⟨nd, rfl⟩⟩; refine ⟨_, rfl, ?_⟩))
                              go_ret
                              exact ⟨by first | rfl | (simp [errW_none, errW_some] <;> rfl) | (simp [*, errW_none, errW_some] <;> rfl), by repeat (first | (with_reducible first | exact HB.out | apply below_alloc | apply pw_below_drewN | apply below_drew1) | exact HB.out)⟩
                            · replace c33 := Bool.eq_false_iff.mpr c33
                              subst c33
                              have H1 : (none) = some r := by rw [if_neg (show ¬ (false = true) by decide)] at H; exact H
                              clear H
                              have H := H1
                              clear H1
                              exact absurd H (by simp)
                          · replace c32 := Bool.eq_false_iff.mpr c32
                            subst c32
                            have H1 : (none) = some r := by rw [if_neg (show ¬ (false = true) by decide)] at H; exact H
                            clear H
                            have H := H1
                            clear H1
                            exact absurd H (by simp)
                        · rw [if_neg c31] at H
                          exact absurd H (by simp)
                      · replace c30 := Bool.eq_false_iff.mpr c30
                        subst c30
                        have H1 : (none) = some r := by rw [if_neg (show ¬ (false = true) by decide)] at H; exact H
                        clear H
                        have H := H1
                        clear H1
                        exact absurd H (by simp)
                    · replace c29 := Bool.eq_false_iff.mpr c29
                      subst c29
                      have H1 : (none) = some r := by rw [if_neg (show ¬ (false = true) by decide)] at H; exact H
                      clear H
                      have H := H1
                      clear H1
                      exact absurd H (by simp)
                  · rw [if_neg c26] at H
                    exact absurd H (by simp)
                · rw [if_neg c25] at H
                  exact absurd H (by simp)
              · rw [if_neg c23] at H
                exact absurd H (by simp)
            · rw [if_neg c22] at H
              exact absurd H (by simp)
    · rw [if_neg c7] at H
      exact absurd H (by simp)
  · rw [if_neg c6] at H
    exact absurd H (by simp)

/-- THE ONE PURE STATEMENT of decklelaw09_ShapeRows: yours. -/
def decklelaw09_ShapeRows.Pure : Prop := ∀ (l0 : List Int) (l1 : List Int) (a2 : Int) (a3 : Int), l0.length ≤ maxLen → l0.length * 8 ≤ 140737488351232 → (∀ x ∈ l0, (Lit.int .i64 x).wf = true) → l1.length ≤ maxLen → l1.length * 8 ≤ 140737488351232 → (∀ x ∈ l1, (Lit.int .i64 x).wf = true) → (Lit.int .i64 a2).wf = true → (Lit.int .i64 a3).wf = true → ∃ k, decklelaw09_ShapeRows.f k l0 l1 a2 a3 = some true
theorem decklelaw09_ShapeRows.walk (P : decklelaw09_ShapeRows.Pure) (a0 : Option Addr) (len0 cap0 : Nat) (z0 : List Int) (a1 : Option Addr) (len1 cap1 : Nat) (z1 : List Int) (a2 : Int) (a3 : Int) (w : World) (w0 : (a0 = none ∧ len0 = 0 ∧ cap0 = 0 ∧ z0 = []) ∨ ∃ x, a0 = some x ∧ len0 ≤ cap0 ∧ cap0 ≤ maxLen ∧ z0.length = cap0 ∧ (∀ i, i < z0.length → w.cell? (x.add i) = some (.int .i64 (z0.getD i 0))) ∧ ∀ n ∈ z0, (Lit.int .i64 n).wf = true) (y0 : len0 * 8 ≤ 140737488351232) (w1 : (a1 = none ∧ len1 = 0 ∧ cap1 = 0 ∧ z1 = []) ∨ ∃ x, a1 = some x ∧ len1 ≤ cap1 ∧ cap1 ≤ maxLen ∧ z1.length = cap1 ∧ (∀ i, i < z1.length → w.cell? (x.add i) = some (.int .i64 (z1.getD i 0))) ∧ ∀ n ∈ z1, (Lit.int .i64 n).wf = true) (y1 : len1 * 8 ≤ 140737488351232) (w2 : (Lit.int .i64 a2).wf = true) (w3 : (Lit.int .i64 a3).wf = true) :
    Calls Try.prog 5 #[.slice a0 len0 cap0, .slice a1 len1 cap1, .int .i64 a2, .int .i64 a3] w fun e w' => e = .returned (.bool true) ∧ Below w.heap.size w w' := by
  obtain ⟨l0, rfl, hr0, hm0, hw0, hc0⟩ := ReadsInt.ofRowC w0
  obtain ⟨l1, rfl, hr1, hm1, hw1, hc1⟩ := ReadsInt.ofRowC w1
  obtain ⟨k, h⟩ := P l0 l1 a2 a3 hm0 y0 hw0 hm1 y1 hw1 w2 w3
  refine (decklelaw09_ShapeRows.calls k _ _ l0 _ _ l1 a2 a3 true w (Kd.C_of_reads (d := (0 : Int)) (h1 := fun _ => rfl) hr0) hc0 (Kd.C_of_reads (d := (0 : Int)) (h1 := fun _ => rfl) hr1) hc1 h).mono ?_
  rintro e w' ⟨rfl, hd⟩
  exact ⟨rfl, hd⟩

end Go.Proofs.Ytngpdacbmkfbcaa.HShapeRows
