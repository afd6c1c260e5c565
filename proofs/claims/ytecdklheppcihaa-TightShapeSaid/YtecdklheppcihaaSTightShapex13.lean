/- What the Go functions of this claim answer, told as functions of numbers and lists, and that other memory stays as it was: words and walks, shortened by a program. -/
import Derived.Test.YtecdklheppcihaaSTightShapex0
import Derived.Test.YtecdklheppcihaaSTightShapex2
import Derived.Test.YtecdklheppcihaaSTightShapex11
import Derived.Test.YtecdklheppcihaaSTightShapex12
namespace Go.Proofs.Ytecdklheppcihaa.HTightNumbers
open Go.RowKit Go.Proofs.YtecdklheppcihaaW.PrintWords Go.Proofs.YtecdklheppcihaaW.PrintLast Go.Proofs.YtecdklheppcihaaW.PrintMore
attribute [local go_sem] max2_int min2_int max_two min_two max_three min_three max_four min_four
set_option linter.unusedVariables false
set_option linter.unusedSimpArgs false
def array_Same_1.f (k : Nat) (a0_0 : Int) (l0_1 : List Int) (l0_2 : List Int) (l0_3 : List (S38)) (a1_0 : Int) (l1_1 : List Int) (l1_2 : List Int) (l1_3 : List (S38)) : Option (Bool) := if a0_0 = a1_0 then ((slices_Equal_int_int.f k l0_1 l1_1).bind fun t360 => (if t360 = true then ((slices_Equal_int_int.f k l0_2 l1_2).bind fun t361 => (if t361 = true then ((api_Dec_64.f k l0_3 l1_3).bind fun t362 => (some t362)) else (some false))) else (some false))) else (some false)
theorem array_Same_1.mono : ∀ a0 a1 a2 a3 a4 a5 a6 a7 k, LeO (array_Same_1.f k a0 a1 a2 a3 a4 a5 a6 a7) (array_Same_1.f (k + 1) a0 a1 a2 a3 a4 a5 a6 a7) := by
  intro a0 a1 a2 a3 a4 a5 a6 a7 k
  unfold array_Same_1.f
  have im0 := @api_Dec_64.mono
  have im1 := @slices_Equal_int_int.mono
  exact mz3
set_option maxHeartbeats 8000000 in
set_option maxRecDepth 100000 in
theorem array_Same_1.calls (k : Nat) (a0_0 : Int) (A0_1 : Option Addr) (c0_1 : Nat) (l0_1 : List Int) (A0_2 : Option Addr) (c0_2 : Nat) (l0_2 : List Int) (A0_3 : Option Addr) (c0_3 : Nat) (l0_3 : List (S38)) (a1_0 : Int) (A1_1 : Option Addr) (c1_1 : Nat) (l1_1 : List Int) (A1_2 : Option Addr) (c1_2 : Nat) (l1_2 : List Int) (A1_3 : Option Addr) (c1_3 : Nat) (l1_3 : List (S38)) (r : Bool) (w : World) (hr0_1 : Kd.C (Kd.int .i64) w A0_1 l0_1.length l0_1) (hc0_1 : l0_1.length ≤ c0_1) (hr0_2 : Kd.C (Kd.int .i64) w A0_2 l0_2.length l0_2) (hc0_2 : l0_2.length ≤ c0_2) (hr0_3 : Kd.C k38 w A0_3 l0_3.length l0_3) (hc0_3 : l0_3.length ≤ c0_3) (hr1_1 : Kd.C (Kd.int .i64) w A1_1 l1_1.length l1_1) (hc1_1 : l1_1.length ≤ c1_1) (hr1_2 : Kd.C (Kd.int .i64) w A1_2 l1_2.length l1_2) (hc1_2 : l1_2.length ≤ c1_2) (hr1_3 : Kd.C k38 w A1_3 l1_3.length l1_3) (hc1_3 : l1_3.length ≤ c1_3) (h : array_Same_1.f k a0_0 l0_1 l0_2 l0_3 a1_0 l1_1 l1_2 l1_3 = some r) :
    Calls Try.prog 62 #[.agg #[.int .i64 a0_0, .slice A0_1 l0_1.length c0_1, .slice A0_2 l0_2.length c0_2, .slice A0_3 l0_3.length c0_3], .agg #[.int .i64 a1_0, .slice A1_1 l1_1.length c1_1, .slice A1_2 l1_2.length c1_2, .slice A1_3 l1_3.length c1_3]] w fun e w' => e = .returned (.bool r) ∧ Below w.heap.size w w' := by
  have hu30 := Try.underlying30
  have HR0_1 := zq hr0_1
  have HC0_1 := zq hc0_1
  clear hr0_1 hc0_1
  have HR0_2 := zq hr0_2
  have HC0_2 := zq hc0_2
  clear hr0_2 hc0_2
  have HR0_3 := zq hr0_3
  have HC0_3 := zq hc0_3
  clear hr0_3 hc0_3
  have HR1_1 := zq hr1_1
  have HC1_1 := zq hc1_1
  clear hr1_1 hc1_1
  have HR1_2 := zq hr1_2
  have HC1_2 := zq hc1_2
  clear hr1_2 hc1_2
  have HR1_3 := zq hr1_3
  have HC1_3 := zq hc1_3
  clear hr1_3 hc1_3
  have HB := zq (Below.refl w.heap.size w)
  have H : (if a0_0 = a1_0 then ((slices_Equal_int_int.f k l0_1 l1_1).bind fun t360 => (if t360 = true then ((slices_Equal_int_int.f k l0_2 l1_2).bind fun t361 => (if t361 = true then ((api_Dec_64.f k l0_3 l1_3).bind fun t362 => (some t362)) else (some false))) else (some false))) else (some false)) = some r := h
  clear h
  by_cases c3 : a0_0 = a1_0
  rotate_left
  · rw [if_neg c3] at H
    have c3b0 : (a0_0 == a1_0) = false := beq_eq_false_iff_ne.mpr c3
    have c3b1 : (a0_0 != a1_0) = true := bne_iff_ne.mpr c3
    obtain rfl := Option.some.inj H
    go_enter Try.func62, Try.ntmps62
    go_wp2_with (first | ((with_reducible refine gate_dst (N := 2) rfl ?_); refine bxw 2 30 #[.int .i64 a0_0, .slice A0_1 l0_1.length c0_1, .slice A0_2 l0_2.length c0_2, .slice A0_3 l0_3.length c0_3] ?_; intro gb358 hg w24 hbox hb; have BK358 := zq (hbox); have GE358 := zq ((J16 : w.heap.size ≤ gb358)); replace HB := zq (below_step J0 hb); clear hb hbox hg) | ((with_reducible refine gate_dst (N := 3) rfl ?_); refine bxw 3 30 #[.int .i64 a1_0, .slice A1_1 l1_1.length c1_1, .slice A1_2 l1_2.length c1_2, .slice A1_3 l1_3.length c1_3] ?_; intro gb359 hg w25 hbox hb; have BK359 := zq (hbox); have GE359 := zq ((J101 : w.heap.size ≤ gb359)); replace HB := zq (below_step (zs1 GE358.out) hb); have NB358_359 := zq ((J44 : gb358 ≠ gb359)); have NB359_358 := zq ((J45 : gb359 ≠ gb358)); replace BK358 := zq (blk_below (g := gb358) (o := .cells #[.int .i64 a0_0, .slice A0_1 l0_1.length c0_1, .slice A0_2 l0_2.length c0_2, .slice A0_3 l0_3.length c0_3] 30 (0, 0)) (zk BK358.out) hb); clear hb hbox hg; have hnb26 := NB358_359.out; have hnc26 := NB359_358.out; obtain ⟨hcz27_0, hcz27_1, hcz27_2, hcz27_3, hfz27_0, hfz27_1, hfz27_2, hfz27_3⟩ := cz4 BK358.out; obtain ⟨hcz28_0, hcz28_1, hcz28_2, hcz28_3, hfz28_0, hfz28_1, hfz28_2, hfz28_3⟩ := cz4 BK359.out))
    go_ret
    exact ⟨J3, J46⟩
  rw [if_pos c3] at H
  have c3b0 : (a0_0 == a1_0) = true := beq_iff_eq.mpr c3
  have c3b1 : (a0_0 != a1_0) = false := bne_eq_false_iff_eq.mpr c3
  clear c3
  replace H := Option.bind_eq_some_iff.mp H
  obtain ⟨t360, A40, H⟩ := H
  have A4 := zq A40
  clear A40
  by_cases c5 : t360 = true
  rotate_left
  · replace c5 := Bool.eq_false_iff.mpr c5
    subst c5
    rw [if_neg (show ¬ (false = true) by decide)] at H
    obtain rfl := Option.some.inj H
    go_enter Try.func62, Try.ntmps62
    go_wp2_with (first | ((with_reducible refine gate_dst (N := 2) rfl ?_); refine bxw 2 30 #[.int .i64 a0_0, .slice A0_1 l0_1.length c0_1, .slice A0_2 l0_2.length c0_2, .slice A0_3 l0_3.length c0_3] ?_; intro gb358 hg w19 hbox hb; have BK358 := zq (hbox); have GE358 := zq ((J16 : w.heap.size ≤ gb358)); replace HB := zq (below_step J0 hb); clear hb hbox hg) | ((with_reducible refine gate_dst (N := 3) rfl ?_); refine bxw 3 30 #[.int .i64 a1_0, .slice A1_1 l1_1.length c1_1, .slice A1_2 l1_2.length c1_2, .slice A1_3 l1_3.length c1_3] ?_; intro gb359 hg w20 hbox hb; have BK359 := zq (hbox); have GE359 := zq ((J101 : w.heap.size ≤ gb359)); replace HB := zq (below_step (zs1 GE358.out) hb); have NB358_359 := zq ((J44 : gb358 ≠ gb359)); have NB359_358 := zq ((J45 : gb359 ≠ gb358)); replace BK358 := zq (blk_below (g := gb358) (o := .cells #[.int .i64 a0_0, .slice A0_1 l0_1.length c0_1, .slice A0_2 l0_2.length c0_2, .slice A0_3 l0_3.length c0_3] 30 (0, 0)) (zk BK358.out) hb); clear hb hbox hg; have hnb21 := NB358_359.out; have hnc21 := NB359_358.out; obtain ⟨hcz22_0, hcz22_1, hcz22_2, hcz22_3, hfz22_0, hfz22_1, hfz22_2, hfz22_3⟩ := cz4 BK358.out; obtain ⟨hcz23_0, hcz23_1, hcz23_2, hcz23_3, hfz23_0, hfz23_1, hfz23_2, hfz23_3⟩ := cz4 BK359.out) | (go_at_call 63; (with_reducible refine (slices_Equal_int_int.calls k _ _ l0_1 _ _ l1_1 false _ ?side1 ?side2 ?side3 ?side4 A4.out).mono ?_); (case side1 => exact zc (Kd.C_below HR0_1.out HB.out)); (case side2 => exact HC0_1.out); (case side3 => exact zc (Kd.C_below HR1_1.out HB.out)); (case side4 => exact HC1_1.out); rintro e w' ⟨rfl, ⟨nd, rfl⟩⟩))
    go_ret
    exact ⟨J3, J46⟩
  subst c5
  rw [if_pos rfl] at H
  replace H := Option.bind_eq_some_iff.mp H
  obtain ⟨t361, A60, H⟩ := H
  have A6 := zq A60
  clear A60
  by_cases c7 : t361 = true
  rotate_left
  · replace c7 := Bool.eq_false_iff.mpr c7
    subst c7
    rw [if_neg (show ¬ (false = true) by decide)] at H
    obtain rfl := Option.some.inj H
    go_enter Try.func62, Try.ntmps62
    go_wp2_with (first | ((with_reducible refine gate_dst (N := 2) rfl ?_); refine bxw 2 30 #[.int .i64 a0_0, .slice A0_1 l0_1.length c0_1, .slice A0_2 l0_2.length c0_2, .slice A0_3 l0_3.length c0_3] ?_; intro gb358 hg w14 hbox hb; have BK358 := zq (hbox); have GE358 := zq ((J16 : w.heap.size ≤ gb358)); replace HB := zq (below_step J0 hb); clear hb hbox hg) | ((with_reducible refine gate_dst (N := 3) rfl ?_); refine bxw 3 30 #[.int .i64 a1_0, .slice A1_1 l1_1.length c1_1, .slice A1_2 l1_2.length c1_2, .slice A1_3 l1_3.length c1_3] ?_; intro gb359 hg w15 hbox hb; have BK359 := zq (hbox); have GE359 := zq ((J101 : w.heap.size ≤ gb359)); replace HB := zq (below_step (zs1 GE358.out) hb); have NB358_359 := zq ((J44 : gb358 ≠ gb359)); have NB359_358 := zq ((J45 : gb359 ≠ gb358)); replace BK358 := zq (blk_below (g := gb358) (o := .cells #[.int .i64 a0_0, .slice A0_1 l0_1.length c0_1, .slice A0_2 l0_2.length c0_2, .slice A0_3 l0_3.length c0_3] 30 (0, 0)) (zk BK358.out) hb); clear hb hbox hg; have hnb16 := NB358_359.out; have hnc16 := NB359_358.out; obtain ⟨hcz17_0, hcz17_1, hcz17_2, hcz17_3, hfz17_0, hfz17_1, hfz17_2, hfz17_3⟩ := cz4 BK358.out; obtain ⟨hcz18_0, hcz18_1, hcz18_2, hcz18_3, hfz18_0, hfz18_1, hfz18_2, hfz18_3⟩ := cz4 BK359.out) | (go_at_call 63; (with_reducible refine (slices_Equal_int_int.calls k _ _ l0_1 _ _ l1_1 true _ ?side1 ?side2 ?side3 ?side4 A4.out).mono ?_); (case side1 => exact zc (Kd.C_below HR0_1.out HB.out)); (case side2 => exact HC0_1.out); (case side3 => exact zc (Kd.C_below HR1_1.out HB.out)); (case side4 => exact HC1_1.out); rintro e w' ⟨rfl, ⟨nd, rfl⟩⟩) | (go_at_call 63; (with_reducible refine (slices_Equal_int_int.calls k _ _ l0_2 _ _ l1_2 false _ ?side1 ?side2 ?side3 ?side4 A6.out).mono ?_); (case side1 => repeat (first | exact (Kd.C_below HR0_2.out (zs2 GE358.out GE359.out)) | (with_reducible refine Kd.C_alloc ?_ _) | (with_reducible refine Kd.C_drewN ?_ _) | (with_reducible refine Kd.C_drew ?_))); (case side2 => exact HC0_2.out); (case side3 => repeat (first | exact (Kd.C_below HR1_2.out (zs2 GE358.out GE359.out)) | (with_reducible refine Kd.C_alloc ?_ _) | (with_reducible refine Kd.C_drewN ?_ _) | (with_reducible refine Kd.C_drew ?_))); (case side4 => exact HC1_2.out); rintro e w' ⟨rfl, ⟨nd, rfl⟩⟩))
    go_ret
    exact ⟨J3, J46⟩
  subst c7
  rw [if_pos rfl] at H
  replace H := Option.bind_eq_some_iff.mp H
  obtain ⟨t362, A80, H⟩ := H
  have A8 := zq A80
  clear A80
  obtain rfl := Option.some.inj H
  go_enter Try.func62, Try.ntmps62
  go_wp2_with (first | ((with_reducible refine gate_dst (N := 2) rfl ?_); refine bxw 2 30 #[.int .i64 a0_0, .slice A0_1 l0_1.length c0_1, .slice A0_2 l0_2.length c0_2, .slice A0_3 l0_3.length c0_3] ?_; intro gb358 hg w9 hbox hb; have BK358 := zq (hbox); have GE358 := zq ((J16 : w.heap.size ≤ gb358)); replace HB := zq (below_step J0 hb); clear hb hbox hg) | ((with_reducible refine gate_dst (N := 3) rfl ?_); refine bxw 3 30 #[.int .i64 a1_0, .slice A1_1 l1_1.length c1_1, .slice A1_2 l1_2.length c1_2, .slice A1_3 l1_3.length c1_3] ?_; intro gb359 hg w10 hbox hb; have BK359 := zq (hbox); have GE359 := zq ((J101 : w.heap.size ≤ gb359)); replace HB := zq (below_step (zs1 GE358.out) hb); have NB358_359 := zq ((J44 : gb358 ≠ gb359)); have NB359_358 := zq ((J45 : gb359 ≠ gb358)); replace BK358 := zq (blk_below (g := gb358) (o := .cells #[.int .i64 a0_0, .slice A0_1 l0_1.length c0_1, .slice A0_2 l0_2.length c0_2, .slice A0_3 l0_3.length c0_3] 30 (0, 0)) (zk BK358.out) hb); clear hb hbox hg; have hnb11 := NB358_359.out; have hnc11 := NB359_358.out; obtain ⟨hcz12_0, hcz12_1, hcz12_2, hcz12_3, hfz12_0, hfz12_1, hfz12_2, hfz12_3⟩ := cz4 BK358.out; obtain ⟨hcz13_0, hcz13_1, hcz13_2, hcz13_3, hfz13_0, hfz13_1, hfz13_2, hfz13_3⟩ := cz4 BK359.out) | (go_at_call 63; (with_reducible refine (slices_Equal_int_int.calls k _ _ l0_1 _ _ l1_1 true _ ?side1 ?side2 ?side3 ?side4 A4.out).mono ?_); (case side1 => exact zc (Kd.C_below HR0_1.out HB.out)); (case side2 => exact HC0_1.out); (case side3 => exact zc (Kd.C_below HR1_1.out HB.out)); (case side4 => exact HC1_1.out); rintro e w' ⟨rfl, ⟨nd, rfl⟩⟩) | (go_at_call 63; (with_reducible refine (slices_Equal_int_int.calls k _ _ l0_2 _ _ l1_2 true _ ?side1 ?side2 ?side3 ?side4 A6.out).mono ?_); (case side1 => repeat (first | exact (Kd.C_below HR0_2.out (zs2 GE358.out GE359.out)) | (with_reducible refine Kd.C_alloc ?_ _) | (with_reducible refine Kd.C_drewN ?_ _) | (with_reducible refine Kd.C_drew ?_))); (case side2 => exact HC0_2.out); (case side3 => repeat (first | exact (Kd.C_below HR1_2.out (zs2 GE358.out GE359.out)) | (with_reducible refine Kd.C_alloc ?_ _) | (with_reducible refine Kd.C_drewN ?_ _) | (with_reducible refine Kd.C_drew ?_))); (case side4 => exact HC1_2.out); rintro e w' ⟨rfl, ⟨nd, rfl⟩⟩) | (go_at_call 64; (with_reducible refine (api_Dec_64.calls k _ _ l0_3 _ _ l1_3 t362 _ ?side1 ?side2 ?side3 ?side4 A8.out).mono ?_); (case side1 => repeat (first | exact (Kd.C_below HR0_3.out (zs2 GE358.out GE359.out)) | (with_reducible refine Kd.C_alloc ?_ _) | (with_reducible refine Kd.C_drewN ?_ _) | (with_reducible refine Kd.C_drew ?_))); (case side2 => exact HC0_3.out); (case side3 => repeat (first | exact (Kd.C_below HR1_3.out (zs2 GE358.out GE359.out)) | (with_reducible refine Kd.C_alloc ?_ _) | (with_reducible refine Kd.C_drewN ?_ _) | (with_reducible refine Kd.C_drew ?_))); (case side4 => exact HC1_3.out); rintro e w' ⟨rfl, ⟨nd, rfl⟩⟩))
  go_ret
  exact ⟨J3, J46⟩
def api_Node_61.l0 : Nat → List (S30) → List (S30) → Int → Int → Option (Bool)
  | 0, _, _, _, _ => none
  | k + 1, x1, x15, x16, x17 => if x17 < x16 then (if 0 ≤ x17 then (if x17 < (x15.length : Int) then (if x17 < (x1.length : Int) then ((array_Same_1.f k ((rd_T30 x15 x17).f0) ((rd_T30 x15 x17).f1) ((rd_T30 x15 x17).f2) ((rd_T30 x15 x17).f3) ((rd_T30 x1 x17).f0) ((rd_T30 x1 x17).f1) ((rd_T30 x1 x17).f2) ((rd_T30 x1 x17).f3)).bind fun t367 => (if t367 = true then (api_Node_61.l0 k x1 x15 x16 (wrap64 (x17 + 1))) else (some false))) else (none)) else (none)) else (none)) else (some true)
def api_Node_61.f (k : Nat) (l0 : List (S30)) (l1 : List (S30)) : Option (Bool) := if (l0.length : Int) = (l1.length : Int) then (api_Node_61.l0 k l1 l0 (l0.length : Int) 0) else (some false)
theorem api_Node_61.mono_l : ∀ k, (∀ y0 y1 y2 y3, LeO (api_Node_61.l0 k y0 y1 y2 y3) (api_Node_61.l0 (k + 1) y0 y1 y2 y3))
  | 0 => fun _ _ _ _ r h => by simp [api_Node_61.l0] at h
  | k + 1 => by
    have ih0 := api_Node_61.mono_l k
    · intro y0 y1 y2 y3
      unfold api_Node_61.l0
      have im0 := @array_Same_1.mono
      exact mz3
theorem api_Node_61.mono : ∀ a0 a1 k, LeO (api_Node_61.f k a0 a1) (api_Node_61.f (k + 1) a0 a1) := by
  intro a0 a1 k
  have ih0 := api_Node_61.mono_l k
  unfold api_Node_61.f
  have im0 := @array_Same_1.mono
  exact mz3
set_option maxHeartbeats 8000000 in
set_option maxRecDepth 100000 in
theorem api_Node_61.calls (k : Nat) (A0 : Option Addr) (c0 : Nat) (l0 : List (S30)) (A1 : Option Addr) (c1 : Nat) (l1 : List (S30)) (r : Bool) (w : World) (hr0 : Kd.C k30 w A0 l0.length l0) (hc0 : l0.length ≤ c0) (hr1 : Kd.C k30 w A1 l1.length l1) (hc1 : l1.length ≤ c1) (h : api_Node_61.f k l0 l1 = some r) :
    Calls Try.prog 61 #[.slice A0 l0.length c0, .slice A1 l1.length c1, .func (.func 62) #[] #[]] w fun e w' => e = .returned (.bool r) ∧ Below w.heap.size w w' := by
  have hu30 := Try.underlying30
  have HR0 := zq hr0
  have HC0 := zq hc0
  clear hr0 hc0
  have HR1 := zq hr1
  have HC1 := zq hc1
  clear hr1 hc1
  have HB := zq (Below.refl w.heap.size w)
  have H : (if (l0.length : Int) = (l1.length : Int) then (api_Node_61.l0 k l1 l0 (l0.length : Int) 0) else (some false)) = some r := h
  clear h
  by_cases c3 : (l0.length : Int) = (l1.length : Int)
  rotate_left
  · rw [if_neg c3] at H
    have c3b0 : ((l0.length : Int) == (l1.length : Int)) = false := beq_eq_false_iff_ne.mpr c3
    have c3b1 : ((l0.length : Int) != (l1.length : Int)) = true := bne_iff_ne.mpr c3
    have c3b2 : (l0.length == l1.length) = false := J49
    obtain rfl := Option.some.inj H
    go_enter Try.func61, Try.ntmps61
    go_wp2
    go_ret
    exact ⟨J3, J0⟩
  rw [if_pos c3] at H
  have c3b0 : ((l0.length : Int) == (l1.length : Int)) = true := beq_iff_eq.mpr c3
  have c3b1 : ((l0.length : Int) != (l1.length : Int)) = false := bne_eq_false_iff_eq.mpr c3
  have c3b2 : (l0.length == l1.length) = true := J49
  clear c3
  have H' := zq H
  clear H
  go_enter Try.func61, Try.ntmps61
  go_wp2
  go_loopg [17] k (fun kq v17 w' => ∃ (x17_1 : Int), v17 = .int .i64 x17_1 ∧ Aside0 (api_Node_61.l0 kq l1 l0 (l0.length : Int) x17_1 = some r) ∧ Aside0 (kq ≤ k) ∧ Aside0 (Below w.heap.size w w'))
  case atStart => exact ⟨(0), J6, H', ⟨Nat.le_refl _⟩, ⟨J0⟩⟩
  case round =>
    clear H'
    try clear c1
    try clear p2
    try clear c3
    try clear c3b0
    try clear c3b1
    try clear c3b2
    obtain ⟨x17_1, rfl, HA, HK1, HB⟩ := hrel
    cases gk with
    | zero => exact absurd HA.out (by simp [api_Node_61.l0])
    | succ k1 =>
      have H := HA.out
      clear HA
      simp only [api_Node_61.l0] at H
      by_cases c4 : x17_1 < (l0.length : Int)
      rotate_left
      · rw [if_neg c4] at H
        have c4b0 := decide_eq_false c4
        clear c4
        obtain rfl := Option.some.inj H
        go_wp2
        go_ret
        exact ⟨J3, J0⟩
      rw [if_pos c4] at H
      have c4b0 := decide_eq_true c4
      clear c4
      by_cases c5 : 0 ≤ x17_1
      rotate_left
      · rw [if_neg c5] at H
        exact absurd H J30
      rw [if_pos c5] at H
      have c5b0 := decide_eq_true c5
      clear c5
      by_cases c6 : x17_1 < (l0.length : Int)
      rotate_left
      · rw [if_neg c6] at H
        exact absurd H J30
      rw [if_pos c6] at H
      have c6b0 := decide_eq_true c6
      clear c6
      by_cases c7 : x17_1 < (l1.length : Int)
      rotate_left
      · rw [if_neg c7] at H
        exact absurd H J30
      rw [if_pos c7] at H
      have c7b0 := decide_eq_true c7
      clear c7
      replace H := Option.bind_eq_some_iff.mp H
      obtain ⟨t367, A80, H⟩ := H
      have A8 := zq A80
      clear A80
      by_cases c9 : t367 = true
      rotate_left
      · replace c9 := Bool.eq_false_iff.mpr c9
        subst c9
        rw [if_neg (show ¬ (false = true) by decide)] at H
        obtain rfl := Option.some.inj H
        have p363 : 0 ≤ (x17_1 : Int) := of_decide_eq_true J2
        have q363 : x17_1 < (l0.length : Int) := of_decide_eq_true J2
        obtain ⟨ad363, A363_1, c363_1, A363_2, c363_2, A363_3, c363_3, e363, hx363_0, hx363_1, hx363_2, hx363_3, hl363_1, hi363_1, hl363_2, hi363_2, hl363_3, hi363_3⟩ := at_T30 HR0.out x17_1 p363 q363
        cases e363
        replace hx363_0 := (HB.out.cell (World.block_lt_of_cell? w _ hx363_0)).trans hx363_0
        replace hx363_1 := (HB.out.cell (World.block_lt_of_cell? w _ hx363_1)).trans hx363_1
        replace hx363_2 := (HB.out.cell (World.block_lt_of_cell? w _ hx363_2)).trans hx363_2
        replace hx363_3 := (HB.out.cell (World.block_lt_of_cell? w _ hx363_3)).trans hx363_3
        have HR363_1 := zq hi363_1
        have HC363_1 := zq hl363_1
        clear hi363_1 hl363_1
        have HR363_2 := zq hi363_2
        have HC363_2 := zq hl363_2
        clear hi363_2 hl363_2
        have HR363_3 := zq hi363_3
        have HC363_3 := zq hl363_3
        clear hi363_3 hl363_3
        replace p363 := eq_true p363
        replace q363 := eq_true q363
        go_wp2_with (first | ((with_reducible refine gate_dst (N := 8) rfl ?_); refine bxw 8 30 #[.int .i64 0, .slice none 0 0, .slice none 0 0, .slice none 0 0] ?_; intro gb364 hg w17 hbox hb; have BK364 := zq (hbox); have GW364 := zq ((J16 : w.heap.size ≤ gb364)); have GE364 := zq ((J16 : w.heap.size ≤ gb364)); replace HB := zq (below_step J0 hb); clear hb hbox hg; obtain ⟨hcz18_0, hcz18_1, hcz18_2, hcz18_3, hfz18_0, hfz18_1, hfz18_2, hfz18_3⟩ := cz4 BK364.out; have p365 : 0 ≤ (x17_1 : Int) := of_decide_eq_true J2; have q365 : x17_1 < (l1.length : Int) := of_decide_eq_true J2; obtain ⟨ad365, A365_1, c365_1, A365_2, c365_2, A365_3, c365_3, e365, hx365_0, hx365_1, hx365_2, hx365_3, hl365_1, hi365_1, hl365_2, hi365_2, hl365_3, hi365_3⟩ := at_T30 HR1.out x17_1 p365 q365; cases e365; have hn365_0 : ad365.block ≠ gb364 := Nat.ne_of_lt (Nat.lt_of_lt_of_le J34 GW364.out); have hn365_1 : ad365.block ≠ gb364 := Nat.ne_of_lt (Nat.lt_of_lt_of_le J34 GW364.out); have hn365_2 : ad365.block ≠ gb364 := Nat.ne_of_lt (Nat.lt_of_lt_of_le J34 GW364.out); have hn365_3 : ad365.block ≠ gb364 := Nat.ne_of_lt (Nat.lt_of_lt_of_le J34 GW364.out); replace hx365_0 := (HB.out.cell (World.block_lt_of_cell? w _ hx365_0)).trans hx365_0; replace hx365_1 := (HB.out.cell (World.block_lt_of_cell? w _ hx365_1)).trans hx365_1; replace hx365_2 := (HB.out.cell (World.block_lt_of_cell? w _ hx365_2)).trans hx365_2; replace hx365_3 := (HB.out.cell (World.block_lt_of_cell? w _ hx365_3)).trans hx365_3; have HR365_1 := zq hi365_1; have HC365_1 := zq hl365_1; clear hi365_1 hl365_1; have HR365_2 := zq hi365_2; have HC365_2 := zq hl365_2; clear hi365_2 hl365_2; have HR365_3 := zq hi365_3; have HC365_3 := zq hl365_3; clear hi365_3 hl365_3; replace hx365_0 := (cell_far (p := ⟨gb364, 0, none⟩) (zb hn365_0) (.int .i64 ((rd_T30 l0 x17_1).f0))).trans hx365_0; replace hx365_1 := (cell_far (p := ⟨gb364, 0, none⟩) (zb hn365_0) (.int .i64 ((rd_T30 l0 x17_1).f0))).trans hx365_1; replace hx365_2 := (cell_far (p := ⟨gb364, 0, none⟩) (zb hn365_0) (.int .i64 ((rd_T30 l0 x17_1).f0))).trans hx365_2; replace hx365_3 := (cell_far (p := ⟨gb364, 0, none⟩) (zb hn365_0) (.int .i64 ((rd_T30 l0 x17_1).f0))).trans hx365_3; replace hx365_0 := (cell_far (p := ⟨gb364, 1, none⟩) (zb hn365_1) (.slice A363_1 ((rd_T30 l0 x17_1).f1).length c363_1)).trans hx365_0; replace hx365_1 := (cell_far (p := ⟨gb364, 1, none⟩) (zb hn365_1) (.slice A363_1 ((rd_T30 l0 x17_1).f1).length c363_1)).trans hx365_1; replace hx365_2 := (cell_far (p := ⟨gb364, 1, none⟩) (zb hn365_1) (.slice A363_1 ((rd_T30 l0 x17_1).f1).length c363_1)).trans hx365_2; replace hx365_3 := (cell_far (p := ⟨gb364, 1, none⟩) (zb hn365_1) (.slice A363_1 ((rd_T30 l0 x17_1).f1).length c363_1)).trans hx365_3; replace hx365_0 := (cell_far (p := ⟨gb364, 2, none⟩) (zb hn365_2) (.slice A363_2 ((rd_T30 l0 x17_1).f2).length c363_2)).trans hx365_0; replace hx365_1 := (cell_far (p := ⟨gb364, 2, none⟩) (zb hn365_2) (.slice A363_2 ((rd_T30 l0 x17_1).f2).length c363_2)).trans hx365_1; replace hx365_2 := (cell_far (p := ⟨gb364, 2, none⟩) (zb hn365_2) (.slice A363_2 ((rd_T30 l0 x17_1).f2).length c363_2)).trans hx365_2; replace hx365_3 := (cell_far (p := ⟨gb364, 2, none⟩) (zb hn365_2) (.slice A363_2 ((rd_T30 l0 x17_1).f2).length c363_2)).trans hx365_3; replace hx365_0 := (cell_far (p := ⟨gb364, 3, none⟩) (zb hn365_3) (.slice A363_3 ((rd_T30 l0 x17_1).f3).length c363_3)).trans hx365_0; replace hx365_1 := (cell_far (p := ⟨gb364, 3, none⟩) (zb hn365_3) (.slice A363_3 ((rd_T30 l0 x17_1).f3).length c363_3)).trans hx365_1; replace hx365_2 := (cell_far (p := ⟨gb364, 3, none⟩) (zb hn365_3) (.slice A363_3 ((rd_T30 l0 x17_1).f3).length c363_3)).trans hx365_2; replace hx365_3 := (cell_far (p := ⟨gb364, 3, none⟩) (zb hn365_3) (.slice A363_3 ((rd_T30 l0 x17_1).f3).length c363_3)).trans hx365_3; clear hn365_0; clear hn365_1; clear hn365_2; clear hn365_3; replace p365 := eq_true p365; replace q365 := eq_true q365) | ((with_reducible refine gate_dst (N := 9) rfl ?_); refine bxw 9 30 #[.int .i64 0, .slice none 0 0, .slice none 0 0, .slice none 0 0] ?_; intro gb366 hg w19 hbox hb; have BK366 := zq (hbox); have GE366 := zq ((by rw [hg]; exact (below_size (zs1 GE364.out)) : w.heap.size ≤ gb366)); replace HB := zq (below_step (zs1 GE364.out) hb); have NB364_366 := zq ((J73 : gb364 ≠ gb366)); have NB366_364 := zq ((J74 : gb366 ≠ gb364)); replace BK364 := zq (blk_below (g := gb364) (o := .cells #[.int .i64 ((rd_T30 l0 x17_1).f0), .slice A363_1 ((rd_T30 l0 x17_1).f1).length c363_1, .slice A363_2 ((rd_T30 l0 x17_1).f2).length c363_2, .slice A363_3 ((rd_T30 l0 x17_1).f3).length c363_3] 30 (0, 0)) J5 hb); clear hb hbox hg; have hnb20 := NB366_364.out; have hnc20 := NB364_366.out; obtain ⟨hcz21_0, hcz21_1, hcz21_2, hcz21_3, hfz21_0, hfz21_1, hfz21_2, hfz21_3⟩ := cz4 BK366.out; obtain ⟨hcz22_0, hcz22_1, hcz22_2, hcz22_3, hfz22_0, hfz22_1, hfz22_2, hfz22_3⟩ := cz4 BK364.out) | ((with_reducible refine gate_dst (N := 29) rfl ?_); refine goesLv_ (some 29) rfl rfl Try.func62 J4 rfl #[.agg #[.int .i64 ((rd_T30 l0 x17_1).f0), .slice A363_1 ((rd_T30 l0 x17_1).f1).length c363_1, .slice A363_2 ((rd_T30 l0 x17_1).f2).length c363_2, .slice A363_3 ((rd_T30 l0 x17_1).f3).length c363_3], .agg #[.int .i64 ((rd_T30 l1 x17_1).f0), .slice A365_1 ((rd_T30 l1 x17_1).f1).length c365_1, .slice A365_2 ((rd_T30 l1 x17_1).f2).length c365_2, .slice A365_3 ((rd_T30 l1 x17_1).f3).length c365_3]] (.tmp 26) rfl rfl J1 ?_; (with_reducible refine (array_Same_1.calls k1 ((rd_T30 l0 x17_1).f0) _ _ ((rd_T30 l0 x17_1).f1) _ _ ((rd_T30 l0 x17_1).f2) _ _ ((rd_T30 l0 x17_1).f3) ((rd_T30 l1 x17_1).f0) _ _ ((rd_T30 l1 x17_1).f1) _ _ ((rd_T30 l1 x17_1).f2) _ _ ((rd_T30 l1 x17_1).f3) false _ ?side1 ?side2 ?side3 ?side4 ?side5 ?side6 ?side7 ?side8 ?side9 ?side10 ?side11 ?side12 A8.out).mono ?_); (case side1 => exact Kd.C_below HR363_1.out (zs2 GE364.out GE366.out)); (case side2 => exact HC363_1.out); (case side3 => exact Kd.C_below HR363_2.out (zs2 GE364.out GE366.out)); (case side4 => exact HC363_2.out); (case side5 => exact Kd.C_below HR363_3.out (zs2 GE364.out GE366.out)); (case side6 => exact HC363_3.out); (case side7 => exact Kd.C_below HR365_1.out (zs2 GE364.out GE366.out)); (case side8 => exact HC365_1.out); (case side9 => exact Kd.C_below HR365_2.out (zs2 GE364.out GE366.out)); (case side10 => exact HC365_2.out); (case side11 => exact Kd.C_below HR365_3.out (zs2 GE364.out GE366.out)); (case side12 => exact HC365_3.out); rintro e w23 ⟨rfl, hb⟩; refine ⟨_, rfl, ?_⟩; replace HB := zq (below_step (zs2 GE364.out GE366.out) hb); (try clear hb)))
        go_ret
        exact ⟨J3, J85⟩
      subst c9
      rw [if_pos rfl] at H
      have H' := zq H
      clear H
      have p363 : 0 ≤ (x17_1 : Int) := of_decide_eq_true J2
      have q363 : x17_1 < (l0.length : Int) := of_decide_eq_true J2
      obtain ⟨ad363, A363_1, c363_1, A363_2, c363_2, A363_3, c363_3, e363, hx363_0, hx363_1, hx363_2, hx363_3, hl363_1, hi363_1, hl363_2, hi363_2, hl363_3, hi363_3⟩ := at_T30 HR0.out x17_1 p363 q363
      cases e363
      replace hx363_0 := (HB.out.cell (World.block_lt_of_cell? w _ hx363_0)).trans hx363_0
      replace hx363_1 := (HB.out.cell (World.block_lt_of_cell? w _ hx363_1)).trans hx363_1
      replace hx363_2 := (HB.out.cell (World.block_lt_of_cell? w _ hx363_2)).trans hx363_2
      replace hx363_3 := (HB.out.cell (World.block_lt_of_cell? w _ hx363_3)).trans hx363_3
      have HR363_1 := zq hi363_1
      have HC363_1 := zq hl363_1
      clear hi363_1 hl363_1
      have HR363_2 := zq hi363_2
      have HC363_2 := zq hl363_2
      clear hi363_2 hl363_2
      have HR363_3 := zq hi363_3
      have HC363_3 := zq hl363_3
      clear hi363_3 hl363_3
      replace p363 := eq_true p363
      replace q363 := eq_true q363
      go_wp2_with (first | ((with_reducible refine gate_dst (N := 8) rfl ?_); refine bxw 8 30 #[.int .i64 0, .slice none 0 0, .slice none 0 0, .slice none 0 0] ?_; intro gb364 hg w10 hbox hb; have BK364 := zq (hbox); have GW364 := zq ((J16 : w.heap.size ≤ gb364)); have GE364 := zq ((J16 : w.heap.size ≤ gb364)); replace HB := zq (below_step J0 hb); clear hb hbox hg; obtain ⟨hcz11_0, hcz11_1, hcz11_2, hcz11_3, hfz11_0, hfz11_1, hfz11_2, hfz11_3⟩ := cz4 BK364.out; have p365 : 0 ≤ (x17_1 : Int) := of_decide_eq_true J2; have q365 : x17_1 < (l1.length : Int) := of_decide_eq_true J2; obtain ⟨ad365, A365_1, c365_1, A365_2, c365_2, A365_3, c365_3, e365, hx365_0, hx365_1, hx365_2, hx365_3, hl365_1, hi365_1, hl365_2, hi365_2, hl365_3, hi365_3⟩ := at_T30 HR1.out x17_1 p365 q365; cases e365; have hn365_0 : ad365.block ≠ gb364 := Nat.ne_of_lt (Nat.lt_of_lt_of_le J34 GW364.out); have hn365_1 : ad365.block ≠ gb364 := Nat.ne_of_lt (Nat.lt_of_lt_of_le J34 GW364.out); have hn365_2 : ad365.block ≠ gb364 := Nat.ne_of_lt (Nat.lt_of_lt_of_le J34 GW364.out); have hn365_3 : ad365.block ≠ gb364 := Nat.ne_of_lt (Nat.lt_of_lt_of_le J34 GW364.out); replace hx365_0 := (HB.out.cell (World.block_lt_of_cell? w _ hx365_0)).trans hx365_0; replace hx365_1 := (HB.out.cell (World.block_lt_of_cell? w _ hx365_1)).trans hx365_1; replace hx365_2 := (HB.out.cell (World.block_lt_of_cell? w _ hx365_2)).trans hx365_2; replace hx365_3 := (HB.out.cell (World.block_lt_of_cell? w _ hx365_3)).trans hx365_3; have HR365_1 := zq hi365_1; have HC365_1 := zq hl365_1; clear hi365_1 hl365_1; have HR365_2 := zq hi365_2; have HC365_2 := zq hl365_2; clear hi365_2 hl365_2; have HR365_3 := zq hi365_3; have HC365_3 := zq hl365_3; clear hi365_3 hl365_3; replace hx365_0 := (cell_far (p := ⟨gb364, 0, none⟩) (zb hn365_0) (.int .i64 ((rd_T30 l0 x17_1).f0))).trans hx365_0; replace hx365_1 := (cell_far (p := ⟨gb364, 0, none⟩) (zb hn365_0) (.int .i64 ((rd_T30 l0 x17_1).f0))).trans hx365_1; replace hx365_2 := (cell_far (p := ⟨gb364, 0, none⟩) (zb hn365_0) (.int .i64 ((rd_T30 l0 x17_1).f0))).trans hx365_2; replace hx365_3 := (cell_far (p := ⟨gb364, 0, none⟩) (zb hn365_0) (.int .i64 ((rd_T30 l0 x17_1).f0))).trans hx365_3; replace hx365_0 := (cell_far (p := ⟨gb364, 1, none⟩) (zb hn365_1) (.slice A363_1 ((rd_T30 l0 x17_1).f1).length c363_1)).trans hx365_0; replace hx365_1 := (cell_far (p := ⟨gb364, 1, none⟩) (zb hn365_1) (.slice A363_1 ((rd_T30 l0 x17_1).f1).length c363_1)).trans hx365_1; replace hx365_2 := (cell_far (p := ⟨gb364, 1, none⟩) (zb hn365_1) (.slice A363_1 ((rd_T30 l0 x17_1).f1).length c363_1)).trans hx365_2; replace hx365_3 := (cell_far (p := ⟨gb364, 1, none⟩) (zb hn365_1) (.slice A363_1 ((rd_T30 l0 x17_1).f1).length c363_1)).trans hx365_3; replace hx365_0 := (cell_far (p := ⟨gb364, 2, none⟩) (zb hn365_2) (.slice A363_2 ((rd_T30 l0 x17_1).f2).length c363_2)).trans hx365_0; replace hx365_1 := (cell_far (p := ⟨gb364, 2, none⟩) (zb hn365_2) (.slice A363_2 ((rd_T30 l0 x17_1).f2).length c363_2)).trans hx365_1; replace hx365_2 := (cell_far (p := ⟨gb364, 2, none⟩) (zb hn365_2) (.slice A363_2 ((rd_T30 l0 x17_1).f2).length c363_2)).trans hx365_2; replace hx365_3 := (cell_far (p := ⟨gb364, 2, none⟩) (zb hn365_2) (.slice A363_2 ((rd_T30 l0 x17_1).f2).length c363_2)).trans hx365_3; replace hx365_0 := (cell_far (p := ⟨gb364, 3, none⟩) (zb hn365_3) (.slice A363_3 ((rd_T30 l0 x17_1).f3).length c363_3)).trans hx365_0; replace hx365_1 := (cell_far (p := ⟨gb364, 3, none⟩) (zb hn365_3) (.slice A363_3 ((rd_T30 l0 x17_1).f3).length c363_3)).trans hx365_1; replace hx365_2 := (cell_far (p := ⟨gb364, 3, none⟩) (zb hn365_3) (.slice A363_3 ((rd_T30 l0 x17_1).f3).length c363_3)).trans hx365_2; replace hx365_3 := (cell_far (p := ⟨gb364, 3, none⟩) (zb hn365_3) (.slice A363_3 ((rd_T30 l0 x17_1).f3).length c363_3)).trans hx365_3; clear hn365_0; clear hn365_1; clear hn365_2; clear hn365_3; replace p365 := eq_true p365; replace q365 := eq_true q365) | ((with_reducible refine gate_dst (N := 9) rfl ?_); refine bxw 9 30 #[.int .i64 0, .slice none 0 0, .slice none 0 0, .slice none 0 0] ?_; intro gb366 hg w12 hbox hb; have BK366 := zq (hbox); have GE366 := zq ((by rw [hg]; exact (below_size (zs1 GE364.out)) : w.heap.size ≤ gb366)); replace HB := zq (below_step (zs1 GE364.out) hb); have NB364_366 := zq ((J73 : gb364 ≠ gb366)); have NB366_364 := zq ((J74 : gb366 ≠ gb364)); replace BK364 := zq (blk_below (g := gb364) (o := .cells #[.int .i64 ((rd_T30 l0 x17_1).f0), .slice A363_1 ((rd_T30 l0 x17_1).f1).length c363_1, .slice A363_2 ((rd_T30 l0 x17_1).f2).length c363_2, .slice A363_3 ((rd_T30 l0 x17_1).f3).length c363_3] 30 (0, 0)) J5 hb); clear hb hbox hg; have hnb13 := NB366_364.out; have hnc13 := NB364_366.out; obtain ⟨hcz14_0, hcz14_1, hcz14_2, hcz14_3, hfz14_0, hfz14_1, hfz14_2, hfz14_3⟩ := cz4 BK366.out; obtain ⟨hcz15_0, hcz15_1, hcz15_2, hcz15_3, hfz15_0, hfz15_1, hfz15_2, hfz15_3⟩ := cz4 BK364.out) | ((with_reducible refine gate_dst (N := 29) rfl ?_); refine goesLv_ (some 29) rfl rfl Try.func62 J4 rfl #[.agg #[.int .i64 ((rd_T30 l0 x17_1).f0), .slice A363_1 ((rd_T30 l0 x17_1).f1).length c363_1, .slice A363_2 ((rd_T30 l0 x17_1).f2).length c363_2, .slice A363_3 ((rd_T30 l0 x17_1).f3).length c363_3], .agg #[.int .i64 ((rd_T30 l1 x17_1).f0), .slice A365_1 ((rd_T30 l1 x17_1).f1).length c365_1, .slice A365_2 ((rd_T30 l1 x17_1).f2).length c365_2, .slice A365_3 ((rd_T30 l1 x17_1).f3).length c365_3]] (.tmp 26) rfl rfl J1 ?_; (with_reducible refine (array_Same_1.calls k1 ((rd_T30 l0 x17_1).f0) _ _ ((rd_T30 l0 x17_1).f1) _ _ ((rd_T30 l0 x17_1).f2) _ _ ((rd_T30 l0 x17_1).f3) ((rd_T30 l1 x17_1).f0) _ _ ((rd_T30 l1 x17_1).f1) _ _ ((rd_T30 l1 x17_1).f2) _ _ ((rd_T30 l1 x17_1).f3) true _ ?side1 ?side2 ?side3 ?side4 ?side5 ?side6 ?side7 ?side8 ?side9 ?side10 ?side11 ?side12 A8.out).mono ?_); (case side1 => exact Kd.C_below HR363_1.out (zs2 GE364.out GE366.out)); (case side2 => exact HC363_1.out); (case side3 => exact Kd.C_below HR363_2.out (zs2 GE364.out GE366.out)); (case side4 => exact HC363_2.out); (case side5 => exact Kd.C_below HR363_3.out (zs2 GE364.out GE366.out)); (case side6 => exact HC363_3.out); (case side7 => exact Kd.C_below HR365_1.out (zs2 GE364.out GE366.out)); (case side8 => exact HC365_1.out); (case side9 => exact Kd.C_below HR365_2.out (zs2 GE364.out GE366.out)); (case side10 => exact HC365_2.out); (case side11 => exact Kd.C_below HR365_3.out (zs2 GE364.out GE366.out)); (case side12 => exact HC365_3.out); rintro e w16 ⟨rfl, hb⟩; refine ⟨_, rfl, ?_⟩; replace BK364 := zq (blk_below (g := gb364) (o := .cells #[.int .i64 ((rd_T30 l0 x17_1).f0), .slice A363_1 ((rd_T30 l0 x17_1).f1).length c363_1, .slice A363_2 ((rd_T30 l0 x17_1).f2).length c363_2, .slice A363_3 ((rd_T30 l0 x17_1).f3).length c363_3] 30 (0, 0)) (by (with_reducible repeat (first | refine blk_drewN ?_ _ | refine blk_drew ?_ | refine blk_alloc ?_ _)); refine blk_far ?_ NB364_366.out _; (with_reducible repeat (first | refine blk_drewN ?_ _ | refine blk_drew ?_ | refine blk_alloc ?_ _)); refine blk_far ?_ NB364_366.out _; (with_reducible repeat (first | refine blk_drewN ?_ _ | refine blk_drew ?_ | refine blk_alloc ?_ _)); refine blk_far ?_ NB364_366.out _; (with_reducible repeat (first | refine blk_drewN ?_ _ | refine blk_drew ?_ | refine blk_alloc ?_ _)); refine blk_far ?_ NB364_366.out _; (with_reducible repeat (first | refine blk_drewN ?_ _ | refine blk_drew ?_ | refine blk_alloc ?_ _)); exact BK364.out) hb); replace BK366 := zq (blk_below (g := gb366) (o := .cells #[.int .i64 ((rd_T30 l1 x17_1).f0), .slice A365_1 ((rd_T30 l1 x17_1).f1).length c365_1, .slice A365_2 ((rd_T30 l1 x17_1).f2).length c365_2, .slice A365_3 ((rd_T30 l1 x17_1).f3).length c365_3] 30 (0, 0)) (by (with_reducible repeat (first | refine blk_drewN ?_ _ | refine blk_drew ?_ | refine blk_alloc ?_ _)); refine blk_put (cs := #[.int .i64 ((rd_T30 l1 x17_1).f0), .slice A365_1 ((rd_T30 l1 x17_1).f1).length c365_1, .slice A365_2 ((rd_T30 l1 x17_1).f2).length c365_2, .slice none 0 0]) ?_ 3 _ rfl; (with_reducible repeat (first | refine blk_drewN ?_ _ | refine blk_drew ?_ | refine blk_alloc ?_ _)); refine blk_put (cs := #[.int .i64 ((rd_T30 l1 x17_1).f0), .slice A365_1 ((rd_T30 l1 x17_1).f1).length c365_1, .slice none 0 0, .slice none 0 0]) ?_ 2 _ rfl; (with_reducible repeat (first | refine blk_drewN ?_ _ | refine blk_drew ?_ | refine blk_alloc ?_ _)); refine blk_put (cs := #[.int .i64 ((rd_T30 l1 x17_1).f0), .slice none 0 0, .slice none 0 0, .slice none 0 0]) ?_ 1 _ rfl; (with_reducible repeat (first | refine blk_drewN ?_ _ | refine blk_drew ?_ | refine blk_alloc ?_ _)); refine blk_put (cs := #[.int .i64 0, .slice none 0 0, .slice none 0 0, .slice none 0 0]) ?_ 0 _ rfl; (with_reducible repeat (first | refine blk_drewN ?_ _ | refine blk_drew ?_ | refine blk_alloc ?_ _)); exact BK366.out) hb); replace HB := zq (below_step (zs2 GE364.out GE366.out) hb); (try clear hb)))
      go_roundg k1
      case measure => have := HK1.out; omega
      case rel => exact ⟨(wrap64 (x17_1 + 1)), J6, H', ⟨J66⟩, ⟨J85⟩⟩
def array_Same.f (k : Nat) (l0 : List (S30)) (l1 : List (S30)) : Option (Bool) := (api_Node_61.f k l0 l1).bind fun t368 => (some t368)
theorem array_Same.mono : ∀ a0 a1 k, LeO (array_Same.f k a0 a1) (array_Same.f (k + 1) a0 a1) := by
  intro a0 a1 k
  unfold array_Same.f
  have im0 := @api_Node_61.mono
  exact mz3
set_option maxHeartbeats 8000000 in
set_option maxRecDepth 100000 in
theorem array_Same.calls (k : Nat) (A0 : Option Addr) (c0 : Nat) (l0 : List (S30)) (A1 : Option Addr) (c1 : Nat) (l1 : List (S30)) (r : Bool) (w : World) (hr0 : Kd.C k30 w A0 l0.length l0) (hc0 : l0.length ≤ c0) (hr1 : Kd.C k30 w A1 l1.length l1) (hc1 : l1.length ≤ c1) (h : array_Same.f k l0 l1 = some r) :
    Calls Try.prog 42 #[.slice A0 l0.length c0, .slice A1 l1.length c1] w fun e w' => e = .returned (.bool r) ∧ Below w.heap.size w w' := by
  have HR0 := zq hr0
  have HC0 := zq hc0
  clear hr0 hc0
  have HR1 := zq hr1
  have HC1 := zq hc1
  clear hr1 hc1
  have HB := zq (Below.refl w.heap.size w)
  have H : ((api_Node_61.f k l0 l1).bind fun t368 => (some t368)) = some r := h
  clear h
  replace H := Option.bind_eq_some_iff.mp H
  obtain ⟨t368, A30, H⟩ := H
  have A3 := zq A30
  clear A30
  obtain rfl := Option.some.inj H
  go_enter Try.func42, Try.ntmps42
  go_wp2_with (first | ((with_reducible refine gate_callee (f := 61) rfl ?_); refine goesL_ (some 7) rfl rfl Try.func61 J4 rfl #[.slice A0 l0.length c0, .slice A1 l1.length c1, .func (.func 62) #[] #[]] rfl J1 ?_; (with_reducible refine (api_Node_61.calls k _ _ l0 _ _ l1 t368 _ ?side1 ?side2 ?side3 ?side4 A3.out).mono ?_); (case side1 => exact zc HR0.out); (case side2 => exact HC0.out); (case side3 => exact zc HR1.out); (case side4 => exact HC1.out); rintro e w4 ⟨rfl, hb⟩; refine ⟨_, rfl, ?_⟩; replace HB := zq (below_step J0 hb); (try clear hb)))
  go_ret
  exact ⟨J3, J0⟩
def tight_Right.f (k : Nat) (l0 : List (S30)) : Option (Bool) := (tight_Make.f k l0).bind fun bt369 => (if bt369.2 = true then ((array_Same.f k l0 bt369.1).bind fun t373 => (some t373)) else (some false))
theorem tight_Right.mono : ∀ a0 k, LeO (tight_Right.f k a0) (tight_Right.f (k + 1) a0) := by
  intro a0 k
  unfold tight_Right.f
  have im0 := @array_Same.mono
  have im1 := @tight_Make.mono
  exact mz3
set_option maxHeartbeats 8000000 in
set_option maxRecDepth 100000 in
theorem tight_Right.calls (k : Nat) (A0 : Option Addr) (c0 : Nat) (l0 : List (S30)) (r : Bool) (w : World) (hr0 : Kd.C k30 w A0 l0.length l0) (hc0 : l0.length ≤ c0) (h : tight_Right.f k l0 = some r) :
    Calls Try.prog 18 #[.slice A0 l0.length c0] w fun e w' => e = .returned (.bool r) ∧ Below w.heap.size w w' := by
  have HR0 := zq hr0
  have HC0 := zq hc0
  clear hr0 hc0
  have HB := zq (Below.refl w.heap.size w)
  have H : ((tight_Make.f k l0).bind fun bt369 => (if bt369.2 = true then ((array_Same.f k l0 bt369.1).bind fun t373 => (some t373)) else (some false))) = some r := h
  clear h
  replace H := Option.bind_eq_some_iff.mp H
  obtain ⟨⟨t369, t372⟩, A20, H⟩ := H
  dsimp only at H
  have A2 := zq A20
  clear A20
  by_cases c3 : t372 = true
  rotate_left
  · replace c3 := Bool.eq_false_iff.mpr c3
    subst c3
    rw [if_neg (show ¬ (false = true) by decide)] at H
    obtain rfl := Option.some.inj H
    go_enter Try.func18, Try.ntmps18
    go_wp2_with (first | ((first | ((with_reducible refine gate_callee (f := 11) rfl ?_); refine goesL_ (some 7) rfl rfl Try.func11 J4 rfl #[.slice A0 l0.length c0] rfl J1 ?_) | go_at_call 11); (with_reducible refine (tight_Make.calls k (fun k_ => k_ < w.heap.size) _ _ l0 t369 false _ ?side1 A2.out).mono ?_); (case side1 => exact Kd.V_mk HC0.out (Kd.F_below (Kd.C_F k30_heap HR0.out) J0)); rintro e w8 ⟨v370, rfl, ho0, hb⟩; (try refine ⟨_, rfl, ?_⟩); replace HB := zq (below_step J0 hb); (try clear hb); (try clear ho0)))
    go_ret
    exact ⟨J3, J0⟩
  subst c3
  rw [if_pos rfl] at H
  replace H := Option.bind_eq_some_iff.mp H
  obtain ⟨t373, A40, H⟩ := H
  have A4 := zq A40
  clear A40
  obtain rfl := Option.some.inj H
  go_enter Try.func18, Try.ntmps18
  go_wp2_with (first | ((first | ((with_reducible refine gate_callee (f := 11) rfl ?_); refine goesL_ (some 7) rfl rfl Try.func11 J4 rfl #[.slice A0 l0.length c0] rfl J1 ?_) | go_at_call 11); (with_reducible refine (tight_Make.calls k (fun k_ => k_ < w.heap.size) _ _ l0 t369 true _ ?side1 A2.out).mono ?_); (case side1 => exact Kd.V_mk HC0.out (Kd.F_below (Kd.C_F k30_heap HR0.out) J0)); rintro e w5 ⟨v370, rfl, ho0, hb⟩; (try refine ⟨_, rfl, ?_⟩); have HO371 := zq (Kd.N_lower (Kd.N_mono (ok' := fun k_ => True) ho0 (fun k_ hk_ => trivial)) (below_size J0)); replace HB := zq (below_step J0 hb); (try clear hb); (try clear ho0); obtain ⟨Ao6, co6, eo6⟩ := Kd.N_slice HO371.out; subst eo6) | (go_at_call 42; (with_reducible refine (array_Same.calls k _ _ l0 _ _ t369 t373 _ ?side1 ?side2 ?side3 ?side4 A4.out).mono ?_); (case side1 => exact zc (Kd.C_below HR0.out HB.out)); (case side2 => exact HC0.out); (case side3 => exact zc ((Kd.N_reads' HO371.out).2.2)); (case side4 => exact (Kd.N_reads' HO371.out).2.1); rintro e w7 ⟨rfl, hb⟩; replace HB := zq (below_step J0 hb); (try clear hb)))
  go_ret
  exact ⟨J3, J0⟩
def decklelaw11_small_1.f (a0 : Int) : Option (Int × List Int × List Int × (List (S38))) := some (2, ([] : List Int), (([a0] : List Int)), ([] : List (S38)))
set_option maxHeartbeats 8000000 in
set_option maxRecDepth 100000 in
theorem decklelaw11_small_1.calls (a0 : Int) (r1 : Int) (r2 : List Int) (r3 : List Int) (r4 : List (S38)) (w : World) (h : decklelaw11_small_1.f a0 = some (r1, r2, r3, r4)) :
    Calls Try.prog 26 #[.int .i64 a0] w fun e w' => ∃ v1_ v2_ v3_ : Value, e = .returned (.agg #[.int .i64 r1, v1_, v2_, v3_]) ∧ Kd.R (Kd.int .i64) 3 w' w.heap.size (fun k_ => some k_ ≠ (v2_ : Value).ownBlock) v1_ r2 ∧ Kd.R (Kd.int .i64) 3 w' w.heap.size (fun k_ => some k_ ≠ (v1_ : Value).ownBlock) v2_ r3 ∧ Kd.R k38 38 w' w.heap.size (fun _ => True) v3_ r4 ∧ Below w.heap.size w w' := by
  have hu30 := Try.underlying30
  have HB := zq (Below.refl w.heap.size w)
  have H : (some (2, ([] : List Int), (([a0] : List Int)), ([] : List (S38)))) = some (r1, r2, r3, r4) := h
  clear h
  obtain ⟨y375, hy375⟩ : ∃ y_ : List Int, y_ = (([a0] : List Int)) := ⟨_, rfl⟩
  rw (occs := .pos [1]) [← hy375] at H
  have Ny375 := zq hy375
  clear hy375
  simp only [Option.some.injEq, Prod.mk.injEq] at H
  obtain ⟨rfl, rfl, rfl, rfl⟩ := H
  go_enter Try.func26, Try.ntmps26
  go_wp2_with (first | ((with_reducible refine gate_dst (N := 2) rfl ?_); refine bxw 2 30 #[.int .i64 0, .slice none 0 0, .slice none 0 0, .slice none 0 0] ?_; intro gb374 hg w2 hbox hb; have BK374 := zq (hbox); have GE374 := zq ((J16 : w.heap.size ≤ gb374)); replace HB := zq (below_step J0 hb); clear hb hbox hg) | ((with_reducible refine gate_dst (N := 4) rfl ?_); refine lwR (Kd.int .i64) 3 4 (xs := ([a0] : List Int)) [.int .i64 a0] Ny375 (Reps.one (show Kd.M (Kd.int .i64) _ _ _ a0 [.int .i64 a0] from rfl) (Reps.none _ _)) ?_; intro v376 w3 ho4 hb; have HO377 := zq (Kd.R_lower ho4 (below_size (zs1 GE374.out))); replace BK374 := zq (blk_below (zk BK374.out) hb); replace HB := zq (below_step (zs1 GE374.out) hb); clear hb ho4; obtain ⟨Ao5, co5, eo5⟩ := Kd.R_slice HO377.out; subst eo5; obtain ⟨hcz6_0, hcz6_1, hcz6_2, hcz6_3, hfz6_0, hfz6_1, hfz6_2, hfz6_3⟩ := cz4 BK374.out))
  refine bodyPost_ret (results_cell_row rfl _ _ gb374 30 #[.int .i64 2, .slice none 0 0, .slice Ao5 y375.length co5, .slice none 0 0] (0, 0) _ rfl (by (with_reducible repeat (first | refine blk_drewN ?_ _ | refine blk_drew ?_ | refine blk_alloc ?_ _)); refine blk_put (cs := #[.int .i64 2, .slice none 0 0, .slice Ao5 y375.length co5, .slice none 0 0]) ?_ 3 _ rfl; (with_reducible repeat (first | refine blk_drewN ?_ _ | refine blk_drew ?_ | refine blk_alloc ?_ _)); refine blk_put (cs := #[.int .i64 2, .slice none 0 0, .slice none 0 0, .slice none 0 0]) ?_ 2 _ rfl; (with_reducible repeat (first | refine blk_drewN ?_ _ | refine blk_drew ?_ | refine blk_alloc ?_ _)); refine blk_put (cs := #[.int .i64 2, .slice none 0 0, .slice none 0 0, .slice none 0 0]) ?_ 1 _ rfl; (with_reducible repeat (first | refine blk_drewN ?_ _ | refine blk_drew ?_ | refine blk_alloc ?_ _)); refine blk_put (cs := #[.int .i64 0, .slice none 0 0, .slice none 0 0, .slice none 0 0]) ?_ 0 _ rfl; (with_reducible repeat (first | refine blk_drewN ?_ _ | refine blk_drew ?_ | refine blk_alloc ?_ _)); exact BK374.out) Try.underlying30 rfl J4) rfl ?_
  exact ⟨_, _, _, J3, J8, by (with_reducible repeat (first | apply Kd.R_alloc | apply Kd.R_drewN | apply Kd.R_drew)); exact Kd.R_mono (Kd.R_far (p := ⟨gb374, 3, none⟩) (Kd.R_far (p := ⟨gb374, 2, none⟩) (Kd.R_far (p := ⟨gb374, 1, none⟩) (Kd.R_far (p := ⟨gb374, 0, none⟩) (Kd.R_types HO377.out BK374.out J17) (fun _ hk => hk.2) (.int .i64 2)) (fun _ hk => hk.2) (.slice none 0 0)) (fun _ hk => hk.2) (.slice Ao5 y375.length co5)) (fun _ hk => hk.2) (.slice none 0 0)) (fun _ hk => (by simp [Value.ownBlock])), J8, by repeat (first | (with_reducible first | exact HB.out | apply below_alloc | apply pw_below_drewN | apply below_drew1 | refine below_set ?_ GE374.out) | exact HB.out)⟩
end Go.Proofs.Ytecdklheppcihaa.HTightNumbers
