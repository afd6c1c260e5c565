/- What the Go functions of this claim answer, told as functions of numbers and lists, and that other memory stays as it was: words and walks, shortened by a program. -/
import Derived.Test.YtecdklheppcihaaSTightShapex0
import Derived.Test.YtecdklheppcihaaSTightShapex2
import Derived.Test.YtecdklheppcihaaSTightShapex6
import Derived.Test.YtecdklheppcihaaSTightShapex7
namespace Go.Proofs.Ytecdklheppcihaa.HTightNumbers
open Go.RowKit Go.Proofs.YtecdklheppcihaaW.PrintWords Go.Proofs.YtecdklheppcihaaW.PrintLast Go.Proofs.YtecdklheppcihaaW.PrintMore
attribute [local go_sem] max2_int min2_int max_two min_two max_three min_three max_four min_four
set_option linter.unusedVariables false
set_option linter.unusedSimpArgs false
mutual
def api_Node_46.l0 : Nat → List (List (S30)) → Int → List (List (S30)) → Int → Int → Option ((List (S30)))
  | 0, _, _, _, _, _ => none
  | k + 1, x0, x3, x9, x10, x11 => if x11 < x10 then (if 0 ≤ x11 then (if x11 < (x9.length : Int) then (if (wrap64 (x3 + ((rd_L5 x9 x11).length : Int))) < 0 then (none) else (api_Node_46.l0 k x0 (wrap64 (x3 + ((rd_L5 x9 x11).length : Int))) x9 x10 (wrap64 (x11 + 1)))) else (none)) else (none)) else ((api_Node_66.f x3).bind fun t199 => (api_Node_46.l1 k t199 x0 (x0.length : Int) 0))
def api_Node_46.l1 : Nat → List (S30) → List (List (S30)) → Int → Int → Option ((List (S30)))
  | 0, _, _, _, _ => none
  | k + 1, x6, x25, x26, x27 => if x27 < x26 then (if 0 ≤ x27 then (if x27 < (x25.length : Int) then (if x6.length + (rd_L5 x25 x27).length < 1759218604441 then (api_Node_46.l1 k (x6 ++ (rd_L5 x25 x27)) x25 x26 (wrap64 (x27 + 1))) else (none)) else (none)) else (none)) else (some x6)
end
def api_Node_46.f (k : Nat) (l0 : List (List (S30))) : Option ((List (S30))) := api_Node_46.l0 k l0 0 l0 (l0.length : Int) 0
theorem api_Node_46.mono_l : ∀ k, (∀ y0 y1 y2 y3 y4, LeO (api_Node_46.l0 k y0 y1 y2 y3 y4) (api_Node_46.l0 (k + 1) y0 y1 y2 y3 y4)) ∧ (∀ y0 y1 y2 y3, LeO (api_Node_46.l1 k y0 y1 y2 y3) (api_Node_46.l1 (k + 1) y0 y1 y2 y3))
  | 0 => ⟨fun _ _ _ _ _ r h => by simp [api_Node_46.l0] at h, fun _ _ _ _ r h => by simp [api_Node_46.l1] at h⟩
  | k + 1 => by
    obtain ⟨ih0, ih1⟩ := api_Node_46.mono_l k
    refine ⟨?_, ?_⟩
    · intro y0 y1 y2 y3 y4
      unfold api_Node_46.l0
      exact mz0
    · intro y0 y1 y2 y3
      unfold api_Node_46.l1
      exact mz0
theorem api_Node_46.mono : ∀ a0 k, LeO (api_Node_46.f k a0) (api_Node_46.f (k + 1) a0) := by
  intro a0 k
  obtain ⟨ih0, ih1⟩ := api_Node_46.mono_l k
  unfold api_Node_46.f
  exact mz0
set_option maxHeartbeats 8000000 in
set_option maxRecDepth 100000 in
theorem api_Node_46.calls (k : Nat) (P0_ : Nat → Prop) (A0 : Option Addr) (c0 : Nat) (l0 : List (List (S30))) (r : List (S30)) (w : World) (hs0 : Kd.V (Kd.slice 30 k30) 22 w w.heap.size (fun k_ => P0_ k_) (.slice A0 l0.length c0) l0) (h : api_Node_46.f k l0 = some r) :
    Calls Try.prog 46 #[.slice A0 l0.length c0] w fun e w' => ∃ v0_ : Value, e = .returned (v0_) ∧ Kd.N k30 30 w' w.heap.size (fun k_ => (P0_ k_ ∨ w.heap.size ≤ k_)) v0_ r ∧ Below w.heap.size w w' := by
  have HO0 := zq (show Kd.V (Kd.slice 30 k30) 22 w w.heap.size (fun k_ => (P0_ k_ ∨ w.heap.size ≤ k_)) (.slice A0 l0.length c0) l0 from Kd.V_mono hs0 (fun k_ hk => .inl hk))
  have HB := zq (Below.refl w.heap.size w)
  have H : (api_Node_46.l0 k l0 0 l0 (l0.length : Int) 0) = some r := h
  clear h
  have H' := zq H
  clear H
  go_enter Try.func46, Try.ntmps46
  go_wp2
  go_loopg [3, 11] k (fun kq v3 v11 w' => ∃ (x3_1 : Int) (x11_1 : Int), v3 = .int .i64 x3_1 ∧ v11 = .int .i64 x11_1 ∧ Aside0 (api_Node_46.l0 kq l0 x3_1 l0 (l0.length : Int) x11_1 = some r) ∧ Aside0 (kq ≤ k) ∧ Aside0 (Kd.V (Kd.slice 30 k30) 22 w' w.heap.size (fun k_ => (P0_ k_ ∨ w.heap.size ≤ k_)) (.slice A0 l0.length c0) l0) ∧ Aside0 (Kd.V (Kd.slice 30 k30) 22 w' w.heap.size (fun k_ => (P0_ k_ ∨ w.heap.size ≤ k_)) (.slice A0 l0.length c0) l0) ∧ Aside0 (Below w.heap.size w w'))
  case atStart => exact ⟨(0), (0), J6, J6, H', ⟨Nat.le_refl _⟩, ⟨by (with_reducible repeat (first | apply Kd.V_alloc | apply Kd.V_drewN | apply Kd.V_drew)); exact HO0.out⟩, ⟨by (with_reducible repeat (first | apply Kd.V_alloc | apply Kd.V_drewN | apply Kd.V_drew)); exact HO0.out⟩, ⟨J0⟩⟩
  case round =>
    clear H'
    obtain ⟨x3_1, x11_1, rfl, rfl, HA, HK1, HO_0, HO_9, HB⟩ := hrel
    cases gk with
    | zero => exact absurd HA.out (by simp [api_Node_46.l0])
    | succ k1 =>
      have H := HA.out
      clear HA
      simp only [api_Node_46.l0] at H
      by_cases c2 : x11_1 < (l0.length : Int)
      · rw [if_pos c2] at H
        have c2b0 := decide_eq_true c2
        clear c2
        by_cases c3 : 0 ≤ x11_1
        · rw [if_pos c3] at H
          have c3b0 := decide_eq_true c3
          clear c3
          by_cases c4 : x11_1 < (l0.length : Int)
          · rw [if_pos c4] at H
            have c4b0 := decide_eq_true c4
            clear c4
            by_cases c5 : (wrap64 (x3_1 + ((rd_L5 l0 x11_1).length : Int))) < 0
            · rw [if_pos c5] at H
              exact absurd H J30
            · rw [if_neg c5] at H
              have c5b0 := decide_eq_false c5
              clear c5
              have H' := zq H
              clear H
              have p198 : 0 ≤ (x11_1 : Int) := of_decide_eq_true J2
              have q198 : x11_1 < (l0.length : Int) := of_decide_eq_true J2
              obtain ⟨ad198, A198_0, c198_0, e198, hx198_0, hl198_0, hi198_0⟩ := at_L5 (Kd.V_reads' HO_9.out).2.2 x11_1 p198 q198
              cases e198
              obtain ⟨ce198, hce198, hMe198, hcc198⟩ := Kd.V_get HO_9.out [] x11_1 p198 (by first | exact q198 | exact of_decide_eq_true J2 | (have e_ := (Kd.V_reads' HO_9.out).1; omega))
              obtain ⟨ua198_0, uc198_0, rfl, ul198_0, ge198_0⟩ := Kd.FK_slice_open hMe198
              have hv198_0 := hcc198 0 _ rfl
              rw [Nat.add_zero, show ((Kd.slice 30 k30)).sz = 1 from rfl, Nat.mul_one] at hv198_0
              replace hv198_0 := Option.some.inj (hv198_0.symm.trans hx198_0)
              injection hv198_0 with hva_ hvn_ hvc_
              rw [hva_] at ge198_0
              rw [hvc_] at ul198_0
              have HL198_0 := zq (show Kd.V k30 30 _ w.heap.size _ _ (rd_L5 l0 x11_1) from Kd.V_mk ul198_0 ge198_0)
              clear hva_ hvn_ hvc_ ge198_0 ul198_0
              clear hcc198 hce198
              have HR198_0 := zq hi198_0
              have HC198_0 := zq hl198_0
              clear hi198_0 hl198_0
              replace p198 := eq_true p198
              replace q198 := eq_true q198
              go_wp2
              go_roundg k1
              case measure => have := HK1.out; omega
              case rel => exact ⟨(wrap64 (x3_1 + ((rd_L5 l0 x11_1).length : Int))), (wrap64 (x11_1 + 1)), J6, J6, H', ⟨J66⟩, ⟨J113⟩, ⟨by (with_reducible repeat (first | apply Kd.V_alloc | apply Kd.V_drewN | apply Kd.V_drew)); exact HO_9.out⟩, ⟨J0⟩⟩
          · rw [if_neg c4] at H
            exact absurd H J30
        · rw [if_neg c3] at H
          exact absurd H J30
      rw [if_neg c2] at H
      have c2b0 := decide_eq_false c2
      clear c2
      replace H := Option.bind_eq_some_iff.mp H
      obtain ⟨t199, A60, H⟩ := H
      have A6 := zq A60
      clear A60
      have H' := zq H
      clear H
      go_wp2_with (first | ((with_reducible refine gate_callee (f := 66) rfl ?_); refine goesL_ (some 24) rfl rfl Try.func66 J4 rfl #[.slice none 0 0, .int .i64 x3_1] rfl J1 ?_; (with_reducible refine (api_Node_66.calls x3_1 t199 _ A6.out).mono ?_); rintro e w7 ⟨v200, rfl, ho0, hb⟩; refine ⟨_, rfl, ?_⟩; replace HO_0 := zq (Kd.V_elder' (zv HO_0.out) (Kd.N_base ho0) hb); have HO201 := zq (Kd.N_lower (Kd.N_mono (ok' := fun k_ => (P0_ k_ ∨ w.heap.size ≤ k_)) ho0 (fun k_ hk_ => (.inr (Nat.le_trans (below_size J0) hk_)))) (below_size J0)); replace HB := zq (below_step J0 hb); (try clear hb); (try clear hk); (try clear ho0)))
      go_loopg [6, 27] k1 (fun kq v6 v27 w' => ∃ (x6_2 : List (S30)) (x27_2 : Int), v27 = .int .i64 x27_2 ∧ Aside0 (api_Node_46.l1 kq x6_2 l0 (l0.length : Int) x27_2 = some r) ∧ Aside0 (kq ≤ k1) ∧ Aside0 (Kd.N k30 30 w' w.heap.size (fun k_ => (P0_ k_ ∨ w.heap.size ≤ k_)) v6 x6_2) ∧ Aside0 (Kd.V (Kd.slice 30 k30) 22 w' w.heap.size (fun k_ => (P0_ k_ ∨ w.heap.size ≤ k_) ∧ some k_ ≠ (v6 : Value).ownBlock) (.slice A0 l0.length c0) l0) ∧ Aside0 (Below w.heap.size w w'))
      case atStart => exact ⟨(t199), (0), J6, H', ⟨Nat.le_refl _⟩, ⟨by (with_reducible repeat (first | apply Kd.N_alloc | apply Kd.N_drewN | apply Kd.N_drew)); exact HO201.out⟩, ⟨J113⟩, ⟨J0⟩⟩
      case round =>
        clear H'
        try clear c1
        try clear p1
        try clear q1
        try clear hx1
        try clear c2
        try clear c2b0
        try clear p2
        try clear c3
        try clear c3b0
        try clear c4
        try clear c4b0
        try clear c5
        try clear c5b0
        try clear c6
        try clear p6
        try clear hx198_0
        try clear p198
        try clear q198
        obtain ⟨x6_2, x27_2, rfl, HA, HK2, HO_6, HO_25, HB⟩ := hrel
        cases gk with
        | zero => exact absurd HA.out (by simp [api_Node_46.l1])
        | succ k2 =>
          have H := HA.out
          clear HA
          simp only [api_Node_46.l1] at H
          by_cases c8 : x27_2 < (l0.length : Int)
          rotate_left
          · rw [if_neg c8] at H
            have c8b0 := decide_eq_false c8
            clear c8
            obtain rfl := Option.some.inj H
            go_wp2
            go_ret
            exact ⟨_, J3, by (with_reducible repeat (first | apply Kd.N_alloc | apply Kd.N_drewN | apply Kd.N_drew)); exact HO_6.out, J0⟩
          rw [if_pos c8] at H
          have c8b0 := decide_eq_true c8
          clear c8
          by_cases c9 : 0 ≤ x27_2
          rotate_left
          · rw [if_neg c9] at H
            exact absurd H J30
          rw [if_pos c9] at H
          have c9b0 := decide_eq_true c9
          clear c9
          by_cases c10 : x27_2 < (l0.length : Int)
          rotate_left
          · rw [if_neg c10] at H
            exact absurd H J30
          rw [if_pos c10] at H
          have c10b0 := decide_eq_true c10
          clear c10
          by_cases c11 : x6_2.length + (rd_L5 l0 x27_2).length < 1759218604441
          rotate_left
          · rw [if_neg c11] at H
            exact absurd H J30
          rw [if_pos c11] at H
          have LMc11 := zq c11
          clear c11
          obtain ⟨y203, hy203⟩ : ∃ y_ : List (S30), y_ = (x6_2 ++ (rd_L5 l0 x27_2)) := ⟨_, rfl⟩
          replace H : (api_Node_46.l1 k2 y203 l0 (l0.length : Int) (wrap64 (x27_2 + 1))) = some r := by first | (rw [hy203]; with_reducible exact H) | (have H2_ := (Option.bind_some _ _).symm.trans H; rw [hy203]; with_reducible exact H2_) | (have H2_ := (Option.bind_some _ _).symm.trans H; with_reducible exact H2_) | with_reducible exact H | (rw [hy203]; exact H) | exact H
          have Ny203 := zq hy203
          clear hy203
          have H' := zq H
          clear H
          have p202 : 0 ≤ (x27_2 : Int) := of_decide_eq_true J2
          have q202 : x27_2 < (l0.length : Int) := of_decide_eq_true J2
          obtain ⟨ad202, A202_0, c202_0, e202, hx202_0, hl202_0, hi202_0⟩ := at_L5 (Kd.V_reads' HO_25.out).2.2 x27_2 p202 q202
          cases e202
          obtain ⟨ce202, hce202, hMe202, hcc202⟩ := Kd.V_get HO_25.out [] x27_2 p202 (by first | exact q202 | exact of_decide_eq_true J2 | (have e_ := (Kd.V_reads' HO_25.out).1; omega))
          obtain ⟨ua202_0, uc202_0, rfl, ul202_0, ge202_0⟩ := Kd.FK_slice_open hMe202
          have hv202_0 := hcc202 0 _ rfl
          rw [Nat.add_zero, show ((Kd.slice 30 k30)).sz = 1 from rfl, Nat.mul_one] at hv202_0
          replace hv202_0 := Option.some.inj (hv202_0.symm.trans hx202_0)
          injection hv202_0 with hva_ hvn_ hvc_
          rw [hva_] at ge202_0
          rw [hvc_] at ul202_0
          have HL202_0 := zq (show Kd.V k30 30 _ w.heap.size _ _ (rd_L5 l0 x27_2) from Kd.V_mk ul202_0 ge202_0)
          clear hva_ hvn_ hvc_ ge202_0 ul202_0
          clear hcc202 hce202
          have HR202_0 := zq hi202_0
          have HC202_0 := zq hl202_0
          clear hi202_0 hl202_0
          replace p202 := eq_true p202
          replace q202 := eq_true q202
          go_wp2_with (first | ((with_reducible refine gate_builtin (b := .append) (xs := #[.tmp 31, .tmp 32]) rfl ?_); at_builtin; refine Kd.N_append_rows k30 (w0 := w) w.heap.size rfl (.tmp 31) (.tmp 32) 22 30 (.agg #[(.int .i64 0), (.slice none 0 0), (.slice none 0 0), (.slice none 0 0)]) 80 rfl Try.underlying22 info30 rfl J17 J15 u6 x6_2 (rd_L5 l0 x27_2) _ _ _ (fun k_ => (P0_ k_ ∨ w.heap.size ≤ k_)) (fun k_ => ((fun k_ => (P0_ k_ ∨ w.heap.size ≤ k_))) k_ ∧ some k_ ≠ (u6 : Value).ownBlock) rfl rfl ?aO ?aR (fun _ hk => hk) ?aF ?aB ?aS ?aL ?_; (case aR => exact (by skip; exact Kd.V_F (Kd.V_mono (ok' := (fun k_ => ((fun k_ => (P0_ k_ ∨ w.heap.size ≤ k_))) k_ ∧ some k_ ≠ (u6 : Value).ownBlock)) (HL202_0.out) (fun k_ hk => ⟨hk.1, hk.2⟩)))); (case aB => exact J0); (case aF => exact (fun k_ hk => (.inr (Nat.le_trans (below_size J0) hk)))); (case aO => exact (zn HO_6.out)); (case aS => exact (below_size J0)); (case aL => have := LMc11.out; omega); intro v204 w12 ho hb hg hat; rw [← Ny203.out] at ho; replace HO_25 := zq (Kd.V_afterv (ok := (fun k_ => (P0_ k_ ∨ w.heap.size ≤ k_))) (zv HO_25.out) hg hat); replace HB := zq (hb); have HO205 := zq (ho); clear HO_6; clear ho hb hg hat))
          go_roundg k2
          case measure => have := HK1.out; have := HK2.out; omega
          case rel => exact ⟨(y203), (wrap64 (x27_2 + 1)), J6, H', ⟨by have := HK1.out; have := HK2.out; omega⟩, ⟨by (with_reducible repeat (first | apply Kd.N_alloc | apply Kd.N_drewN | apply Kd.N_drew)); exact HO205.out⟩, ⟨by (with_reducible repeat (first | apply Kd.V_alloc | apply Kd.V_drewN | apply Kd.V_drew)); exact HO_25.out⟩, ⟨J0⟩⟩
mutual
def array_Kids.j0 : Nat → List (S30) → List (List (S30)) → Bool → Option ((List (List (S30))))
  | 0, _, _, _ => none
  | k + 1, x0, x2, x13 => if x13 = true then (some ([] : List (List (S30)))) else (if 1 ≤ (x0.length : Int) then (array_Kids.l0 k (x0.drop 1) x2) else (none))
def array_Kids.l0 : Nat → List (S30) → List (List (S30)) → Option ((List (List (S30))))
  | 0, _, _ => none
  | k + 1, x0, x2 => if (x0.length : Int) > 0 then ((array_Take.f k x0).bind fun t213 => (if 0 ≤ t213 then (if t213 ≤ (x0.length : Int) then ((array_Copy.f (x0.take (t213 : Int).toNat)).bind fun t219 => (if x2.length < 5864062014805 then (array_Kids.l0 k (x0.drop (t213 : Int).toNat) (x2 ++ [t219])) else (none))) else (none)) else (none))) else (some x2)
end
def array_Kids.f (k : Nat) (l0 : List (S30)) : Option ((List (List (S30)))) := (array_Right.f k l0).bind fun t206 => (if t206 = true then (if 0 < (l0.length : Int) then (array_Kids.j0 k l0 ([] : List (List (S30))) (((rd_T30 l0 0).f0) != 5)) else (none)) else (array_Kids.j0 k l0 ([] : List (List (S30))) true))
theorem array_Kids.mono_l : ∀ k, (∀ y0 y1 y2, LeO (array_Kids.j0 k y0 y1 y2) (array_Kids.j0 (k + 1) y0 y1 y2)) ∧ (∀ y0 y1, LeO (array_Kids.l0 k y0 y1) (array_Kids.l0 (k + 1) y0 y1))
  | 0 => ⟨fun _ _ _ r h => by simp [array_Kids.j0] at h, fun _ _ r h => by simp [array_Kids.l0] at h⟩
  | k + 1 => by
    obtain ⟨ih0, ih1⟩ := array_Kids.mono_l k
    refine ⟨?_, ?_⟩
    · intro y0 y1 y2
      unfold array_Kids.j0
      have im0 := @array_Right.mono
      have im1 := @array_Take.mono
      exact mz3
    · intro y0 y1
      unfold array_Kids.l0
      have im0 := @array_Right.mono
      have im1 := @array_Take.mono
      exact mz3
theorem array_Kids.mono : ∀ a0 k, LeO (array_Kids.f k a0) (array_Kids.f (k + 1) a0) := by
  intro a0 k
  obtain ⟨ih0, ih1⟩ := array_Kids.mono_l k
  unfold array_Kids.f
  have im0 := @array_Right.mono
  have im1 := @array_Take.mono
  exact mz3
def array_Kids.T6 : Bool × List (List Nat × List Nat) := (true, [([], []), ([], []), ([], []), ([1, 2], [1, 2]), ([3], [3]), ([4], [4]), ([0, 5, 4], [0, 5]), ([], []), ([], []), ([7, 8], [7, 8]), ([6, 6, 0, 1, 2, 3, 4, 5, 6], [0, 6]), ([9, 10, 0, 1, 2, 3, 4, 5, 6, 7, 8, 9, 10], [1, 7, 9])])
def array_Kids.B6 : List Nat := [0, 0, 0, 6, 14, 30, 63, 0, 0, 384, 127, 2047]
theorem array_Kids.tab6 : rtab .any (opsOf Try.f49 6) = array_Kids.T6 := J4
theorem array_Kids.bits6 : waitsOk array_Kids.T6.2 array_Kids.B6 = true := J4
set_option maxHeartbeats 8000000 in
set_option maxRecDepth 100000 in
theorem array_Kids.calls0 (k : Nat) (P0_ : Nat → Prop) (A0 : Option Addr) (c0 : Nat) (l0 : List (S30)) (r : List (List (S30))) (w : World) (hs0 : Kd.V k30 30 w w.heap.size (fun k_ => P0_ k_) (.slice A0 l0.length c0) l0) (h : array_Kids.f k l0 = some r) :
    Calls Try.prog 49 #[.slice A0 l0.length c0] w fun e w' => ∃ v0_ : Value, e = .returned (v0_) ∧ Kd.R (Kd.slice 30 k30) 22 w' w.heap.size (fun k_ => (w.heap.size ≤ k_)) v0_ r ∧ Below w.heap.size w w' := by
  have HO0 := zq (show Kd.V k30 30 w w.heap.size (fun k_ => (P0_ k_ ∨ w.heap.size ≤ k_)) (.slice A0 l0.length c0) l0 from Kd.V_mono hs0 (fun k_ hk => .inl hk))
  have HB := zq (Below.refl w.heap.size w)
  have H : ((array_Right.f k l0).bind fun t206 => (if t206 = true then (if 0 < (l0.length : Int) then (array_Kids.j0 k l0 ([] : List (List (S30))) (((rd_T30 l0 0).f0) != 5)) else (none)) else (array_Kids.j0 k l0 ([] : List (List (S30))) true))) = some r := h
  clear h
  have HC2 := zq H
  clear H
  go_enter Try.func49, Try.ntmps49
  go_upto_region 1 with (fail)
  go_cut [13] (fun v13 wc => ∃ (kq : Nat) (x13_1 : Bool), v13 = .bool x13_1 ∧ Aside0 (array_Kids.j0 kq l0 ([] : List (List (S30))) x13_1 = some r) ∧ Aside0 (kq ≤ k) ∧ Aside0 (Kd.V k30 30 wc w.heap.size (fun k_ => (P0_ k_ ∨ w.heap.size ≤ k_) ∧ some k_ ≠ ((.slice none 0 0) : Value).ownBlock) (.slice A0 l0.length c0) l0) ∧ Aside0 (Kd.R (Kd.slice 30 k30) 22 wc w.heap.size (fun k_ => (w.heap.size ≤ k_)) (.slice none 0 0) ([] : List (List (S30)))) ∧ Aside0 (Below w.heap.size w wc))
  case first =>
    have H := HC2.out
    clear HC2
    replace H := Option.bind_eq_some_iff.mp H
    obtain ⟨t206, A30, H⟩ := H
    have A3 := zq A30
    clear A30
    by_cases c4 : t206 = true
    rotate_left
    · replace c4 := Bool.eq_false_iff.mpr c4
      subst c4
      rw [if_neg (show ¬ (false = true) by decide)] at H
      have H' := zq H
      clear H
      go_wp2_with (first | ((with_reducible refine gate_callee (f := 23) rfl ?_); refine goesL_ (some 5) rfl rfl Try.func23 J4 rfl #[.slice A0 l0.length c0] rfl J1 ?_; (with_reducible refine (array_Right.calls k _ _ l0 false _ ?side1 ?side2 A3.out).mono ?_); (case side1 => exact zc ((Kd.V_reads' HO0.out).2.2)); (case side2 => exact (Kd.V_reads' HO0.out).2.1); rintro e w7 ⟨rfl, hb⟩; refine ⟨_, rfl, ?_⟩; replace HO0 := zq (Kd.V_below (zv HO0.out) hb); replace HB := zq (below_step J0 hb); (try clear hb); (try clear hk)))
      go_meet
      case rel => exact ⟨_, (true), J6, H', ⟨J48⟩, ⟨J95⟩, ⟨J8⟩, ⟨J0⟩⟩
    subst c4
    rw [if_pos rfl] at H
    by_cases c5 : 0 < (l0.length : Int)
    rotate_left
    · rw [if_neg c5] at H
      exact absurd H J30
    rw [if_pos c5] at H
    have c5b0 := decide_eq_true c5
    have c5b1 : decide (0 < l0.length) = true := decide_eq_true J15
    clear c5
    (first | rw [c5b0] | (simp only [i64_w, i32_w]; rw [c5b0]) | skip)
    have H' := zq H
    clear H
    go_wp2_with (first | ((with_reducible refine gate_callee (f := 23) rfl ?_); refine goesL_ (some 5) rfl rfl Try.func23 J4 rfl #[.slice A0 l0.length c0] rfl J1 ?_; (with_reducible refine (array_Right.calls k _ _ l0 true _ ?side1 ?side2 A3.out).mono ?_); (case side1 => exact zc ((Kd.V_reads' HO0.out).2.2)); (case side2 => exact (Kd.V_reads' HO0.out).2.1); rintro e w6 ⟨rfl, hb⟩; refine ⟨_, rfl, ?_⟩; replace HO0 := zq (Kd.V_below (zv HO0.out) hb); replace HB := zq (below_step J0 hb); (try clear hb); (try clear hk); have p207 : 0 ≤ (0 : Int) := J15; have q207 : 0 < (l0.length : Int) := of_decide_eq_true J2; obtain ⟨ad207, A207_1, c207_1, A207_2, c207_2, A207_3, c207_3, e207, hx207_0, hx207_1, hx207_2, hx207_3, hl207_1, hi207_1, hl207_2, hi207_2, hl207_3, hi207_3⟩ := at_T30 (Kd.V_reads' HO0.out).2.2 0 p207 q207; cases e207; obtain ⟨ce207, hce207, hMe207, hcc207⟩ := Kd.V_get HO0.out z30 0 p207 (by first | exact q207 | exact of_decide_eq_true J2 | (have e_ := (Kd.V_reads' HO0.out).1; omega)); obtain ⟨ua207_1, uc207_1, ua207_2, uc207_2, ua207_3, uc207_3, rfl, ul207_1, ge207_1, ul207_2, ge207_2, ul207_3, ge207_3⟩ := k30_openF hMe207; have hv207_1 := hcc207 1 _ rfl; rw [add_field _ _ 1 J15] at hv207_1; replace hv207_1 := Option.some.inj (hv207_1.symm.trans hx207_1); injection hv207_1 with hva_ hvn_ hvc_; rw [hva_] at ge207_1; rw [hvc_] at ul207_1; have HL207_1 := zq (show Kd.V (Kd.int .i64) 3 _ w.heap.size _ _ ((rd_T30 l0 0).f1) from Kd.V_mk ul207_1 ge207_1); clear hva_ hvn_ hvc_ ge207_1 ul207_1; have hv207_2 := hcc207 2 _ rfl; rw [add_field _ _ 2 J15] at hv207_2; replace hv207_2 := Option.some.inj (hv207_2.symm.trans hx207_2); injection hv207_2 with hva_ hvn_ hvc_; rw [hva_] at ge207_2; rw [hvc_] at ul207_2; have HL207_2 := zq (show Kd.V (Kd.int .i64) 3 _ w.heap.size _ _ ((rd_T30 l0 0).f2) from Kd.V_mk ul207_2 ge207_2); clear hva_ hvn_ hvc_ ge207_2 ul207_2; have hv207_3 := hcc207 3 _ rfl; rw [add_field _ _ 3 J15] at hv207_3; replace hv207_3 := Option.some.inj (hv207_3.symm.trans hx207_3); injection hv207_3 with hva_ hvn_ hvc_; rw [hva_] at ge207_3; rw [hvc_] at ul207_3; have HL207_3 := zq (show Kd.V k38 38 _ w.heap.size _ _ ((rd_T30 l0 0).f3) from Kd.V_mk ul207_3 ge207_3); clear hva_ hvn_ hvc_ ge207_3 ul207_3; clear hcc207 hce207; have qi207 : (0 < l0.length) = True := eq_true J15; (try rw [show ((0 : Int)).toNat = 0 from rfl] at hx207_0); (try rw [show 0 * 4 = 0 from rfl] at hx207_0); (try rw [Addr.add_zero'] at hx207_0); (try rw [show ((0 : Int)).toNat = 0 from rfl] at hx207_1); (try rw [show 0 * 4 = 0 from rfl] at hx207_1); (try rw [Addr.add_zero'] at hx207_1); (try rw [show ((0 : Int)).toNat = 0 from rfl] at hx207_2); (try rw [show 0 * 4 = 0 from rfl] at hx207_2); (try rw [Addr.add_zero'] at hx207_2); (try rw [show ((0 : Int)).toNat = 0 from rfl] at hx207_3); (try rw [show 0 * 4 = 0 from rfl] at hx207_3); (try rw [Addr.add_zero'] at hx207_3); have HR207_1 := zq hi207_1; have HC207_1 := zq hl207_1; clear hi207_1 hl207_1; have HR207_2 := zq hi207_2; have HC207_2 := zq hl207_2; clear hi207_2 hl207_2; have HR207_3 := zq hi207_3; have HC207_3 := zq hl207_3; clear hi207_3 hl207_3; replace p207 := eq_true p207; replace q207 := eq_true q207))
    go_meet
    case rel => exact ⟨_, ((((rd_T30 l0 0).f0) != 5)), J6, H', ⟨J48⟩, ⟨J95⟩, ⟨J8⟩, ⟨J0⟩⟩
  case rest =>
    clear HC2
    try clear c2
    try clear p2
    try clear q2
    try clear hx2
    try clear qi2
    try clear c4
    try clear c5
    try clear c5b0
    try clear c5b1
    try clear hx207_0
    try clear hx207_1
    try clear hx207_2
    try clear hx207_3
    try clear p207
    try clear q207
    obtain ⟨kq, x13_1, rfl, HA, HJ1, HO_0, HO_2, HB⟩ := hcut
    cases kq with
    | zero => exact absurd HA.out (by simp [array_Kids.j0])
    | succ kj1 =>
      have H := HA.out
      clear HA
      simp only [array_Kids.j0] at H
      by_cases c8 : x13_1 = true
      · subst c8
        rw [if_pos rfl] at H
        obtain rfl := Option.some.inj H
        go_wp2
        go_ret
        exact ⟨_, J3, J8, J0⟩
      replace c8 := Bool.eq_false_iff.mpr c8
      subst c8
      rw [if_neg (show ¬ (false = true) by decide)] at H
      by_cases c9 : 1 ≤ (l0.length : Int)
      rotate_left
      · rw [if_neg c9] at H
        exact absurd H J30
      rw [if_pos c9] at H
      have c9b0 := eq_true c9
      have c9b1 := decide_eq_true c9
      clear c9
      obtain ⟨y208, hy208⟩ : ∃ y_ : List (S30), y_ = (l0.drop 1) := ⟨_, rfl⟩
      replace H : (array_Kids.l0 kj1 y208 ([] : List (List (S30)))) = some r := by first | (rw [hy208]; with_reducible exact H) | (have H2_ := (Option.bind_some _ _).symm.trans H; rw [hy208]; with_reducible exact H2_) | (have H2_ := (Option.bind_some _ _).symm.trans H; with_reducible exact H2_) | with_reducible exact H | (rw [hy208]; exact H) | exact H
      have Ny208 := zq hy208
      clear hy208
      have H' := zq H
      clear H
      have q10 : (1 : Int) ≤ ((l0.length : Int) : Int) := of_decide_eq_true J2
      obtain ⟨i010, hi010, _, hsz10, _⟩ := info_parts info30
      have hroom10 : l0.length ≤ c0 := (Kd.V_reads' HO_0.out).2.1
      have hC10 : Kd.F k30 _ _ A0 l0.length l0 := (Kd.V_at (base := w.heap.size) HO_0.out).2.2
      have hcut10 := cut_from (P := Try.prog) 22 30 .i64 Try.underlying22 hi010 4 hsz10 A0 l0.length c0 1 J15 q10
      have hr10 := Kd.F_cut (m := (1 : Int).toNat) (c := c0) hC10 J15 hroom10
      obtain ⟨A10, hA10⟩ : ∃ A_, A_ = (if c0 = (1 : Int).toNat then A0 else (A0 : Option Addr).map (·.add ((1 : Int).toNat * 4))) := ⟨_, rfl⟩
      obtain ⟨c10, hc10⟩ : ∃ c_, c_ = c0 - (1 : Int).toNat := ⟨_, rfl⟩
      have hy10 : y208.length = l0.length - (1 : Int).toNat := (by rw [Ny208.out, List.length_drop] <;> omega)
      rw [show (l0).drop (1 : Int).toNat = y208 from Ny208.out.symm] at hr10
      replace hr10 : Kd.F k30 _ _ A10 y208.length y208 := (by rw [hA10]; exact hr10)
      rw [← hy10, ← hA10, ← hc10] at hcut10
      have HO212 := zq (show Kd.V k30 30 _ w.heap.size _ (.slice A10 y208.length c10) y208 from Kd.V_mk (by rw [hy10, hc10]; exact Nat.sub_le_sub_right hroom10 _) hr10)
      have HC212 := zq (show y208.length ≤ c10 from by rw [hy10, hc10]; exact Nat.sub_le_sub_right hroom10 _)
      clear hr10 hC10 hroom10 hi010 hsz10 hc10
      have KY10 := zq hy10
      have KA10 := zq hA10
      clear hy10 hA10
      replace q10 := eq_true q10
      go_wp2
      go_loopg [0, 2] kj1 (fun kq v0 v2 w' => ∃ (x0_2 : List (S30)) (x2_2 : List (List (S30))), Aside0 (array_Kids.l0 kq x0_2 x2_2 = some r) ∧ Aside0 (kq ≤ kj1) ∧ Aside0 (Kd.V k30 30 w' w.heap.size (fun k_ => (P0_ k_ ∨ w.heap.size ≤ k_) ∧ some k_ ≠ (v2 : Value).ownBlock) v0 x0_2) ∧ Aside0 (Kd.R (Kd.slice 30 k30) 22 w' w.heap.size (fun k_ => (w.heap.size ≤ k_)) v2 x2_2) ∧ Aside0 (Below w.heap.size w w'))
      case atStart => exact ⟨(y208), (([] : List (List (S30)))), H', ⟨Nat.le_refl _⟩, ⟨by (with_reducible repeat (first | apply Kd.V_alloc | apply Kd.V_drewN | apply Kd.V_drew)); exact HO212.out⟩, ⟨J114⟩, ⟨J0⟩⟩
      case round =>
        clear H'
        try clear c1
        try clear q1
        try clear c2
        try clear p2
        try clear q2
        try clear hx2
        try clear qi2
        try clear c4
        try clear c5
        try clear c5b0
        try clear c5b1
        try clear c8
        try clear c9
        try clear c9b0
        try clear c9b1
        try clear c10
        try clear q10
        try clear hx207_0
        try clear hx207_1
        try clear hx207_2
        try clear hx207_3
        try clear p2
        try clear p207
        try clear q10
        try clear q2
        try clear q207
        obtain ⟨x0_2, x2_2, HA, HK2, HO_0, HO_2, HB⟩ := hrel
        cases gk with
        | zero => exact absurd HA.out (by simp [array_Kids.l0])
        | succ k2 =>
          have H := HA.out
          clear HA
          simp only [array_Kids.l0] at H
          by_cases c11 : (x0_2.length : Int) > 0
          rotate_left
          · rw [if_neg c11] at H
            have c11b0 := decide_eq_false c11
            have c11b1 : decide (0 < x0_2.length) = false := decide_eq_false J15
            clear c11
            obtain rfl := Option.some.inj H
            obtain ⟨Ao27, co27, eo27⟩ := Kd.V_slice HO_0.out
            subst eo27
            go_wp2
            go_ret
            exact ⟨_, J3, J114, J0⟩
          rw [if_pos c11] at H
          have c11b0 := decide_eq_true c11
          have c11b1 : decide (0 < x0_2.length) = true := decide_eq_true J15
          clear c11
          replace H := Option.bind_eq_some_iff.mp H
          obtain ⟨t213, A120, H⟩ := H
          have A12 := zq A120
          clear A120
          by_cases c13 : 0 ≤ t213
          rotate_left
          · rw [if_neg c13] at H
            exact absurd H J30
          rw [if_pos c13] at H
          have c13b0 := eq_true c13
          have c13b1 := decide_eq_true c13
          clear c13
          by_cases c14 : t213 ≤ (x0_2.length : Int)
          rotate_left
          · rw [if_neg c14] at H
            exact absurd H J30
          rw [if_pos c14] at H
          have c14b0 := eq_true c14
          have c14b1 := decide_eq_true c14
          clear c14
          obtain ⟨y214, hy214⟩ : ∃ y_ : List (S30), y_ = (x0_2.take (t213 : Int).toNat) := ⟨_, rfl⟩
          replace H : ((array_Copy.f y214).bind fun t219 => (if x2_2.length < 5864062014805 then (array_Kids.l0 k2 (x0_2.drop (t213 : Int).toNat) (x2_2 ++ [t219])) else (none))) = some r := by first | (rw [hy214]; with_reducible exact H) | (have H2_ := (Option.bind_some _ _).symm.trans H; rw [hy214]; with_reducible exact H2_) | (have H2_ := (Option.bind_some _ _).symm.trans H; with_reducible exact H2_) | with_reducible exact H | (rw [hy214]; exact H) | exact H
          have Ny214 := zq hy214
          clear hy214
          replace H := Option.bind_eq_some_iff.mp H
          obtain ⟨t219, A150, H⟩ := H
          have A15 := zq A150
          clear A150
          by_cases c16 : x2_2.length < 5864062014805
          rotate_left
          · rw [if_neg c16] at H
            exact absurd H J30
          rw [if_pos c16] at H
          have LMc16 := zq c16
          clear c16
          obtain ⟨y222, hy222⟩ : ∃ y_ : List (List (S30)), y_ = (x2_2 ++ [t219]) := ⟨_, rfl⟩
          replace H : (array_Kids.l0 k2 (x0_2.drop (t213 : Int).toNat) y222) = some r := by first | (rw [hy222]; with_reducible exact H) | (have H2_ := (Option.bind_some _ _).symm.trans H; rw [hy222]; with_reducible exact H2_) | (have H2_ := (Option.bind_some _ _).symm.trans H; with_reducible exact H2_) | with_reducible exact H | (rw [hy222]; exact H) | exact H
          have Ny222 := zq hy222
          clear hy222
          have c17b0 := eq_true (of_decide_eq_true J2 : 0 ≤ t213)
          have c18b0 := eq_true (of_decide_eq_true J2 : t213 ≤ (x0_2.length : Int))
          obtain ⟨y225, hy225⟩ : ∃ y_ : List (S30), y_ = (x0_2.drop (t213 : Int).toNat) := ⟨_, rfl⟩
          rw (occs := .pos [1]) [← hy225] at H
          have Ny225 := zq hy225
          clear hy225
          have H' := zq H
          clear H
          obtain ⟨Ao19, co19, eo19⟩ := Kd.V_slice HO_0.out
          subst eo19
          try go_wp2_with (first | ((with_reducible refine gate_callee (f := 47) rfl ?_); refine goesL_ (some 20) rfl rfl Try.func47 J4 rfl #[.slice Ao19 x0_2.length co19] rfl J1 ?_; (with_reducible refine (array_Take.calls k2 _ _ x0_2 t213 _ ?side1 ?side2 A12.out).mono ?_); (case side1 => exact zc ((Kd.V_reads' HO_0.out).2.2)); (case side2 => exact (Kd.V_reads' HO_0.out).2.1); rintro e w20 ⟨rfl, hb⟩; refine ⟨_, rfl, ?_⟩; replace HO_0 := zq (Kd.V_below (zv HO_0.out) hb); replace HO_2 := zq (Kd.R_below (zr HO_2.out) hb); replace HB := zq (below_step J0 hb); (try clear hb); (try clear hk)))
          replace HO_0 := zq (Kd.V_drew HO_0.out)
          replace HO_2 := zq (Kd.R_drew HO_2.out)
          replace HB := zq (below_drew1 HB.out)
          have q22 : (t213 : Int) ≤ ((x0_2.length : Int) : Int) := of_decide_eq_true J2
          obtain ⟨i022, hi022, _, hsz22, _⟩ := info_parts info30
          have hroom22 : x0_2.length ≤ co19 := (Kd.V_reads' HO_0.out).2.1
          have hC22 : Kd.F k30 _ _ Ao19 x0_2.length x0_2 := (Kd.V_at (base := w.heap.size) HO_0.out).2.2
          have hcut22 := cut_to (P := Try.prog) 22 30 .i64 Try.underlying22 hi022 Ao19 x0_2.length co19 t213 (of_decide_eq_true J2) q22 hroom22
          have hr22 := Kd.F_take (m := (t213 : Int).toNat) hC22 J15
          have hy22 : y214.length = (t213 : Int).toNat := (by rw [Ny214.out, List.length_take]; omega)
          rw [← Ny214.out] at hr22
          rw [← hy22] at hcut22
          have HO218 := zq (show Kd.V k30 30 _ w.heap.size _ (.slice Ao19 y214.length co19) y214 from Kd.V_mk J15 hr22)
          have HC218 := zq (show y214.length ≤ co19 from by omega)
          clear hr22 hC22 hroom22 hi022 hsz22
          have KY22 := zq hy22
          clear hy22
          replace q22 := eq_true q22
          have q23 : (t213 : Int) ≤ ((x0_2.length : Int) : Int) := of_decide_eq_true J2
          obtain ⟨i023, hi023, _, hsz23, _⟩ := info_parts info30
          have hroom23 : x0_2.length ≤ co19 := (Kd.V_reads' HO_0.out).2.1
          have hC23 : Kd.F k30 _ _ Ao19 x0_2.length x0_2 := (Kd.V_at (base := w.heap.size) HO_0.out).2.2
          have q023 : (0 : Int) ≤ (t213 : Int) := of_decide_eq_true J2
          have hcut23 := cut_from (P := Try.prog) 22 30 .i64 Try.underlying22 hi023 4 hsz23 Ao19 x0_2.length co19 t213 q023 q23
          have hr23 := Kd.F_cut (m := (t213 : Int).toNat) (c := co19) hC23 J15 hroom23
          obtain ⟨A23, hA23⟩ : ∃ A_, A_ = (if co19 = (t213 : Int).toNat then Ao19 else (Ao19 : Option Addr).map (·.add ((t213 : Int).toNat * 4))) := ⟨_, rfl⟩
          obtain ⟨c23, hc23⟩ : ∃ c1, c1 = co19 - (t213 : Int).toNat := ⟨_, rfl⟩
          have hy23 : y225.length = x0_2.length - (t213 : Int).toNat := (by rw [Ny225.out, List.length_drop] <;> omega)
          rw [show (x0_2).drop (t213 : Int).toNat = y225 from Ny225.out.symm] at hr23
          replace hr23 : Kd.F k30 _ _ A23 y225.length y225 := (by rw [hA23]; exact hr23)
          rw [← hy23, ← hA23, ← hc23] at hcut23
          have HO229 := zq (show Kd.V k30 30 _ w.heap.size _ (.slice A23 y225.length c23) y225 from Kd.V_mk (by rw [hy23, hc23]; exact Nat.sub_le_sub_right hroom23 _) hr23)
          have HC229 := zq (show y225.length ≤ c23 from by rw [hy23, hc23]; exact Nat.sub_le_sub_right hroom23 _)
          clear hr23 hC23 hroom23 hi023 hsz23 hc23
          have KY23 := zq hy23
          have KA23 := zq hA23
          clear hy23 hA23
          replace q23 := eq_true q23
          refine start_ (n := 12) (S := fun w' => True) (ds := []) #[Z,Z,Z,Z,Z,Z,Z,Z,Z,Z,Z,Z] J4 rfl rfl trivial (fun hHeld => ?_); refine with_tabW array_Kids.tab6 array_Kids.bits6 (fun HT_ HW_ => ?_)
          generalize w20.drew = w21 at HO_0 HO_2 HB HO218 HO229 hHeld ⊢
          refine pure_ (i := 0) (N := some 21) (v := ?_) (a' := ?_) #[Y,Z,Z,Z,Z,Z,Z,Z,Z,Z,Z,Z] rfl rfl (any_of HT_.out J4) (fun _ _ _ h => h) (Or.inl ⟨J28, ?_⟩) ?_ ?_
          rotate_left
          · exact pz0
          rotate_left
          · exact pz1
          refine pure_ (i := 1) (N := some 22) (v := ?_) (a' := ?_) #[Y,Y,Z,Z,Z,Z,Z,Z,Z,Z,Z,Z] rfl rfl (any_of HT_.out J4) (fun _ _ _ h => h) (Or.inl ⟨J28, ?_⟩) ?_ ?_
          rotate_left
          · exact pz0
          rotate_left
          · exact pz1
          refine pure_ (i := 2) (N := some 23) (v := ?_) (a' := ?_) #[Y,Y,Y,Z,Z,Z,Z,Z,Z,Z,Z,Z] rfl rfl (any_of HT_.out J4) (fun _ _ _ h => h) (Or.inl ⟨J28, ?_⟩) ?_ ?_
          rotate_left
          · exact pz0
          rotate_left
          · exact pz1
          refine pure_ (i := 3) (N := some 24) (v := ?_) (a' := ?_) #[Y,Y,Y,Y,Z,Z,Z,Z,Z,Z,Z,Z] rfl rfl (any_of HT_.out J4) (fun _ _ _ h => h) (Or.inl ⟨J28, ?_⟩) ?_ ?_
          rotate_left
          · exact pz0
          rotate_left
          · exact pz1
          refine pure_ (i := 7) (N := some 28) (v := ?_) (a' := ?_) #[Y,Y,Y,Y,Z,Z,Z,Y,Z,Z,Z,Z] rfl rfl (any_of HT_.out J4) (fun _ _ _ h => h) (Or.inl ⟨J28, ?_⟩) ?_ ?_
          rotate_left
          · exact pz0
          rotate_left
          · exact pz1
          refine pure_ (i := 8) (N := some 29) (v := ?_) (a' := ?_) #[Y,Y,Y,Y,Z,Z,Z,Y,Y,Z,Z,Z] rfl rfl (any_of HT_.out J4) (fun _ _ _ h => h) (Or.inl ⟨J28, ?_⟩) ?_ ?_
          rotate_left
          · exact pz0
          rotate_left
          · exact pz1
          refine pure_ (i := 9) (N := some 30) (v := ?_) (a' := ?_) #[Y,Y,Y,Y,Z,Z,Z,Y,Y,Y,Z,Z] rfl rfl (any_of HT_.out J4) (fun _ _ _ h => h) (Or.inl ⟨J28, ?_⟩) ?_ ?_
          rotate_left
          · exact pz0
          rotate_left
          · exact pz1
          refine one_ (i := 4) (N := some 25) #[Y,Y,Y,Y,Y,Z,Z,Y,Y,Y,Z,Z] rfl rfl (one_of HT_.out J4) J17 (fun K hK => ?_)
          refine goes_ Try.func45 J4 rfl #[.slice Ao19 y214.length co19] J28 rfl rfl J1 ?_
          with_reducible refine (array_Copy.calls _ _ y214 t219 _ ?side1 ?side2 A15.out).mono ?_
          (case side1 => exact zc ((Kd.V_reads' HO218.out).2.2))
          (case side2 => exact (Kd.V_reads' HO218.out).2.1)
          rintro e w24 ⟨v220, rfl, ho0, hb⟩
          refine ⟨_, rfl, ?_⟩
          replace HO_0 := zq (Kd.V_elder' (zv HO_0.out) (Kd.S_base ho0) hb)
          replace HO_2 := zq (Kd.R_elder' (zr HO_2.out) (Kd.S_base ho0) hb)
          replace HO229 := zq (Kd.V_elder' (zv HO229.out) (Kd.S_base ho0) hb)
          have HO221 := zq (Kd.S_lower (Kd.S_newM (M := fun k_ => (w.heap.size ≤ k_)) ho0 (below_size J0) (fun k_ h_ => h_)) (below_size J0))
          replace HB := zq (below_step J0 hb)
          (try clear hb)
          (try clear hb2)
          (try clear hk)
          (try clear hi)
          (try clear ho0)
          obtain ⟨Ao26, co26, eo26⟩ := Kd.S_slice HO221.out
          (first | subst eo26 | (injection eo26 with f1_ f2_ f3_; have f4_ := f1_.symm; have f5_ := f3_.symm; clear f1_ f2_ f3_; subst f4_; subst f5_))
          refine hK.out _ _ trivial (fun hHeld => ?_)
          clear hK K
          refine norm_ (a' := ?_) ?_ ?_
          rotate_left
          · show Act.put _ (some 25) _ = _
            simp only [Act.put, List.setIfInBounds_toArray, List.set_cons_zero, List.set_cons_succ, i64_w, i32_w]
            rfl
          refine one_ (i := 5) (N := some 26) #[Y,Y,Y,Y,Y,Y,Z,Y,Y,Y,Z,Z] rfl rfl (one_of HT_.out J4) J17 (fun K hK => ?_)
          refine value_ (w1 := ?_) (v := ?_) J28 rfl ?_ ?_
          rotate_left 2
          · go_simp
            constructor
            · rfl
            · rfl
          refine hK.out _ _ trivial (fun hHeld => ?_)
          clear hK K
          refine norm_ (a' := ?_) ?_ ?_
          rotate_left
          · show Act.put _ (some 26) _ = _
            simp only [Act.put, List.setIfInBounds_toArray, List.set_cons_zero, List.set_cons_succ, i64_w, i32_w]
            rfl
          refine one_ (i := 6) (N := some 27) #[Y,Y,Y,Y,Y,Y,Y,Y,Y,Y,Z,Z] rfl rfl (one_of HT_.out J4) J17 (fun K hK => ?_)
          refine Kd.R_append_step (Kd.slice 30 k30) (w0 := w) w.heap.size J28 (.tmp 21) (.tmp 26) 42 22 (.slice none 0 0) 24 rfl Try.underlying42 info22 rfl J17 J15 u2 x2_2 t219 [.slice Ao26 t219.length co26] (fun k_ => (w.heap.size ≤ k_)) (fun k_ => ((fun k_ => (w.heap.size ≤ k_))) k_ ∧ some k_ ≠ (u2 : Value).ownBlock) rfl rfl ?aP (fun _ hk => hk) ?aF ?aO ?aB ?aS ?aL ?_
          (case aP => exact Kd.M_row (Kd.R_mono (Kd.R_apart' ((Kd.S_R HO221.out)) (Kd.R_typed HO_2.out) J17) (fun k_ hk => ⟨hk.1.1, hk.2⟩)))
          (case aB => exact J0)
          (case aF => exact (fun k_ hk => (Nat.le_trans (below_size J0) hk)))
          (case aO => exact (by (with_reducible repeat (first | apply Kd.R_alloc | apply Kd.R_drewN | apply Kd.R_drew)); exact Kd.R_mono HO_2.out (fun _ hk => hk.1)))
          (case aS => exact (below_size J0))
          (case aL => have := LMc16.out; omega)
          intro v223 w25 ho hb hg hat
          rw [← Ny222.out] at ho
          replace HO_0 := zq (Kd.V_afterv (ok := (fun k_ => (P0_ k_ ∨ w.heap.size ≤ k_) ∧ some k_ ≠ (.slice Ao26 t219.length co26 : Value).ownBlock)) (by (with_reducible repeat (first | apply Kd.V_alloc | apply Kd.V_drewN | apply Kd.V_drew)); exact Kd.V_mono HO_0.out (fun _ hk => ⟨⟨hk.1.1, hk.2⟩, hk.1.2⟩)) hg hat)
          replace HO229 := zq (Kd.V_afterv (ok := (fun k_ => (P0_ k_ ∨ w.heap.size ≤ k_) ∧ some k_ ≠ (.slice Ao26 t219.length co26 : Value).ownBlock)) (by (with_reducible repeat (first | apply Kd.V_alloc | apply Kd.V_drewN | apply Kd.V_drew)); exact Kd.V_mono HO229.out (fun _ hk => ⟨⟨hk.1.1, hk.2⟩, hk.1.2⟩)) hg hat)
          replace HB := zq (hb)
          have HO224 := zq (ho)
          clear HO_2 HO221
          clear ho hb hg hat
          refine hK.out _ _ trivial (fun hHeld => ?_)
          clear hK K
          refine norm_ (a' := ?_) ?_ ?_
          rotate_left
          · show Act.put _ (some 27) _ = _
            simp only [Act.put, List.setIfInBounds_toArray, List.set_cons_zero, List.set_cons_succ, i64_w, i32_w]
            rfl
          refine pure_ (i := 10) (N := some 2) (v := ?_) (a' := ?_) #[Y,Y,Y,Y,Y,Y,Y,Y,Y,Y,Y,Z] rfl rfl (any_of HT_.out J4) (fun _ _ _ h => h) (Or.inl ⟨J28, ?_⟩) ?_ ?_
          rotate_left
          · exact pz0
          rotate_left
          · exact pz1
          refine pure_ (i := 11) (N := some 0) (v := ?_) (a' := ?_) #[Y,Y,Y,Y,Y,Y,Y,Y,Y,Y,Y,Y] rfl rfl (any_of HT_.out J4) (fun _ _ _ h => h) (Or.inl ⟨J28, ?_⟩) ?_ ?_
          rotate_left
          · exact pz0
          rotate_left
          · exact pz1
          refine done_ (done_of HT_.out J4) ?_
          try go_wp2
          go_roundg k2
          case measure => have := HJ1.out; have := HK2.out; omega
          case rel => exact ⟨(y225), (y222), H', ⟨by have := HJ1.out; have := HK2.out; omega⟩, ⟨by (with_reducible repeat (first | apply Kd.V_alloc | apply Kd.V_drewN | apply Kd.V_drew)); exact Kd.V_mono HO229.out (fun _ hk => ⟨hk.1.1, hk.2⟩)⟩, ⟨by (with_reducible repeat (first | apply Kd.R_alloc | apply Kd.R_drewN | apply Kd.R_drew)); exact HO224.out⟩, ⟨J0⟩⟩
theorem array_Kids.calls (k : Nat) (P0_ : Nat → Prop) (A0 : Option Addr) (c0 : Nat) (l0 : List (S30)) (r : List (List (S30))) (w : World) (hs0 : Kd.V k30 30 w w.heap.size (fun k_ => P0_ k_) (.slice A0 l0.length c0) l0) (h : array_Kids.f k l0 = some r) :
    Calls Try.prog 49 #[.slice A0 l0.length c0] w fun e w' => ∃ v0_ : Value, e = .returned (v0_) ∧ Kd.N (Kd.slice 30 k30) 22 w' w.heap.size (fun k_ => (w.heap.size ≤ k_)) v0_ r ∧ Below w.heap.size w w' := by
  refine (array_Kids.calls0 k P0_ A0 c0 l0 r w hs0 h).mono ?_
  rintro e w' ⟨v, he, h1, hB⟩
  exact ⟨v, he, Kd.R_N h1, hB⟩
def decimal_Of.f (k : Nat) (a0 : Int) : Option (Int × Int) := (decimal_Norm.f k a0 0).bind fun bt231 => (some (bt231.1, bt231.2.1))
theorem decimal_Of.mono : ∀ a0 k, LeO (decimal_Of.f k a0) (decimal_Of.f (k + 1) a0) := by
  intro a0 k
  unfold decimal_Of.f
  have im0 := @decimal_Norm.mono
  exact mz3
set_option maxHeartbeats 8000000 in
set_option maxRecDepth 100000 in
theorem decimal_Of.calls (k : Nat) (a0 : Int) (r1 : Int) (r2 : Int) (w : World) (h : decimal_Of.f k a0 = some (r1, r2)) :
    Calls Try.prog 20 #[.int .i64 a0] w fun e w' => e = .returned (.agg #[.int .i64 r1, .int .i64 r2]) ∧ Below w.heap.size w w' := by
  have hu38 := Try.underlying38
  have HB := zq (Below.refl w.heap.size w)
  have H : ((decimal_Norm.f k a0 0).bind fun bt231 => (some (bt231.1, bt231.2.1))) = some (r1, r2) := h
  clear h
  replace H := Option.bind_eq_some_iff.mp H
  obtain ⟨⟨t231, t232, t233⟩, A20, H⟩ := H
  dsimp only at H
  have A2 := zq A20
  clear A20
  simp only [Option.some.injEq, Prod.mk.injEq] at H
  obtain ⟨rfl, rfl⟩ := H
  go_enter Try.func20, Try.ntmps20
  go_wp2_with (first | ((with_reducible refine gate_dst (N := 2) rfl ?_); refine bxw 2 38 #[.int .i64 0, .int .i64 0] ?_; intro gb230 hg w3 hbox hb; have BK230 := zq (hbox); have GE230 := zq ((J16 : w.heap.size ≤ gb230)); replace HB := zq (below_step J0 hb); clear hb hbox hg) | ((with_reducible refine gate_callee (f := 43) rfl ?_); refine goesL_ (some 8) rfl rfl Try.func43 J4 rfl #[.agg #[.int .i64 a0, .int .i64 0]] rfl J1 ?_; (with_reducible refine (decimal_Norm.calls k a0 0 t231 t232 t233 _ A2.out).mono ?_); rintro e w4 ⟨rfl, hb⟩; refine ⟨_, rfl, ?_⟩; replace BK230 := zq (blk_below (g := gb230) (o := .cells #[.int .i64 0, .int .i64 0] 38 (0, 0)) (zk BK230.out) hb); replace HB := zq (below_step (zs1 GE230.out) hb); (try clear hb)) | ((with_reducible refine gate_dst (N := 3) rfl ?_); refine bxw 3 38 #[.int .i64 0, .int .i64 0] ?_; intro gb234 hg w5 hbox hb; have BK234 := zq (hbox); have GE234 := zq ((by rw [hg]; exact (below_size (zs1 GE230.out)) : w.heap.size ≤ gb234)); replace HB := zq (below_step (zs1 GE230.out) hb); have NB230_234 := zq ((by rw [hg]; exact Nat.ne_of_lt (blk_lt (g := gb230) (o := .cells #[.int .i64 0, .int .i64 0] 38 (0, 0)) (zk BK230.out)) : gb230 ≠ gb234)); have NB234_230 := zq ((by rw [hg]; exact Nat.ne_of_gt (blk_lt (g := gb230) (o := .cells #[.int .i64 0, .int .i64 0] 38 (0, 0)) (zk BK230.out)) : gb234 ≠ gb230)); replace BK230 := zq (blk_below (g := gb230) (o := .cells #[.int .i64 0, .int .i64 0] 38 (0, 0)) (zk BK230.out) hb); clear hb hbox hg; have hnb6 := NB234_230.out; have hnc6 := NB230_234.out; obtain ⟨hcz7_0, hcz7_1, hfz7_0, hfz7_1⟩ := cz2 BK234.out; obtain ⟨hcz8_0, hcz8_1, hfz8_0, hfz8_1⟩ := cz2 BK230.out))
  refine bodyPost_ret (results_cell_row rfl _ _ gb230 38 #[.int .i64 t231, .int .i64 t232] (0, 0) _ rfl (by (with_reducible repeat (first | refine blk_drewN ?_ _ | refine blk_drew ?_ | refine blk_alloc ?_ _)); refine blk_put (cs := #[.int .i64 t231, .int .i64 0]) ?_ 1 _ rfl; (with_reducible repeat (first | refine blk_drewN ?_ _ | refine blk_drew ?_ | refine blk_alloc ?_ _)); refine blk_put (cs := #[.int .i64 0, .int .i64 0]) ?_ 0 _ rfl; (with_reducible repeat (first | refine blk_drewN ?_ _ | refine blk_drew ?_ | refine blk_alloc ?_ _)); refine blk_far ?_ NB230_234.out _; (with_reducible repeat (first | refine blk_drewN ?_ _ | refine blk_drew ?_ | refine blk_alloc ?_ _)); refine blk_far ?_ NB230_234.out _; (with_reducible repeat (first | refine blk_drewN ?_ _ | refine blk_drew ?_ | refine blk_alloc ?_ _)); exact BK230.out) Try.underlying38 rfl J4) rfl ?_
  exact ⟨J3, by repeat (first | (with_reducible first | exact HB.out | apply below_alloc | apply pw_below_drewN | apply below_drew1 | refine below_set ?_ GE230.out | refine below_set ?_ GE234.out) | exact HB.out)⟩
end Go.Proofs.Ytecdklheppcihaa.HTightNumbers
