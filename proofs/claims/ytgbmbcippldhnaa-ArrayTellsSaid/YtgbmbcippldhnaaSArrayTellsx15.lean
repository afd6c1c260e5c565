import Derived.Test.YtgbmbcippldhnaaSArrayTellsx0
import Derived.Test.YtgbmbcippldhnaaSArrayTellsx1
import Derived.Test.YtgbmbcippldhnaaSArrayTellsx13
import Derived.Test.YtgbmbcippldhnaaSArrayTellsx14
namespace Go.Proofs.Ytgbmbcippldhnaa.HArrayTells
open Go.RowKit Go.Proofs.YtgbmbcippldhnaaW.PrintWords Go.Proofs.YtgbmbcippldhnaaW.PrintLast Go.Proofs.YtgbmbcippldhnaaW.PrintMore
attribute [local go_sem] max2_int min2_int max_two min_two max_three min_three max_four min_four
set_option linter.unusedVariables false
set_option linter.unusedSimpArgs false
attribute [local go_sem high] eqA41
mutual
def deckleref10_Kids.j0 : Nat → List (S32) → Bool → Option ((List (List (S32))))
  | 0, _, _ => none
  | k + 1, x0, x17 => if x17 = true then (some ([] : List (List (S32)))) else (deckleref10_Kids.l0 k x0 ([] : List (List (S32))) 1)
def deckleref10_Kids.l0 : Nat → List (S32) → List (List (S32)) → Int → Option ((List (List (S32))))
  | 0, _, _, _ => none
  | k + 1, x0, x3, x4 => if x4 < (x0.length : Int) then (if 0 ≤ x4 then (if x4 ≤ (x0.length : Int) then ((deckleref10_first.f k (x0.drop (x4 : Int).toNat) 16).bind fun bt418 => (if x4 ≤ (wrap64 (x4 + bt418.1)) then (if (wrap64 (x4 + bt418.1)) ≤ (x0.length : Int) then ((deckleref10_Copy.f k ((x0.take ((wrap64 (x4 + bt418.1)) : Int).toNat).drop (x4 : Int).toNat)).bind fun t425 => (if x3.length < 5864062014805 then (deckleref10_Kids.l0 k x0 (x3 ++ [t425]) (wrap64 (x4 + bt418.1))) else (none))) else (none)) else (none))) else (none)) else (none)) else (some x3)
end
def deckleref10_Kids.f (k : Nat) (l0 : List (S32)) : Option ((List (List (S32)))) := (deckleref10_Right.f k l0).bind fun t412 => (if t412 = true then (if 0 < (l0.length : Int) then (deckleref10_Kids.j0 k l0 (((rd_T32 l0 0).f0) != 5)) else (none)) else (deckleref10_Kids.j0 k l0 true))
set_option maxHeartbeats 8000000 in
set_option maxRecDepth 100000 in
theorem deckleref10_Kids.calls (k : Nat) (A0 : Option Addr) (c0 : Nat) (l0 : List (S32)) (r : List (List (S32))) (w : World) (hr0 : Kd.C k32 w A0 l0.length l0) (hc0 : l0.length ≤ c0) (h : deckleref10_Kids.f k l0 = some r) :
    Calls Try.prog 11 #[.slice A0 l0.length c0] w fun e w' => ∃ v0_ : Value, e = .returned (v0_) ∧ Kd.R (Kd.slice 32 k32) 22 w' w.heap.size (fun _ => True) v0_ r ∧ Below w.heap.size w w' := by
  have HR0 := Aside0.mk hr0
  have HC0 := Aside0.mk hc0
  clear hr0 hc0
  have HB := Aside0.mk (Below.refl w.heap.size w)
  have H : ((deckleref10_Right.f k l0).bind fun t412 => (if t412 = true then (if 0 < (l0.length : Int) then (deckleref10_Kids.j0 k l0 (((rd_T32 l0 0).f0) != 5)) else (none)) else (deckleref10_Kids.j0 k l0 true))) = some r := h
  clear h
  have HC2 := Aside0.mk H
  clear H
  go_enter Try.func11, Try.ntmps11
  go_upto_region 1 with (fail)
  go_cut [17] (fun v17 wc => ∃ (kq : Nat) (x17_1 : Bool), v17 = .bool x17_1 ∧ Aside0 (deckleref10_Kids.j0 kq l0 x17_1 = some r) ∧ Aside0 (kq ≤ k) ∧ Aside0 (Below w.heap.size w wc))
  case first =>
    have H := HC2.out
    clear HC2
    replace H := Option.bind_eq_some_iff.mp H
    obtain ⟨t412, A30, H⟩ := H
    have A3 := Aside0.mk A30
    clear A30
    by_cases c4 : t412 = true
    rotate_left
    · replace c4 := Bool.eq_false_iff.mpr c4
      subst c4
      have H1 : (deckleref10_Kids.j0 k l0 true) = some r := J10
      clear H
      have H := H1
      clear H1
      have H' := Aside0.mk H
      clear H
      go_wp2_with (first | ((with_reducible refine gate_callee (f := 15) rfl ?_); refine goesL_ (some 9) rfl rfl Try.func15 J8 rfl #[.slice A0 l0.length c0] rfl J1 ?_; (with_reducible refine (deckleref10_Right.calls k _ _ l0 false _ ?side1 ?side2 A3.out).mono ?_); (case side1 => repeat (first | exact (Kd.C_below HR0.out HB.out) | (with_reducible refine Kd.C_alloc ?_ _) | (with_reducible refine Kd.C_drewN ?_ _) | (with_reducible refine Kd.C_drew ?_))); (case side2 => exact HC0.out); rintro e w7 ⟨rfl, hb⟩; refine ⟨_, rfl, ?_⟩; have n0_ := Aside0.mk (below_step J0 hb); clear HB; have HB := n0_; clear n0_; (try clear hb); (try clear hb2); (try clear hk); (try clear hi)))
      go_meet
      case rel => exact ⟨_, (true), J4, H', ⟨J32⟩, ⟨J0⟩⟩
    subst c4
    have H1 : (if 0 < (l0.length : Int) then (deckleref10_Kids.j0 k l0 (((rd_T32 l0 0).f0) != 5)) else (none)) = some r := J17
    clear H
    have H := H1
    clear H1
    by_cases c5 : 0 < (l0.length : Int)
    rotate_left
    · rw [if_neg c5] at H
      exact absurd H J28
    rw [if_pos c5] at H
    have c5b0 := decide_eq_true c5
    have c5b1 : decide (0 < l0.length) = true := decide_eq_true J31
    clear c5
    (first | rw [c5b0] | (simp only [i64_w, i32_w]; rw [c5b0]) | skip)
    have H' := Aside0.mk H
    clear H
    go_wp2_with (first | ((with_reducible refine gate_callee (f := 15) rfl ?_); refine goesL_ (some 9) rfl rfl Try.func15 J8 rfl #[.slice A0 l0.length c0] rfl J1 ?_; (with_reducible refine (deckleref10_Right.calls k _ _ l0 true _ ?side1 ?side2 A3.out).mono ?_); (case side1 => repeat (first | exact (Kd.C_below HR0.out HB.out) | (with_reducible refine Kd.C_alloc ?_ _) | (with_reducible refine Kd.C_drewN ?_ _) | (with_reducible refine Kd.C_drew ?_))); (case side2 => exact HC0.out); rintro e w6 ⟨rfl, hb⟩; refine ⟨_, rfl, ?_⟩; have n0_ := Aside0.mk (below_step J0 hb); clear HB; have HB := n0_; clear n0_; (try clear hb); (try clear hb2); (try clear hk); (try clear hi); have p413 : 0 ≤ (0 : Int) := J31; have q413 : 0 < (l0.length : Int) := of_decide_eq_true J2; obtain ⟨ad413, A413_1, c413_1, A413_2, c413_2, A413_3, c413_3, e413, hx413_0, hx413_1, hx413_2, hx413_3, hl413_1, hi413_1, hl413_2, hi413_2, hl413_3, hi413_3⟩ := at_T32 HR0.out 0 p413 q413; cases e413; have qi413 : (0 < l0.length) = True := eq_true J31; (try rw [show ((0 : Int)).toNat = 0 from rfl] at hx413_0); (try rw [show 0 * 4 = 0 from rfl] at hx413_0); (try rw [Addr.add_zero'] at hx413_0); (try rw [show ((0 : Int)).toNat = 0 from rfl] at hx413_1); (try rw [show 0 * 4 = 0 from rfl] at hx413_1); (try rw [Addr.add_zero'] at hx413_1); (try rw [show ((0 : Int)).toNat = 0 from rfl] at hx413_2); (try rw [show 0 * 4 = 0 from rfl] at hx413_2); (try rw [Addr.add_zero'] at hx413_2); (try rw [show ((0 : Int)).toNat = 0 from rfl] at hx413_3); (try rw [show 0 * 4 = 0 from rfl] at hx413_3); (try rw [Addr.add_zero'] at hx413_3); replace hx413_0 := (HB.out.cell (World.block_lt_of_cell? w _ hx413_0)).trans hx413_0; replace hx413_1 := (HB.out.cell (World.block_lt_of_cell? w _ hx413_1)).trans hx413_1; replace hx413_2 := (HB.out.cell (World.block_lt_of_cell? w _ hx413_2)).trans hx413_2; replace hx413_3 := (HB.out.cell (World.block_lt_of_cell? w _ hx413_3)).trans hx413_3; have HR413_1 := Aside0.mk hi413_1; have HC413_1 := Aside0.mk hl413_1; clear hi413_1 hl413_1; have HR413_2 := Aside0.mk hi413_2; have HC413_2 := Aside0.mk hl413_2; clear hi413_2 hl413_2; have HR413_3 := Aside0.mk hi413_3; have HC413_3 := Aside0.mk hl413_3; clear hi413_3 hl413_3; replace p413 := eq_true p413; replace q413 := eq_true q413))
    go_meet
    case rel => exact ⟨_, ((((rd_T32 l0 0).f0) != 5)), J4, H', ⟨J32⟩, ⟨J0⟩⟩
  case rest =>
    clear HC2
    try clear c1
    try clear p2
    try clear c4
    try clear p4
    try clear q4
    try clear hx4
    try clear qi4
    try clear c5
    try clear c5b0
    try clear c5b1
    try clear hx413_0
    try clear hx413_1
    try clear hx413_2
    try clear hx413_3
    try clear p413
    try clear q413
    obtain ⟨kq, x17_1, rfl, HA, HJ1, HB⟩ := hcut
    cases kq with
    | zero => exact absurd HA.out (by simp [deckleref10_Kids.j0])
    | succ kj1 =>
      have H := HA.out
      clear HA
      simp only [deckleref10_Kids.j0] at H
      by_cases c8 : x17_1 = true
      · subst c8
        have H1 : (some ([] : List (List (S32)))) = some r := J17
        clear H
        have H := H1
        clear H1
        obtain rfl := Option.some.inj H
        go_wp2
        go_ret
        exact ⟨_, J3, J34, J0⟩
      replace c8 := Bool.eq_false_iff.mpr c8
      subst c8
      have H1 : (deckleref10_Kids.l0 kj1 l0 ([] : List (List (S32))) 1) = some r := J10
      clear H
      have H := H1
      clear H1
      have H' := Aside0.mk H
      clear H
      go_wp2
      go_loopg [3, 4] kj1 (fun kq v3 v4 w' => ∃ (x3_2 : List (List (S32))) (x4_2 : Int), v4 = .int .i64 x4_2 ∧ Aside0 (deckleref10_Kids.l0 kq l0 x3_2 x4_2 = some r) ∧ Aside0 (kq ≤ kj1) ∧ Aside0 (Kd.R (Kd.slice 32 k32) 22 w' w.heap.size (fun _ => True) v3 x3_2) ∧ Aside0 (Below w.heap.size w w'))
      case atStart => exact ⟨(([] : List (List (S32)))), (1), J4, H', ⟨Nat.le_refl _⟩, ⟨J34⟩, ⟨J0⟩⟩
      case round =>
        clear H'
        try clear c1
        try clear p2
        try clear c4
        try clear p4
        try clear q4
        try clear hx4
        try clear qi4
        try clear c5
        try clear c5b0
        try clear c5b1
        try clear c8
        try clear hx413_0
        try clear hx413_1
        try clear hx413_2
        try clear hx413_3
        try clear p2
        try clear p4
        try clear p413
        try clear q4
        try clear q413
        obtain ⟨x3_2, x4_2, rfl, HA, HK2, HO_3, HB⟩ := hrel
        cases gk with
        | zero => exact absurd HA.out (by simp [deckleref10_Kids.l0])
        | succ k2 =>
          have H := HA.out
          clear HA
          simp only [deckleref10_Kids.l0] at H
          by_cases c9 : x4_2 < (l0.length : Int)
          rotate_left
          · rw [if_neg c9] at H
            have c9b0 := decide_eq_false c9
            clear c9
            obtain rfl := Option.some.inj H
            go_wp2
            go_ret
            exact ⟨_, J3, by (with_reducible repeat (first | apply Kd.R_alloc | apply Kd.R_drewN | apply Kd.R_drew)); exact HO_3.out, J0⟩
          rw [if_pos c9] at H
          have c9b0 := decide_eq_true c9
          clear c9
          by_cases c10 : 0 ≤ x4_2
          rotate_left
          · rw [if_neg c10] at H
            exact absurd H J28
          rw [if_pos c10] at H
          have c10b0 := eq_true c10
          have c10b1 := decide_eq_true c10
          clear c10
          by_cases c11 : x4_2 ≤ (l0.length : Int)
          rotate_left
          · rw [if_neg c11] at H
            exact absurd H J28
          rw [if_pos c11] at H
          have c11b0 := eq_true c11
          have c11b1 := decide_eq_true c11
          clear c11
          obtain ⟨y414, hy414⟩ : ∃ y_ : List (S32), y_ = (l0.drop (x4_2 : Int).toNat) := ⟨_, rfl⟩
          replace H : ((deckleref10_first.f k2 y414 16).bind fun bt418 => (if x4_2 ≤ (wrap64 (x4_2 + bt418.1)) then (if (wrap64 (x4_2 + bt418.1)) ≤ (l0.length : Int) then ((deckleref10_Copy.f k2 ((l0.take ((wrap64 (x4_2 + bt418.1)) : Int).toNat).drop (x4_2 : Int).toNat)).bind fun t425 => (if x3_2.length < 5864062014805 then (deckleref10_Kids.l0 k2 l0 (x3_2 ++ [t425]) (wrap64 (x4_2 + bt418.1))) else (none))) else (none)) else (none))) = some r := by first | (rw [hy414]; with_reducible exact H) | (have H2_ := (Option.bind_some _ _).symm.trans H; rw [hy414]; with_reducible exact H2_) | (have H2_ := (Option.bind_some _ _).symm.trans H; with_reducible exact H2_) | with_reducible exact H | (rw [hy414]; exact H) | exact H
          have Ny414 := Aside0.mk hy414
          clear hy414
          replace H := Option.bind_eq_some_iff.mp H
          obtain ⟨⟨t418, t419, t420⟩, A120, H⟩ := H
          replace H : (if x4_2 ≤ (wrap64 (x4_2 + t418)) then (if (wrap64 (x4_2 + t418)) ≤ (l0.length : Int) then ((deckleref10_Copy.f k2 ((l0.take ((wrap64 (x4_2 + t418)) : Int).toNat).drop (x4_2 : Int).toNat)).bind fun t425 => (if x3_2.length < 5864062014805 then (deckleref10_Kids.l0 k2 l0 (x3_2 ++ [t425]) (wrap64 (x4_2 + t418))) else (none))) else (none)) else (none)) = some r := H
          have A12 := Aside0.mk A120
          clear A120
          have c13b0 := eq_true (of_decide_eq_true J2 : 0 ≤ x4_2)
          by_cases c14 : x4_2 ≤ (wrap64 (x4_2 + t418))
          rotate_left
          · rw [if_neg c14] at H
            exact absurd H J28
          rw [if_pos c14] at H
          have c14b0 := eq_true c14
          have c14b1 := decide_eq_true c14
          by_cases c15 : (wrap64 (x4_2 + t418)) ≤ (l0.length : Int)
          rotate_left
          · rw [if_neg c15] at H
            exact absurd H J28
          rw [if_pos c15] at H
          have c15b0 := eq_true c15
          have c15b1 := decide_eq_true c15
          obtain ⟨y421, hy421⟩ : ∃ y_ : List (S32), y_ = ((l0.take ((wrap64 (x4_2 + t418)) : Int).toNat).drop (x4_2 : Int).toNat) := ⟨_, rfl⟩
          replace H : ((deckleref10_Copy.f k2 y421).bind fun t425 => (if x3_2.length < 5864062014805 then (deckleref10_Kids.l0 k2 l0 (x3_2 ++ [t425]) (wrap64 (x4_2 + t418))) else (none))) = some r := by first | (rw [hy421]; with_reducible exact H) | (have H2_ := (Option.bind_some _ _).symm.trans H; rw [hy421]; with_reducible exact H2_) | (have H2_ := (Option.bind_some _ _).symm.trans H; with_reducible exact H2_) | with_reducible exact H | (rw [hy421]; exact H) | exact H
          have Ny421 := Aside0.mk hy421
          clear hy421
          replace H := Option.bind_eq_some_iff.mp H
          obtain ⟨t425, A160, H⟩ := H
          have A16 := Aside0.mk A160
          clear A160
          by_cases c17 : x3_2.length < 5864062014805
          rotate_left
          · rw [if_neg c17] at H
            exact absurd H J28
          rw [if_pos c17] at H
          have LMc17 := Aside0.mk c17
          clear c17
          obtain ⟨y428, hy428⟩ : ∃ y_ : List (List (S32)), y_ = (x3_2 ++ [t425]) := ⟨_, rfl⟩
          replace H : (deckleref10_Kids.l0 k2 l0 y428 (wrap64 (x4_2 + t418))) = some r := by first | (rw [hy428]; with_reducible exact H) | (have H2_ := (Option.bind_some _ _).symm.trans H; rw [hy428]; with_reducible exact H2_) | (have H2_ := (Option.bind_some _ _).symm.trans H; with_reducible exact H2_) | with_reducible exact H | (rw [hy428]; exact H) | exact H
          have Ny428 := Aside0.mk hy428
          clear hy428
          have H' := Aside0.mk H
          clear H
          have q18 : (x4_2 : Int) ≤ ((l0.length : Int) : Int) := of_decide_eq_true J2
          obtain ⟨i018, hi018, _, hsz18, _⟩ := info_parts info32
          have hroom18 : l0.length ≤ c0 := HC0.out
          have hC18 : Kd.C k32 _ A0 l0.length l0 := HR0.out
          have q018 : (0 : Int) ≤ (x4_2 : Int) := of_decide_eq_true J2
          have hcut18 := cut_from (P := Try.prog) 22 32 .i64 Try.underlying22 hi018 4 hsz18 A0 l0.length c0 x4_2 q018 q18
          have hr18 := Kd.C_drop (m := (x4_2 : Int).toNat) (c := c0) hC18 J31 hroom18
          obtain ⟨A18, hA18⟩ : ∃ A_, A_ = (if c0 = (x4_2 : Int).toNat then A0 else (A0 : Option Addr).map (·.add ((x4_2 : Int).toNat * 4))) := ⟨_, rfl⟩
          obtain ⟨c18, hc18⟩ : ∃ c_, c_ = c0 - (x4_2 : Int).toNat := ⟨_, rfl⟩
          have hy18 : y414.length = l0.length - (x4_2 : Int).toNat := (by rw [Ny414.out, List.length_drop] <;> omega)
          rw [show (l0).drop (x4_2 : Int).toNat = y414 from Ny414.out.symm] at hr18
          replace hr18 : Kd.C k32 _ A18 y414.length y414 := (by rw [hA18]; exact hr18)
          rw [← hy18, ← hA18, ← hc18] at hcut18
          have HR417 := Aside0.mk hr18
          have HC417 := Aside0.mk (show y414.length ≤ c18 from by rw [hy18, hc18]; exact Nat.sub_le_sub_right hroom18 _)
          clear hr18 hC18 hroom18 hi018 hsz18 hc18
          have KY18 := Aside0.mk hy18
          have KA18 := Aside0.mk hA18
          clear hy18 hA18
          replace q18 := eq_true q18
          go_wp2_with (first | ((with_reducible refine gate_callee (f := 28) rfl ?_); refine goesL_ (some 26) rfl rfl Try.func28 J8 rfl #[.slice A18 y414.length c18, .int .i64 16] rfl J1 ?_; (with_reducible refine (deckleref10_first.calls k2 _ _ y414 16 t418 t419 t420 _ ?side1 ?side2 A12.out).mono ?_); (case side1 => repeat (first | exact (Kd.C_below HR417.out HB.out) | (with_reducible refine Kd.C_alloc ?_ _) | (with_reducible refine Kd.C_drewN ?_ _) | (with_reducible refine Kd.C_drew ?_))); (case side2 => exact HC417.out); rintro e w19 ⟨rfl, hb⟩; refine ⟨_, rfl, ?_⟩; have n0_ := Aside0.mk (Kd.R_below (zr HO_3.out) hb); have n1_ := Aside0.mk (below_step J0 hb); clear HO_3; clear HB; have HO_3 := n0_; have HB := n1_; clear n0_ n1_; (try clear hb); (try clear hb2); (try clear hk); (try clear hi); have q20 : ((wrap64 (x4_2 + t418)) : Int) ≤ ((l0.length : Int) : Int) := of_decide_eq_true J2; obtain ⟨i020, hi020, _, hsz20, _⟩ := info_parts info32; have hroom20 : l0.length ≤ c0 := HC0.out; have hC20 : Kd.C k32 _ A0 l0.length l0 := HR0.out; have ql20 : (x4_2 : Int) ≤ ((wrap64 (x4_2 + t418)) : Int) := of_decide_eq_true J2; have q020 : (0 : Int) ≤ (x4_2 : Int) := of_decide_eq_true J2; have hcut20 := cut_mid (P := Try.prog) 22 32 .i64 .i64 Try.underlying22 hi020 4 hsz20 A0 l0.length c0 x4_2 (wrap64 (x4_2 + t418)) q020 ql20 q20 hroom20; have hr20 := Kd.C_mid (lo := (x4_2 : Int).toNat) (hi := ((wrap64 (x4_2 + t418)) : Int).toNat) (c := c0) hC20 J31 J31 hroom20; obtain ⟨A20, hA20⟩ : ∃ A_, A_ = (if c0 = (x4_2 : Int).toNat then A0 else (A0 : Option Addr).map (·.add ((x4_2 : Int).toNat * 4))) := ⟨_, rfl⟩; obtain ⟨c20, hc20⟩ : ∃ c_, c_ = c0 - (x4_2 : Int).toNat := ⟨_, rfl⟩; have hy20 : y421.length = ((wrap64 (x4_2 + t418)) : Int).toNat - (x4_2 : Int).toNat := (by rw [Ny421.out, List.length_drop, List.length_take] <;> omega); rw [show ((l0).take ((wrap64 (x4_2 + t418)) : Int).toNat).drop (x4_2 : Int).toNat = y421 from Ny421.out.symm] at hr20; replace hr20 : Kd.C k32 _ A20 y421.length y421 := (by rw [hA20]; exact hr20); rw [← hy20, ← hA20, ← hc20] at hcut20; have HR424 := Aside0.mk hr20; have HC424 := Aside0.mk (show y421.length ≤ c20 from by rw [hy20, hc20]; exact Nat.sub_le_sub_right (Nat.le_trans J31 hroom20) _); clear hr20 hC20 hroom20 hi020 hsz20 hc20; have KY20 := Aside0.mk hy20; have KA20 := Aside0.mk hA20; clear hy20 hA20; replace q20 := eq_true q20) | ((with_reducible refine gate_callee (f := 29) rfl ?_); refine goesL_ (some 37) rfl rfl Try.func29 J8 rfl #[.slice A20 y421.length c20] rfl J1 ?_; (with_reducible refine (deckleref10_Copy.calls k2 _ _ y421 t425 _ ?side1 ?side2 A16.out).mono ?_); (case side1 => repeat (first | exact (Kd.C_below HR424.out HB.out) | (with_reducible refine Kd.C_alloc ?_ _) | (with_reducible refine Kd.C_drewN ?_ _) | (with_reducible refine Kd.C_drew ?_))); (case side2 => exact HC424.out); rintro e w21 ⟨v426, rfl, ho0, hb⟩; refine ⟨_, rfl, ?_⟩; have n0_ := Aside0.mk (Kd.R_elder' (zr HO_3.out) (Kd.S_base ho0) hb); have n1_ := Aside0.mk (Kd.S_lower ho0 (below_size J0)); have n2_ := Aside0.mk (below_step J0 hb); clear HO_3; clear HB; have HO_3 := n0_; have HO427 := n1_; have HB := n2_; clear n0_ n1_ n2_; (try clear hb); (try clear hb2); (try clear hk); (try clear hi); (try clear ho0); obtain ⟨Ao23, co23, eo23⟩ := Kd.S_slice HO427.out; subst eo23) | ((with_reducible refine gate_builtin (b := .append) (xs := #[.tmp 30, .tmp 38]) rfl ?_); at_builtin; refine Kd.R_append (Kd.slice 32 k32) (w0 := w) w.heap.size rfl (.tmp 30) (.tmp 38) 25 22 (.slice none 0 0) 24 rfl Try.underlying25 info22 rfl J21 J31 u3 x3_2 t425 [.slice Ao23 t425.length co23] (fun _ => True) (fun k_ => ((fun _ => True)) k_ ∧ some k_ ≠ (u3 : Value).ownBlock) rfl rfl ?aP (fun _ hk => hk) ?aF ?aO ?aB ?aS ?aL ?_; (case aP => exact Kd.M_row (Kd.R_mono (Kd.R_apart' ((Kd.S_R HO427.out)) (Kd.R_typed HO_3.out) J21) (fun k_ hk => ⟨trivial, hk.2⟩))); (case aB => exact J0); (case aF => exact (fun _ _ => trivial)); (case aO => exact (by (with_reducible repeat (first | apply Kd.R_alloc | apply Kd.R_drewN | apply Kd.R_drew)); exact Kd.R_mono HO_3.out (fun _ hk => trivial))); (case aS => exact (below_size J0)); (case aL => have := LMc17.out; omega); intro v429 w22 ho hb hg hat; rw [← Ny428.out] at ho; have n0_ := Aside0.mk (hb); have n1_ := Aside0.mk (ho); clear HB; clear HO_3; clear HO427; have HB := n0_; have HO430 := n1_; clear n0_ n1_; clear ho hb hg hat))
          go_roundg k2
          case measure => have := HJ1.out; have := HK2.out; omega
          case rel => exact ⟨(y428), (wrap64 (x4_2 + t418)), J4, H', ⟨by have := HJ1.out; have := HK2.out; omega⟩, ⟨by (with_reducible repeat (first | apply Kd.R_alloc | apply Kd.R_drewN | apply Kd.R_drew)); exact HO430.out⟩, ⟨J0⟩⟩
def deckleref01_Same.l0 : Nat → List Int → List Int → Int → Option (Bool)
  | 0, _, _, _ => none
  | k + 1, x0, x1, x5 => if x5 < (x0.length : Int) then (if 0 ≤ x5 then (if x5 < (x1.length : Int) then (if (rd x0 x5) = (rd x1 x5) then (deckleref01_Same.l0 k x0 x1 (wrap64 (x5 + 1))) else (some false)) else (none)) else (none)) else (some true)
def deckleref01_Same.f (k : Nat) (l0 : List Int) (l1 : List Int) : Option (Bool) := if (l0.length : Int) = (l1.length : Int) then (deckleref01_Same.l0 k l0 l1 0) else (some false)
set_option maxHeartbeats 8000000 in
set_option maxRecDepth 100000 in
theorem deckleref01_Same.calls (k : Nat) (A0 : Option Addr) (c0 : Nat) (l0 : List Int) (A1 : Option Addr) (c1 : Nat) (l1 : List Int) (r : Bool) (w : World) (hr0 : Kd.C (Kd.int .i64) w A0 l0.length l0) (hc0 : l0.length ≤ c0) (hr1 : Kd.C (Kd.int .i64) w A1 l1.length l1) (hc1 : l1.length ≤ c1) (h : deckleref01_Same.f k l0 l1 = some r) :
    Calls Try.prog 45 #[.slice A0 l0.length c0, .slice A1 l1.length c1] w fun e w' => e = .returned (.bool r) ∧ Drawn0 w w' := by
  have HR0 := Aside0.mk hr0
  have HC0 := Aside0.mk hc0
  clear hr0 hc0
  have HR1 := Aside0.mk hr1
  have HC1 := Aside0.mk hc1
  clear hr1 hc1
  have H : (if (l0.length : Int) = (l1.length : Int) then (deckleref01_Same.l0 k l0 l1 0) else (some false)) = some r := h
  clear h
  by_cases c3 : (l0.length : Int) = (l1.length : Int)
  rotate_left
  · rw [if_neg c3] at H
    have c3b0 : ((l0.length : Int) == (l1.length : Int)) = false := beq_eq_false_iff_ne.mpr c3
    have c3b1 : ((l0.length : Int) != (l1.length : Int)) = true := bne_iff_ne.mpr c3
    have c3b2 : (l0.length == l1.length) = false := J41
    obtain rfl := Option.some.inj H
    go_enter Try.func45, Try.ntmps45
    go_wp2
    repeat (go_quiet (fail); try go_wp2)
    go_ret
    exact ⟨J4, J9⟩
  rw [if_pos c3] at H
  have c3b0 : ((l0.length : Int) == (l1.length : Int)) = true := beq_iff_eq.mpr c3
  have c3b1 : ((l0.length : Int) != (l1.length : Int)) = false := bne_eq_false_iff_eq.mpr c3
  have c3b2 : (l0.length == l1.length) = true := J41
  clear c3
  have H' := Aside0.mk H
  clear H
  go_enter Try.func45, Try.ntmps45
  go_wp2
  repeat (go_quiet (fail); try go_wp2)
  go_loopg [5] k (fun kq v5 w' => ∃ (x5_1 : Int), v5 = .int .i64 x5_1 ∧ Aside0 (deckleref01_Same.l0 kq l0 l1 x5_1 = some r) ∧ Aside0 (kq ≤ k) ∧ Drawn0 w w')
  case atStart => exact ⟨(0), J4, H', ⟨Nat.le_refl _⟩, J9⟩
  case round =>
    clear H'
    try clear c1
    try clear p2
    try clear c3
    try clear c3b0
    try clear c3b1
    try clear c3b2
    obtain ⟨x5_1, rfl, HA, HK1, ⟨m1, rfl⟩⟩ := hrel
    cases gk with
    | zero => exact absurd HA.out (by simp [deckleref01_Same.l0])
    | succ k1 =>
      have H := HA.out
      clear HA
      simp only [deckleref01_Same.l0] at H
      by_cases c4 : x5_1 < (l0.length : Int)
      rotate_left
      · rw [if_neg c4] at H
        have c4b0 := decide_eq_false c4
        clear c4
        obtain rfl := Option.some.inj H
        go_wp2
        repeat (go_quiet (fail); try go_wp2)
        go_ret
        exact ⟨J4, J9⟩
      rw [if_pos c4] at H
      have c4b0 := decide_eq_true c4
      clear c4
      by_cases c5 : 0 ≤ x5_1
      rotate_left
      · rw [if_neg c5] at H
        exact absurd H J28
      rw [if_pos c5] at H
      have c5b0 := decide_eq_true c5
      clear c5
      by_cases c6 : x5_1 < (l1.length : Int)
      rotate_left
      · rw [if_neg c6] at H
        exact absurd H J28
      rw [if_pos c6] at H
      have c6b0 := decide_eq_true c6
      clear c6
      by_cases c7 : (rd l0 x5_1) = (rd l1 x5_1)
      rotate_left
      · rw [if_neg c7] at H
        have c7b0 : ((rd l0 x5_1) == (rd l1 x5_1)) = false := beq_eq_false_iff_ne.mpr c7
        have c7b1 : ((rd l0 x5_1) != (rd l1 x5_1)) = true := bne_iff_ne.mpr c7
        obtain rfl := Option.some.inj H
        have p431 : 0 ≤ (x5_1 : Int) := of_decide_eq_true J2
        have q431 : x5_1 < (l0.length : Int) := of_decide_eq_true J2
        obtain ⟨ad431, e431, hx431_0⟩ := Kd.at_int HR0.out x5_1 p431 q431
        cases e431
        replace p431 := eq_true p431
        replace q431 := eq_true q431
        have p432 : 0 ≤ (x5_1 : Int) := of_decide_eq_true J2
        have q432 : x5_1 < (l1.length : Int) := of_decide_eq_true J2
        obtain ⟨ad432, e432, hx432_0⟩ := Kd.at_int HR1.out x5_1 p432 q432
        cases e432
        replace p432 := eq_true p432
        replace q432 := eq_true q432
        go_wp2
        repeat (go_quiet (fail); try go_wp2)
        go_ret
        exact ⟨J4, J9⟩
      rw [if_pos c7] at H
      have c7b0 : ((rd l0 x5_1) == (rd l1 x5_1)) = true := beq_iff_eq.mpr c7
      have c7b1 : ((rd l0 x5_1) != (rd l1 x5_1)) = false := bne_eq_false_iff_eq.mpr c7
      clear c7
      have H' := Aside0.mk H
      clear H
      have p431 : 0 ≤ (x5_1 : Int) := of_decide_eq_true J2
      have q431 : x5_1 < (l0.length : Int) := of_decide_eq_true J2
      obtain ⟨ad431, e431, hx431_0⟩ := Kd.at_int HR0.out x5_1 p431 q431
      cases e431
      replace p431 := eq_true p431
      replace q431 := eq_true q431
      have p432 : 0 ≤ (x5_1 : Int) := of_decide_eq_true J2
      have q432 : x5_1 < (l1.length : Int) := of_decide_eq_true J2
      obtain ⟨ad432, e432, hx432_0⟩ := Kd.at_int HR1.out x5_1 p432 q432
      cases e432
      replace p432 := eq_true p432
      replace q432 := eq_true q432
      go_wp2
      repeat (go_quiet (fail); try go_wp2)
      go_roundg k1
      case measure => have := HK1.out; omega
      case rel => exact ⟨(wrap64 (x5_1 + 1)), J4, H', ⟨J51⟩, J9⟩
def deckleref10_One.l0 : Nat → Int → Int → List Int → List Int → List (S41) → Int → List Int → List Int → List (S41) → Option (Bool)
  | 0, _, _, _, _, _, _, _, _, _ => none
  | k + 1, x5, x434000, x434001, x434002, x434003, x435000, x435001, x435002, x435003 => if x5 < (x434003.length : Int) then (if 0 ≤ x5 then (if x5 < (x435003.length : Int) then (if (!(((rd_T41 x434003 x5).f0) == ((rd_T41 x435003 x5).f0)) || (!(((rd_T41 x434003 x5).f1) == ((rd_T41 x435003 x5).f1)))) = true then (some false) else (deckleref10_One.l0 k (wrap64 (x5 + 1)) x434000 x434001 x434002 x434003 x435000 x435001 x435002 x435003)) else (none)) else (none)) else (if x434000 = x435000 then ((deckleref01_Same.f k x434001 x435001).bind fun t437 => (if t437 = true then ((deckleref01_Same.f k x434002 x435002).bind fun t438 => (some t438)) else (some false))) else (some false))
def deckleref10_One.f (k : Nat) (a0_0 : Int) (l0_1 : List Int) (l0_2 : List Int) (l0_3 : List (S41)) (a1_0 : Int) (l1_1 : List Int) (l1_2 : List Int) (l1_3 : List (S41)) : Option (Bool) := if (l0_3.length : Int) = (l1_3.length : Int) then (deckleref10_One.l0 k 0 a0_0 l0_1 l0_2 l0_3 a1_0 l1_1 l1_2 l1_3) else (some false)
set_option maxHeartbeats 8000000 in
set_option maxRecDepth 100000 in
theorem deckleref10_One.calls (k : Nat) (a0_0 : Int) (A0_1 : Option Addr) (c0_1 : Nat) (l0_1 : List Int) (A0_2 : Option Addr) (c0_2 : Nat) (l0_2 : List Int) (A0_3 : Option Addr) (c0_3 : Nat) (l0_3 : List (S41)) (a1_0 : Int) (A1_1 : Option Addr) (c1_1 : Nat) (l1_1 : List Int) (A1_2 : Option Addr) (c1_2 : Nat) (l1_2 : List Int) (A1_3 : Option Addr) (c1_3 : Nat) (l1_3 : List (S41)) (r : Bool) (w : World) (hr0_1 : Kd.C (Kd.int .i64) w A0_1 l0_1.length l0_1) (hc0_1 : l0_1.length ≤ c0_1) (hr0_2 : Kd.C (Kd.int .i64) w A0_2 l0_2.length l0_2) (hc0_2 : l0_2.length ≤ c0_2) (hr0_3 : Kd.C k41 w A0_3 l0_3.length l0_3) (hc0_3 : l0_3.length ≤ c0_3) (hr1_1 : Kd.C (Kd.int .i64) w A1_1 l1_1.length l1_1) (hc1_1 : l1_1.length ≤ c1_1) (hr1_2 : Kd.C (Kd.int .i64) w A1_2 l1_2.length l1_2) (hc1_2 : l1_2.length ≤ c1_2) (hr1_3 : Kd.C k41 w A1_3 l1_3.length l1_3) (hc1_3 : l1_3.length ≤ c1_3) (h : deckleref10_One.f k a0_0 l0_1 l0_2 l0_3 a1_0 l1_1 l1_2 l1_3 = some r) :
    Calls Try.prog 30 #[.agg #[.int .i64 a0_0, .slice A0_1 l0_1.length c0_1, .slice A0_2 l0_2.length c0_2, .slice A0_3 l0_3.length c0_3], .agg #[.int .i64 a1_0, .slice A1_1 l1_1.length c1_1, .slice A1_2 l1_2.length c1_2, .slice A1_3 l1_3.length c1_3]] w fun e w' => e = .returned (.bool r) ∧ Below w.heap.size w w' := by
  have hu32 := Try.underlying32
  have hu41 := Try.underlying41
  have HR0_1 := Aside0.mk hr0_1
  have HC0_1 := Aside0.mk hc0_1
  clear hr0_1 hc0_1
  have HR0_2 := Aside0.mk hr0_2
  have HC0_2 := Aside0.mk hc0_2
  clear hr0_2 hc0_2
  have HR0_3 := Aside0.mk hr0_3
  have HC0_3 := Aside0.mk hc0_3
  clear hr0_3 hc0_3
  have HR1_1 := Aside0.mk hr1_1
  have HC1_1 := Aside0.mk hc1_1
  clear hr1_1 hc1_1
  have HR1_2 := Aside0.mk hr1_2
  have HC1_2 := Aside0.mk hc1_2
  clear hr1_2 hc1_2
  have HR1_3 := Aside0.mk hr1_3
  have HC1_3 := Aside0.mk hc1_3
  clear hr1_3 hc1_3
  have HB := Aside0.mk (Below.refl w.heap.size w)
  have H : (if (l0_3.length : Int) = (l1_3.length : Int) then (deckleref10_One.l0 k 0 a0_0 l0_1 l0_2 l0_3 a1_0 l1_1 l1_2 l1_3) else (some false)) = some r := h
  clear h
  by_cases c3 : (l0_3.length : Int) = (l1_3.length : Int)
  rotate_left
  · rw [if_neg c3] at H
    have c3b0 : ((l0_3.length : Int) == (l1_3.length : Int)) = false := beq_eq_false_iff_ne.mpr c3
    have c3b1 : ((l0_3.length : Int) != (l1_3.length : Int)) = true := bne_iff_ne.mpr c3
    have c3b2 : (l0_3.length == l1_3.length) = false := J41
    obtain rfl := Option.some.inj H
    go_enter Try.func30, Try.ntmps30
    go_wp2_with (first | ((with_reducible refine gate_dst (N := 2) rfl ?_); refine box_event ?hg (N := 2) ?hd (cs := #[.int .i64 a0_0, .slice A0_1 l0_1.length c0_1, .slice A0_2 l0_2.length c0_2, .slice A0_3 l0_3.length c0_3]) (t := 32) ?hr ?_; (case hd => rfl); (case hg => rfl); (case hr => first | (go_simp; done) | (go_simp; rfl)); intro gb433 hg w32 hbox hb; have n0_ := Aside0.mk (below_step J0 hb); have n1_ := Aside0.mk (hbox); have n2_ := Aside0.mk ((J18 : w.heap.size ≤ gb433)); have n3_ := Aside0.mk ((J18 : w.heap.size ≤ gb433)); clear HB; have HB := n0_; have BK433 := n1_; have GW433 := n2_; have GE433 := n3_; clear n0_ n1_ n2_ n3_; clear hb hbox hg) | ((with_reducible refine gate_dst (N := 3) rfl ?_); refine box_event ?hg (N := 3) ?hd (cs := #[.int .i64 a1_0, .slice A1_1 l1_1.length c1_1, .slice A1_2 l1_2.length c1_2, .slice A1_3 l1_3.length c1_3]) (t := 32) ?hr ?_; (case hd => rfl); (case hg => rfl); (case hr => first | (go_simp; done) | (go_simp; rfl)); intro gb434 hg w33 hbox hb; have n0_ := Aside0.mk (blk_below (g := gb433) (o := .cells #[.int .i64 a0_0, .slice A0_1 l0_1.length c0_1, .slice A0_2 l0_2.length c0_2, .slice A0_3 l0_3.length c0_3] 32 (0, 0)) (zk BK433.out) hb); have n1_ := Aside0.mk (below_step (zs1 GE433.out) hb); have n2_ := Aside0.mk (hbox); have n3_ := Aside0.mk ((J42 : w.heap.size ≤ gb434)); have n4_ := Aside0.mk ((J42 : w.heap.size ≤ gb434)); have n5_ := Aside0.mk ((J25 : gb433 ≠ gb434)); have n6_ := Aside0.mk ((J26 : gb434 ≠ gb433)); clear BK433; clear HB; have BK433 := n0_; have HB := n1_; have BK434 := n2_; have GW434 := n3_; have GE434 := n4_; have NB433_434 := n5_; have NB434_433 := n6_; clear n0_ n1_ n2_ n3_ n4_ n5_ n6_; clear hb hbox hg; have hnb34 := NB433_434.out; have hnc34 := NB434_433.out; have hcz35_0 : w33.cell? ⟨gb433, 0, none⟩ = some (.int .i64 a0_0) := (blk_cell BK433.out 0).trans rfl; have hcz35_1 : w33.cell? ⟨gb433, 1, none⟩ = some (.slice A0_1 l0_1.length c0_1) := (blk_cell BK433.out 1).trans rfl; have hcz35_2 : w33.cell? ⟨gb433, 2, none⟩ = some (.slice A0_2 l0_2.length c0_2) := (blk_cell BK433.out 2).trans rfl; have hcz35_3 : w33.cell? ⟨gb433, 3, none⟩ = some (.slice A0_3 l0_3.length c0_3) := (blk_cell BK433.out 3).trans rfl; have hfz35_0 := blk_frozen BK433.out 0; have hfz35_1 := blk_frozen BK433.out 1; have hfz35_2 := blk_frozen BK433.out 2; have hfz35_3 := blk_frozen BK433.out 3; have hcz36_0 : w33.cell? ⟨gb434, 0, none⟩ = some (.int .i64 a1_0) := (blk_cell BK434.out 0).trans rfl; have hcz36_1 : w33.cell? ⟨gb434, 1, none⟩ = some (.slice A1_1 l1_1.length c1_1) := (blk_cell BK434.out 1).trans rfl; have hcz36_2 : w33.cell? ⟨gb434, 2, none⟩ = some (.slice A1_2 l1_2.length c1_2) := (blk_cell BK434.out 2).trans rfl; have hcz36_3 : w33.cell? ⟨gb434, 3, none⟩ = some (.slice A1_3 l1_3.length c1_3) := (blk_cell BK434.out 3).trans rfl; have hfz36_0 := blk_frozen BK434.out 0; have hfz36_1 := blk_frozen BK434.out 1; have hfz36_2 := blk_frozen BK434.out 2; have hfz36_3 := blk_frozen BK434.out 3))
    repeat (go_quiet (first | ((with_reducible refine gate_dst (N := 2) rfl ?_); refine box_event ?hg (N := 2) ?hd (cs := #[.int .i64 a0_0, .slice A0_1 l0_1.length c0_1, .slice A0_2 l0_2.length c0_2, .slice A0_3 l0_3.length c0_3]) (t := 32) ?hr ?_; (case hd => rfl); (case hg => rfl); (case hr => first | (go_simp; done) | (go_simp; rfl)); intro gb433 hg w32 hbox hb; have n0_ := Aside0.mk (below_step J0 hb); have n1_ := Aside0.mk (hbox); have n2_ := Aside0.mk ((J18 : w.heap.size ≤ gb433)); have n3_ := Aside0.mk ((J18 : w.heap.size ≤ gb433)); clear HB; have HB := n0_; have BK433 := n1_; have GW433 := n2_; have GE433 := n3_; clear n0_ n1_ n2_ n3_; clear hb hbox hg) | ((with_reducible refine gate_dst (N := 3) rfl ?_); refine box_event ?hg (N := 3) ?hd (cs := #[.int .i64 a1_0, .slice A1_1 l1_1.length c1_1, .slice A1_2 l1_2.length c1_2, .slice A1_3 l1_3.length c1_3]) (t := 32) ?hr ?_; (case hd => rfl); (case hg => rfl); (case hr => first | (go_simp; done) | (go_simp; rfl)); intro gb434 hg w33 hbox hb; have n0_ := Aside0.mk (blk_below (g := gb433) (o := .cells #[.int .i64 a0_0, .slice A0_1 l0_1.length c0_1, .slice A0_2 l0_2.length c0_2, .slice A0_3 l0_3.length c0_3] 32 (0, 0)) (zk BK433.out) hb); have n1_ := Aside0.mk (below_step (zs1 GE433.out) hb); have n2_ := Aside0.mk (hbox); have n3_ := Aside0.mk ((J42 : w.heap.size ≤ gb434)); have n4_ := Aside0.mk ((J42 : w.heap.size ≤ gb434)); have n5_ := Aside0.mk ((J25 : gb433 ≠ gb434)); have n6_ := Aside0.mk ((J26 : gb434 ≠ gb433)); clear BK433; clear HB; have BK433 := n0_; have HB := n1_; have BK434 := n2_; have GW434 := n3_; have GE434 := n4_; have NB433_434 := n5_; have NB434_433 := n6_; clear n0_ n1_ n2_ n3_ n4_ n5_ n6_; clear hb hbox hg; have hnb34 := NB433_434.out; have hnc34 := NB434_433.out; have hcz35_0 : w33.cell? ⟨gb433, 0, none⟩ = some (.int .i64 a0_0) := (blk_cell BK433.out 0).trans rfl; have hcz35_1 : w33.cell? ⟨gb433, 1, none⟩ = some (.slice A0_1 l0_1.length c0_1) := (blk_cell BK433.out 1).trans rfl; have hcz35_2 : w33.cell? ⟨gb433, 2, none⟩ = some (.slice A0_2 l0_2.length c0_2) := (blk_cell BK433.out 2).trans rfl; have hcz35_3 : w33.cell? ⟨gb433, 3, none⟩ = some (.slice A0_3 l0_3.length c0_3) := (blk_cell BK433.out 3).trans rfl; have hfz35_0 := blk_frozen BK433.out 0; have hfz35_1 := blk_frozen BK433.out 1; have hfz35_2 := blk_frozen BK433.out 2; have hfz35_3 := blk_frozen BK433.out 3; have hcz36_0 : w33.cell? ⟨gb434, 0, none⟩ = some (.int .i64 a1_0) := (blk_cell BK434.out 0).trans rfl; have hcz36_1 : w33.cell? ⟨gb434, 1, none⟩ = some (.slice A1_1 l1_1.length c1_1) := (blk_cell BK434.out 1).trans rfl; have hcz36_2 : w33.cell? ⟨gb434, 2, none⟩ = some (.slice A1_2 l1_2.length c1_2) := (blk_cell BK434.out 2).trans rfl; have hcz36_3 : w33.cell? ⟨gb434, 3, none⟩ = some (.slice A1_3 l1_3.length c1_3) := (blk_cell BK434.out 3).trans rfl; have hfz36_0 := blk_frozen BK434.out 0; have hfz36_1 := blk_frozen BK434.out 1; have hfz36_2 := blk_frozen BK434.out 2; have hfz36_3 := blk_frozen BK434.out 3)); try go_wp2_with (first | ((with_reducible refine gate_dst (N := 2) rfl ?_); refine box_event ?hg (N := 2) ?hd (cs := #[.int .i64 a0_0, .slice A0_1 l0_1.length c0_1, .slice A0_2 l0_2.length c0_2, .slice A0_3 l0_3.length c0_3]) (t := 32) ?hr ?_; (case hd => rfl); (case hg => rfl); (case hr => first | (go_simp; done) | (go_simp; rfl)); intro gb433 hg w32 hbox hb; have n0_ := Aside0.mk (below_step J0 hb); have n1_ := Aside0.mk (hbox); have n2_ := Aside0.mk ((J18 : w.heap.size ≤ gb433)); have n3_ := Aside0.mk ((J18 : w.heap.size ≤ gb433)); clear HB; have HB := n0_; have BK433 := n1_; have GW433 := n2_; have GE433 := n3_; clear n0_ n1_ n2_ n3_; clear hb hbox hg) | ((with_reducible refine gate_dst (N := 3) rfl ?_); refine box_event ?hg (N := 3) ?hd (cs := #[.int .i64 a1_0, .slice A1_1 l1_1.length c1_1, .slice A1_2 l1_2.length c1_2, .slice A1_3 l1_3.length c1_3]) (t := 32) ?hr ?_; (case hd => rfl); (case hg => rfl); (case hr => first | (go_simp; done) | (go_simp; rfl)); intro gb434 hg w33 hbox hb; have n0_ := Aside0.mk (blk_below (g := gb433) (o := .cells #[.int .i64 a0_0, .slice A0_1 l0_1.length c0_1, .slice A0_2 l0_2.length c0_2, .slice A0_3 l0_3.length c0_3] 32 (0, 0)) (zk BK433.out) hb); have n1_ := Aside0.mk (below_step (zs1 GE433.out) hb); have n2_ := Aside0.mk (hbox); have n3_ := Aside0.mk ((J42 : w.heap.size ≤ gb434)); have n4_ := Aside0.mk ((J42 : w.heap.size ≤ gb434)); have n5_ := Aside0.mk ((J25 : gb433 ≠ gb434)); have n6_ := Aside0.mk ((J26 : gb434 ≠ gb433)); clear BK433; clear HB; have BK433 := n0_; have HB := n1_; have BK434 := n2_; have GW434 := n3_; have GE434 := n4_; have NB433_434 := n5_; have NB434_433 := n6_; clear n0_ n1_ n2_ n3_ n4_ n5_ n6_; clear hb hbox hg; have hnb34 := NB433_434.out; have hnc34 := NB434_433.out; have hcz35_0 : w33.cell? ⟨gb433, 0, none⟩ = some (.int .i64 a0_0) := (blk_cell BK433.out 0).trans rfl; have hcz35_1 : w33.cell? ⟨gb433, 1, none⟩ = some (.slice A0_1 l0_1.length c0_1) := (blk_cell BK433.out 1).trans rfl; have hcz35_2 : w33.cell? ⟨gb433, 2, none⟩ = some (.slice A0_2 l0_2.length c0_2) := (blk_cell BK433.out 2).trans rfl; have hcz35_3 : w33.cell? ⟨gb433, 3, none⟩ = some (.slice A0_3 l0_3.length c0_3) := (blk_cell BK433.out 3).trans rfl; have hfz35_0 := blk_frozen BK433.out 0; have hfz35_1 := blk_frozen BK433.out 1; have hfz35_2 := blk_frozen BK433.out 2; have hfz35_3 := blk_frozen BK433.out 3; have hcz36_0 : w33.cell? ⟨gb434, 0, none⟩ = some (.int .i64 a1_0) := (blk_cell BK434.out 0).trans rfl; have hcz36_1 : w33.cell? ⟨gb434, 1, none⟩ = some (.slice A1_1 l1_1.length c1_1) := (blk_cell BK434.out 1).trans rfl; have hcz36_2 : w33.cell? ⟨gb434, 2, none⟩ = some (.slice A1_2 l1_2.length c1_2) := (blk_cell BK434.out 2).trans rfl; have hcz36_3 : w33.cell? ⟨gb434, 3, none⟩ = some (.slice A1_3 l1_3.length c1_3) := (blk_cell BK434.out 3).trans rfl; have hfz36_0 := blk_frozen BK434.out 0; have hfz36_1 := blk_frozen BK434.out 1; have hfz36_2 := blk_frozen BK434.out 2; have hfz36_3 := blk_frozen BK434.out 3)))
    go_ret
    exact ⟨J3, J22⟩
  rw [if_pos c3] at H
  have c3b0 : ((l0_3.length : Int) == (l1_3.length : Int)) = true := beq_iff_eq.mpr c3
  have c3b1 : ((l0_3.length : Int) != (l1_3.length : Int)) = false := bne_eq_false_iff_eq.mpr c3
  have c3b2 : (l0_3.length == l1_3.length) = true := J41
  clear c3
  have H' := Aside0.mk H
  clear H
  go_enter Try.func30, Try.ntmps30
  go_wp2_with (first | ((with_reducible refine gate_dst (N := 2) rfl ?_); refine box_event ?hg (N := 2) ?hd (cs := #[.int .i64 a0_0, .slice A0_1 l0_1.length c0_1, .slice A0_2 l0_2.length c0_2, .slice A0_3 l0_3.length c0_3]) (t := 32) ?hr ?_; (case hd => rfl); (case hg => rfl); (case hr => first | (go_simp; done) | (go_simp; rfl)); intro gb433 hg w4 hbox hb; have n0_ := Aside0.mk (below_step J0 hb); have n1_ := Aside0.mk (hbox); have n2_ := Aside0.mk ((J18 : w.heap.size ≤ gb433)); have n3_ := Aside0.mk ((J18 : w.heap.size ≤ gb433)); clear HB; have HB := n0_; have BK433 := n1_; have GW433 := n2_; have GE433 := n3_; clear n0_ n1_ n2_ n3_; clear hb hbox hg) | ((with_reducible refine gate_dst (N := 3) rfl ?_); refine box_event ?hg (N := 3) ?hd (cs := #[.int .i64 a1_0, .slice A1_1 l1_1.length c1_1, .slice A1_2 l1_2.length c1_2, .slice A1_3 l1_3.length c1_3]) (t := 32) ?hr ?_; (case hd => rfl); (case hg => rfl); (case hr => first | (go_simp; done) | (go_simp; rfl)); intro gb434 hg w5 hbox hb; have n0_ := Aside0.mk (blk_below (g := gb433) (o := .cells #[.int .i64 a0_0, .slice A0_1 l0_1.length c0_1, .slice A0_2 l0_2.length c0_2, .slice A0_3 l0_3.length c0_3] 32 (0, 0)) (zk BK433.out) hb); have n1_ := Aside0.mk (below_step (zs1 GE433.out) hb); have n2_ := Aside0.mk (hbox); have n3_ := Aside0.mk ((J42 : w.heap.size ≤ gb434)); have n4_ := Aside0.mk ((J42 : w.heap.size ≤ gb434)); have n5_ := Aside0.mk ((J25 : gb433 ≠ gb434)); have n6_ := Aside0.mk ((J26 : gb434 ≠ gb433)); clear BK433; clear HB; have BK433 := n0_; have HB := n1_; have BK434 := n2_; have GW434 := n3_; have GE434 := n4_; have NB433_434 := n5_; have NB434_433 := n6_; clear n0_ n1_ n2_ n3_ n4_ n5_ n6_; clear hb hbox hg; have hnb6 := NB433_434.out; have hnc6 := NB434_433.out; have hcz7_0 : w5.cell? ⟨gb433, 0, none⟩ = some (.int .i64 a0_0) := (blk_cell BK433.out 0).trans rfl; have hcz7_1 : w5.cell? ⟨gb433, 1, none⟩ = some (.slice A0_1 l0_1.length c0_1) := (blk_cell BK433.out 1).trans rfl; have hcz7_2 : w5.cell? ⟨gb433, 2, none⟩ = some (.slice A0_2 l0_2.length c0_2) := (blk_cell BK433.out 2).trans rfl; have hcz7_3 : w5.cell? ⟨gb433, 3, none⟩ = some (.slice A0_3 l0_3.length c0_3) := (blk_cell BK433.out 3).trans rfl; have hfz7_0 := blk_frozen BK433.out 0; have hfz7_1 := blk_frozen BK433.out 1; have hfz7_2 := blk_frozen BK433.out 2; have hfz7_3 := blk_frozen BK433.out 3; have hcz8_0 : w5.cell? ⟨gb434, 0, none⟩ = some (.int .i64 a1_0) := (blk_cell BK434.out 0).trans rfl; have hcz8_1 : w5.cell? ⟨gb434, 1, none⟩ = some (.slice A1_1 l1_1.length c1_1) := (blk_cell BK434.out 1).trans rfl; have hcz8_2 : w5.cell? ⟨gb434, 2, none⟩ = some (.slice A1_2 l1_2.length c1_2) := (blk_cell BK434.out 2).trans rfl; have hcz8_3 : w5.cell? ⟨gb434, 3, none⟩ = some (.slice A1_3 l1_3.length c1_3) := (blk_cell BK434.out 3).trans rfl; have hfz8_0 := blk_frozen BK434.out 0; have hfz8_1 := blk_frozen BK434.out 1; have hfz8_2 := blk_frozen BK434.out 2; have hfz8_3 := blk_frozen BK434.out 3))
  repeat (go_quiet (first | ((with_reducible refine gate_dst (N := 2) rfl ?_); refine box_event ?hg (N := 2) ?hd (cs := #[.int .i64 a0_0, .slice A0_1 l0_1.length c0_1, .slice A0_2 l0_2.length c0_2, .slice A0_3 l0_3.length c0_3]) (t := 32) ?hr ?_; (case hd => rfl); (case hg => rfl); (case hr => first | (go_simp; done) | (go_simp; rfl)); intro gb433 hg w4 hbox hb; have n0_ := Aside0.mk (below_step J0 hb); have n1_ := Aside0.mk (hbox); have n2_ := Aside0.mk ((J18 : w.heap.size ≤ gb433)); have n3_ := Aside0.mk ((J18 : w.heap.size ≤ gb433)); clear HB; have HB := n0_; have BK433 := n1_; have GW433 := n2_; have GE433 := n3_; clear n0_ n1_ n2_ n3_; clear hb hbox hg) | ((with_reducible refine gate_dst (N := 3) rfl ?_); refine box_event ?hg (N := 3) ?hd (cs := #[.int .i64 a1_0, .slice A1_1 l1_1.length c1_1, .slice A1_2 l1_2.length c1_2, .slice A1_3 l1_3.length c1_3]) (t := 32) ?hr ?_; (case hd => rfl); (case hg => rfl); (case hr => first | (go_simp; done) | (go_simp; rfl)); intro gb434 hg w5 hbox hb; have n0_ := Aside0.mk (blk_below (g := gb433) (o := .cells #[.int .i64 a0_0, .slice A0_1 l0_1.length c0_1, .slice A0_2 l0_2.length c0_2, .slice A0_3 l0_3.length c0_3] 32 (0, 0)) (zk BK433.out) hb); have n1_ := Aside0.mk (below_step (zs1 GE433.out) hb); have n2_ := Aside0.mk (hbox); have n3_ := Aside0.mk ((J42 : w.heap.size ≤ gb434)); have n4_ := Aside0.mk ((J42 : w.heap.size ≤ gb434)); have n5_ := Aside0.mk ((J25 : gb433 ≠ gb434)); have n6_ := Aside0.mk ((J26 : gb434 ≠ gb433)); clear BK433; clear HB; have BK433 := n0_; have HB := n1_; have BK434 := n2_; have GW434 := n3_; have GE434 := n4_; have NB433_434 := n5_; have NB434_433 := n6_; clear n0_ n1_ n2_ n3_ n4_ n5_ n6_; clear hb hbox hg; have hnb6 := NB433_434.out; have hnc6 := NB434_433.out; have hcz7_0 : w5.cell? ⟨gb433, 0, none⟩ = some (.int .i64 a0_0) := (blk_cell BK433.out 0).trans rfl; have hcz7_1 : w5.cell? ⟨gb433, 1, none⟩ = some (.slice A0_1 l0_1.length c0_1) := (blk_cell BK433.out 1).trans rfl; have hcz7_2 : w5.cell? ⟨gb433, 2, none⟩ = some (.slice A0_2 l0_2.length c0_2) := (blk_cell BK433.out 2).trans rfl; have hcz7_3 : w5.cell? ⟨gb433, 3, none⟩ = some (.slice A0_3 l0_3.length c0_3) := (blk_cell BK433.out 3).trans rfl; have hfz7_0 := blk_frozen BK433.out 0; have hfz7_1 := blk_frozen BK433.out 1; have hfz7_2 := blk_frozen BK433.out 2; have hfz7_3 := blk_frozen BK433.out 3; have hcz8_0 : w5.cell? ⟨gb434, 0, none⟩ = some (.int .i64 a1_0) := (blk_cell BK434.out 0).trans rfl; have hcz8_1 : w5.cell? ⟨gb434, 1, none⟩ = some (.slice A1_1 l1_1.length c1_1) := (blk_cell BK434.out 1).trans rfl; have hcz8_2 : w5.cell? ⟨gb434, 2, none⟩ = some (.slice A1_2 l1_2.length c1_2) := (blk_cell BK434.out 2).trans rfl; have hcz8_3 : w5.cell? ⟨gb434, 3, none⟩ = some (.slice A1_3 l1_3.length c1_3) := (blk_cell BK434.out 3).trans rfl; have hfz8_0 := blk_frozen BK434.out 0; have hfz8_1 := blk_frozen BK434.out 1; have hfz8_2 := blk_frozen BK434.out 2; have hfz8_3 := blk_frozen BK434.out 3)); try go_wp2_with (first | ((with_reducible refine gate_dst (N := 2) rfl ?_); refine box_event ?hg (N := 2) ?hd (cs := #[.int .i64 a0_0, .slice A0_1 l0_1.length c0_1, .slice A0_2 l0_2.length c0_2, .slice A0_3 l0_3.length c0_3]) (t := 32) ?hr ?_; (case hd => rfl); (case hg => rfl); (case hr => first | (go_simp; done) | (go_simp; rfl)); intro gb433 hg w4 hbox hb; have n0_ := Aside0.mk (below_step J0 hb); have n1_ := Aside0.mk (hbox); have n2_ := Aside0.mk ((J18 : w.heap.size ≤ gb433)); have n3_ := Aside0.mk ((J18 : w.heap.size ≤ gb433)); clear HB; have HB := n0_; have BK433 := n1_; have GW433 := n2_; have GE433 := n3_; clear n0_ n1_ n2_ n3_; clear hb hbox hg) | ((with_reducible refine gate_dst (N := 3) rfl ?_); refine box_event ?hg (N := 3) ?hd (cs := #[.int .i64 a1_0, .slice A1_1 l1_1.length c1_1, .slice A1_2 l1_2.length c1_2, .slice A1_3 l1_3.length c1_3]) (t := 32) ?hr ?_; (case hd => rfl); (case hg => rfl); (case hr => first | (go_simp; done) | (go_simp; rfl)); intro gb434 hg w5 hbox hb; have n0_ := Aside0.mk (blk_below (g := gb433) (o := .cells #[.int .i64 a0_0, .slice A0_1 l0_1.length c0_1, .slice A0_2 l0_2.length c0_2, .slice A0_3 l0_3.length c0_3] 32 (0, 0)) (zk BK433.out) hb); have n1_ := Aside0.mk (below_step (zs1 GE433.out) hb); have n2_ := Aside0.mk (hbox); have n3_ := Aside0.mk ((J42 : w.heap.size ≤ gb434)); have n4_ := Aside0.mk ((J42 : w.heap.size ≤ gb434)); have n5_ := Aside0.mk ((J25 : gb433 ≠ gb434)); have n6_ := Aside0.mk ((J26 : gb434 ≠ gb433)); clear BK433; clear HB; have BK433 := n0_; have HB := n1_; have BK434 := n2_; have GW434 := n3_; have GE434 := n4_; have NB433_434 := n5_; have NB434_433 := n6_; clear n0_ n1_ n2_ n3_ n4_ n5_ n6_; clear hb hbox hg; have hnb6 := NB433_434.out; have hnc6 := NB434_433.out; have hcz7_0 : w5.cell? ⟨gb433, 0, none⟩ = some (.int .i64 a0_0) := (blk_cell BK433.out 0).trans rfl; have hcz7_1 : w5.cell? ⟨gb433, 1, none⟩ = some (.slice A0_1 l0_1.length c0_1) := (blk_cell BK433.out 1).trans rfl; have hcz7_2 : w5.cell? ⟨gb433, 2, none⟩ = some (.slice A0_2 l0_2.length c0_2) := (blk_cell BK433.out 2).trans rfl; have hcz7_3 : w5.cell? ⟨gb433, 3, none⟩ = some (.slice A0_3 l0_3.length c0_3) := (blk_cell BK433.out 3).trans rfl; have hfz7_0 := blk_frozen BK433.out 0; have hfz7_1 := blk_frozen BK433.out 1; have hfz7_2 := blk_frozen BK433.out 2; have hfz7_3 := blk_frozen BK433.out 3; have hcz8_0 : w5.cell? ⟨gb434, 0, none⟩ = some (.int .i64 a1_0) := (blk_cell BK434.out 0).trans rfl; have hcz8_1 : w5.cell? ⟨gb434, 1, none⟩ = some (.slice A1_1 l1_1.length c1_1) := (blk_cell BK434.out 1).trans rfl; have hcz8_2 : w5.cell? ⟨gb434, 2, none⟩ = some (.slice A1_2 l1_2.length c1_2) := (blk_cell BK434.out 2).trans rfl; have hcz8_3 : w5.cell? ⟨gb434, 3, none⟩ = some (.slice A1_3 l1_3.length c1_3) := (blk_cell BK434.out 3).trans rfl; have hfz8_0 := blk_frozen BK434.out 0; have hfz8_1 := blk_frozen BK434.out 1; have hfz8_2 := blk_frozen BK434.out 2; have hfz8_3 := blk_frozen BK434.out 3)))
  go_loopg [5] k (fun kq v5 w' => ∃ (x5_1 : Int), v5 = .int .i64 x5_1 ∧ Aside0 (deckleref10_One.l0 kq x5_1 a0_0 l0_1 l0_2 l0_3 a1_0 l1_1 l1_2 l1_3 = some r) ∧ Aside0 (kq ≤ k) ∧ Aside0 (w'.heap[gb433]? = some (.cells #[.int .i64 a0_0, (.slice A0_1 l0_1.length c0_1), (.slice A0_2 l0_2.length c0_2), (.slice A0_3 l0_3.length c0_3)] 32 (0, 0))) ∧ Aside0 (w'.heap[gb434]? = some (.cells #[.int .i64 a1_0, (.slice A1_1 l1_1.length c1_1), (.slice A1_2 l1_2.length c1_2), (.slice A1_3 l1_3.length c1_3)] 32 (0, 0))) ∧ Aside0 (Below w.heap.size w w'))
  case atStart => exact ⟨(0), J4, H', ⟨Nat.le_refl _⟩, ⟨J92⟩, ⟨J93⟩, ⟨J22⟩⟩
  case round =>
    clear H'
    try clear c1
    try clear p2
    try clear c3
    try clear c3b0
    try clear c3b1
    try clear c3b2
    try clear c6
    try clear hcz7_0
    try clear hcz7_1
    try clear hcz7_2
    try clear hcz7_3
    try clear hcz8_0
    try clear hcz8_1
    try clear hcz8_2
    try clear hcz8_3
    try clear hfz7_0
    try clear hfz7_1
    try clear hfz7_2
    try clear hfz7_3
    try clear hfz8_0
    try clear hfz8_1
    try clear hfz8_2
    try clear hfz8_3
    obtain ⟨x5_1, rfl, HA, HK1, BK433, BK434, HB⟩ := hrel
    cases gk with
    | zero => exact absurd HA.out (by simp [deckleref10_One.l0])
    | succ k1 =>
      have H := HA.out
      clear HA
      simp only [deckleref10_One.l0] at H
      by_cases c9 : x5_1 < (l0_3.length : Int)
      rotate_left
      · rw [if_neg c9] at H
        have c9b0 := decide_eq_false c9
        clear c9
        by_cases c19 : a0_0 = a1_0
        · rw [if_pos c19] at H
          have c19b0 : (a0_0 == a1_0) = true := beq_iff_eq.mpr c19
          have c19b1 : (a0_0 != a1_0) = false := bne_eq_false_iff_eq.mpr c19
          clear c19
          replace H := Option.bind_eq_some_iff.mp H
          obtain ⟨t437, A200, H⟩ := H
          have A20 := Aside0.mk A200
          clear A200
          by_cases c21 : t437 = true
          · subst c21
            have H1 : ((deckleref01_Same.f k1 l0_2 l1_2).bind fun t438 => (some t438)) = some r := J17
            clear H
            have H := H1
            clear H1
            replace H := Option.bind_eq_some_iff.mp H
            obtain ⟨t438, A220, H⟩ := H
            have A22 := Aside0.mk A220
            clear A220
            obtain rfl := Option.some.inj H
            have hnb23 := NB433_434.out
            have hnc23 := NB434_433.out
            obtain ⟨hcz24_0, hcz24_1, hcz24_2, hcz24_3, hfz24_0, hfz24_1, hfz24_2, hfz24_3⟩ := cz4 BK433.out
            obtain ⟨hcz25_0, hcz25_1, hcz25_2, hcz25_3, hfz25_0, hfz25_1, hfz25_2, hfz25_3⟩ := cz4 BK434.out
            go_wp2_with (first | (go_at_call 45; (with_reducible refine (deckleref01_Same.calls k1 _ _ l0_1 _ _ l1_1 true _ ?side1 ?side2 ?side3 ?side4 A20.out).mono ?_); (case side1 => repeat (first | exact (Kd.C_below HR0_1.out HB.out) | (with_reducible refine Kd.C_alloc ?_ _) | (with_reducible refine Kd.C_drewN ?_ _) | (with_reducible refine Kd.C_drew ?_))); (case side2 => exact HC0_1.out); (case side3 => repeat (first | exact (Kd.C_below HR1_1.out HB.out) | (with_reducible refine Kd.C_alloc ?_ _) | (with_reducible refine Kd.C_drewN ?_ _) | (with_reducible refine Kd.C_drew ?_))); (case side4 => exact HC1_1.out); rintro e w' ⟨rfl, ⟨nd, rfl⟩⟩; (try first | exact ⟨rfl, _, World.drewN_drewN _ _ _⟩ | exact ⟨rfl, _, Eq.trans (World.drewN_drewN _ _ _) (congrArg (World.drewN _) (Nat.add_assoc _ _ _))⟩)) | (go_at_call 45; (with_reducible refine (deckleref01_Same.calls k1 _ _ l0_2 _ _ l1_2 t438 _ ?side1 ?side2 ?side3 ?side4 A22.out).mono ?_); (case side1 => repeat (first | exact (Kd.C_below HR0_2.out (zs2 GE433.out GE434.out)) | (with_reducible refine Kd.C_alloc ?_ _) | (with_reducible refine Kd.C_drewN ?_ _) | (with_reducible refine Kd.C_drew ?_))); (case side2 => exact HC0_2.out); (case side3 => repeat (first | exact (Kd.C_below HR1_2.out (zs2 GE433.out GE434.out)) | (with_reducible refine Kd.C_alloc ?_ _) | (with_reducible refine Kd.C_drewN ?_ _) | (with_reducible refine Kd.C_drew ?_))); (case side4 => exact HC1_2.out); rintro e w' ⟨rfl, ⟨nd, rfl⟩⟩; (try first | exact ⟨rfl, _, World.drewN_drewN _ _ _⟩ | exact ⟨rfl, _, Eq.trans (World.drewN_drewN _ _ _) (congrArg (World.drewN _) (Nat.add_assoc _ _ _))⟩)))
            repeat (go_quiet (first | (go_at_call 45; (with_reducible refine (deckleref01_Same.calls k1 _ _ l0_1 _ _ l1_1 true _ ?side1 ?side2 ?side3 ?side4 A20.out).mono ?_); (case side1 => repeat (first | exact (Kd.C_below HR0_1.out HB.out) | (with_reducible refine Kd.C_alloc ?_ _) | (with_reducible refine Kd.C_drewN ?_ _) | (with_reducible refine Kd.C_drew ?_))); (case side2 => exact HC0_1.out); (case side3 => repeat (first | exact (Kd.C_below HR1_1.out HB.out) | (with_reducible refine Kd.C_alloc ?_ _) | (with_reducible refine Kd.C_drewN ?_ _) | (with_reducible refine Kd.C_drew ?_))); (case side4 => exact HC1_1.out); rintro e w' ⟨rfl, ⟨nd, rfl⟩⟩; (try first | exact ⟨rfl, _, World.drewN_drewN _ _ _⟩ | exact ⟨rfl, _, Eq.trans (World.drewN_drewN _ _ _) (congrArg (World.drewN _) (Nat.add_assoc _ _ _))⟩)) | (go_at_call 45; (with_reducible refine (deckleref01_Same.calls k1 _ _ l0_2 _ _ l1_2 t438 _ ?side1 ?side2 ?side3 ?side4 A22.out).mono ?_); (case side1 => repeat (first | exact (Kd.C_below HR0_2.out (zs2 GE433.out GE434.out)) | (with_reducible refine Kd.C_alloc ?_ _) | (with_reducible refine Kd.C_drewN ?_ _) | (with_reducible refine Kd.C_drew ?_))); (case side2 => exact HC0_2.out); (case side3 => repeat (first | exact (Kd.C_below HR1_2.out (zs2 GE433.out GE434.out)) | (with_reducible refine Kd.C_alloc ?_ _) | (with_reducible refine Kd.C_drewN ?_ _) | (with_reducible refine Kd.C_drew ?_))); (case side4 => exact HC1_2.out); rintro e w' ⟨rfl, ⟨nd, rfl⟩⟩; (try first | exact ⟨rfl, _, World.drewN_drewN _ _ _⟩ | exact ⟨rfl, _, Eq.trans (World.drewN_drewN _ _ _) (congrArg (World.drewN _) (Nat.add_assoc _ _ _))⟩))); try go_wp2_with (first | (go_at_call 45; (with_reducible refine (deckleref01_Same.calls k1 _ _ l0_1 _ _ l1_1 true _ ?side1 ?side2 ?side3 ?side4 A20.out).mono ?_); (case side1 => repeat (first | exact (Kd.C_below HR0_1.out HB.out) | (with_reducible refine Kd.C_alloc ?_ _) | (with_reducible refine Kd.C_drewN ?_ _) | (with_reducible refine Kd.C_drew ?_))); (case side2 => exact HC0_1.out); (case side3 => repeat (first | exact (Kd.C_below HR1_1.out HB.out) | (with_reducible refine Kd.C_alloc ?_ _) | (with_reducible refine Kd.C_drewN ?_ _) | (with_reducible refine Kd.C_drew ?_))); (case side4 => exact HC1_1.out); rintro e w' ⟨rfl, ⟨nd, rfl⟩⟩; (try first | exact ⟨rfl, _, World.drewN_drewN _ _ _⟩ | exact ⟨rfl, _, Eq.trans (World.drewN_drewN _ _ _) (congrArg (World.drewN _) (Nat.add_assoc _ _ _))⟩)) | (go_at_call 45; (with_reducible refine (deckleref01_Same.calls k1 _ _ l0_2 _ _ l1_2 t438 _ ?side1 ?side2 ?side3 ?side4 A22.out).mono ?_); (case side1 => repeat (first | exact (Kd.C_below HR0_2.out (zs2 GE433.out GE434.out)) | (with_reducible refine Kd.C_alloc ?_ _) | (with_reducible refine Kd.C_drewN ?_ _) | (with_reducible refine Kd.C_drew ?_))); (case side2 => exact HC0_2.out); (case side3 => repeat (first | exact (Kd.C_below HR1_2.out (zs2 GE433.out GE434.out)) | (with_reducible refine Kd.C_alloc ?_ _) | (with_reducible refine Kd.C_drewN ?_ _) | (with_reducible refine Kd.C_drew ?_))); (case side4 => exact HC1_2.out); rintro e w' ⟨rfl, ⟨nd, rfl⟩⟩; (try first | exact ⟨rfl, _, World.drewN_drewN _ _ _⟩ | exact ⟨rfl, _, Eq.trans (World.drewN_drewN _ _ _) (congrArg (World.drewN _) (Nat.add_assoc _ _ _))⟩))))
            go_ret
            exact ⟨J3, J22⟩
          · replace c21 := Bool.eq_false_iff.mpr c21
            subst c21
            have H1 : (some false) = some r := J10
            clear H
            have H := H1
            clear H1
            obtain rfl := Option.some.inj H
            have hnb26 := NB433_434.out
            have hnc26 := NB434_433.out
            obtain ⟨hcz27_0, hcz27_1, hcz27_2, hcz27_3, hfz27_0, hfz27_1, hfz27_2, hfz27_3⟩ := cz4 BK433.out
            obtain ⟨hcz28_0, hcz28_1, hcz28_2, hcz28_3, hfz28_0, hfz28_1, hfz28_2, hfz28_3⟩ := cz4 BK434.out
            go_wp2_with (first | (go_at_call 45; (with_reducible refine (deckleref01_Same.calls k1 _ _ l0_1 _ _ l1_1 false _ ?side1 ?side2 ?side3 ?side4 A20.out).mono ?_); (case side1 => repeat (first | exact (Kd.C_below HR0_1.out HB.out) | (with_reducible refine Kd.C_alloc ?_ _) | (with_reducible refine Kd.C_drewN ?_ _) | (with_reducible refine Kd.C_drew ?_))); (case side2 => exact HC0_1.out); (case side3 => repeat (first | exact (Kd.C_below HR1_1.out HB.out) | (with_reducible refine Kd.C_alloc ?_ _) | (with_reducible refine Kd.C_drewN ?_ _) | (with_reducible refine Kd.C_drew ?_))); (case side4 => exact HC1_1.out); rintro e w' ⟨rfl, ⟨nd, rfl⟩⟩; (try first | exact ⟨rfl, _, World.drewN_drewN _ _ _⟩ | exact ⟨rfl, _, Eq.trans (World.drewN_drewN _ _ _) (congrArg (World.drewN _) (Nat.add_assoc _ _ _))⟩)))
            repeat (go_quiet (first | (go_at_call 45; (with_reducible refine (deckleref01_Same.calls k1 _ _ l0_1 _ _ l1_1 false _ ?side1 ?side2 ?side3 ?side4 A20.out).mono ?_); (case side1 => repeat (first | exact (Kd.C_below HR0_1.out HB.out) | (with_reducible refine Kd.C_alloc ?_ _) | (with_reducible refine Kd.C_drewN ?_ _) | (with_reducible refine Kd.C_drew ?_))); (case side2 => exact HC0_1.out); (case side3 => repeat (first | exact (Kd.C_below HR1_1.out HB.out) | (with_reducible refine Kd.C_alloc ?_ _) | (with_reducible refine Kd.C_drewN ?_ _) | (with_reducible refine Kd.C_drew ?_))); (case side4 => exact HC1_1.out); rintro e w' ⟨rfl, ⟨nd, rfl⟩⟩; (try first | exact ⟨rfl, _, World.drewN_drewN _ _ _⟩ | exact ⟨rfl, _, Eq.trans (World.drewN_drewN _ _ _) (congrArg (World.drewN _) (Nat.add_assoc _ _ _))⟩))); try go_wp2_with (first | (go_at_call 45; (with_reducible refine (deckleref01_Same.calls k1 _ _ l0_1 _ _ l1_1 false _ ?side1 ?side2 ?side3 ?side4 A20.out).mono ?_); (case side1 => repeat (first | exact (Kd.C_below HR0_1.out HB.out) | (with_reducible refine Kd.C_alloc ?_ _) | (with_reducible refine Kd.C_drewN ?_ _) | (with_reducible refine Kd.C_drew ?_))); (case side2 => exact HC0_1.out); (case side3 => repeat (first | exact (Kd.C_below HR1_1.out HB.out) | (with_reducible refine Kd.C_alloc ?_ _) | (with_reducible refine Kd.C_drewN ?_ _) | (with_reducible refine Kd.C_drew ?_))); (case side4 => exact HC1_1.out); rintro e w' ⟨rfl, ⟨nd, rfl⟩⟩; (try first | exact ⟨rfl, _, World.drewN_drewN _ _ _⟩ | exact ⟨rfl, _, Eq.trans (World.drewN_drewN _ _ _) (congrArg (World.drewN _) (Nat.add_assoc _ _ _))⟩))))
            go_ret
            exact ⟨J3, J22⟩
        · rw [if_neg c19] at H
          have c19b0 : (a0_0 == a1_0) = false := beq_eq_false_iff_ne.mpr c19
          have c19b1 : (a0_0 != a1_0) = true := bne_iff_ne.mpr c19
          obtain rfl := Option.some.inj H
          have hnb29 := NB433_434.out
          have hnc29 := NB434_433.out
          obtain ⟨hcz30_0, hcz30_1, hcz30_2, hcz30_3, hfz30_0, hfz30_1, hfz30_2, hfz30_3⟩ := cz4 BK433.out
          obtain ⟨hcz31_0, hcz31_1, hcz31_2, hcz31_3, hfz31_0, hfz31_1, hfz31_2, hfz31_3⟩ := cz4 BK434.out
          go_wp2
          repeat (go_quiet (fail); try go_wp2)
          go_ret
          exact ⟨J3, J22⟩
      rw [if_pos c9] at H
      have c9b0 := decide_eq_true c9
      clear c9
      by_cases c10 : 0 ≤ x5_1
      rotate_left
      · rw [if_neg c10] at H
        exact absurd H J28
      rw [if_pos c10] at H
      have c10b0 := decide_eq_true c10
      clear c10
      by_cases c11 : x5_1 < (l1_3.length : Int)
      rotate_left
      · rw [if_neg c11] at H
        exact absurd H J28
      rw [if_pos c11] at H
      have c11b0 := decide_eq_true c11
      clear c11
      by_cases c12 : (!(((rd_T41 l0_3 x5_1).f0) == ((rd_T41 l1_3 x5_1).f0)) || (!(((rd_T41 l0_3 x5_1).f1) == ((rd_T41 l1_3 x5_1).f1)))) = true
      · rw [if_pos c12] at H
        have c12b0 : (!(((rd_T41 l0_3 x5_1).f0) == ((rd_T41 l1_3 x5_1).f0)) || (!(((rd_T41 l0_3 x5_1).f1) == ((rd_T41 l1_3 x5_1).f1)))) = true := c12
        clear c12
        obtain rfl := Option.some.inj H
        have hnb13 := NB433_434.out
        have hnc13 := NB434_433.out
        obtain ⟨hcz14_0, hcz14_1, hcz14_2, hcz14_3, hfz14_0, hfz14_1, hfz14_2, hfz14_3⟩ := cz4 BK433.out
        have p435 : 0 ≤ (x5_1 : Int) := of_decide_eq_true J2
        have q435 : x5_1 < (l0_3.length : Int) := of_decide_eq_true J2
        obtain ⟨ad435, e435, hx435_0, hx435_1⟩ := at_T41 HR0_3.out x5_1 p435 q435
        cases e435
        replace hx435_0 := (HB.out.cell (World.block_lt_of_cell? w _ hx435_0)).trans hx435_0
        replace hx435_1 := (HB.out.cell (World.block_lt_of_cell? w _ hx435_1)).trans hx435_1
        replace p435 := eq_true p435
        replace q435 := eq_true q435
        obtain ⟨hcz15_0, hcz15_1, hcz15_2, hcz15_3, hfz15_0, hfz15_1, hfz15_2, hfz15_3⟩ := cz4 BK434.out
        have p436 : 0 ≤ (x5_1 : Int) := of_decide_eq_true J2
        have q436 : x5_1 < (l1_3.length : Int) := of_decide_eq_true J2
        obtain ⟨ad436, e436, hx436_0, hx436_1⟩ := at_T41 HR1_3.out x5_1 p436 q436
        cases e436
        replace hx436_0 := (HB.out.cell (World.block_lt_of_cell? w _ hx436_0)).trans hx436_0
        replace hx436_1 := (HB.out.cell (World.block_lt_of_cell? w _ hx436_1)).trans hx436_1
        replace p436 := eq_true p436
        replace q436 := eq_true q436
        go_wp2
        repeat (go_quiet (fail); try go_wp2)
        go_ret
        exact ⟨J3, J22⟩
      rw [if_neg c12] at H
      have c12b0 : (!(((rd_T41 l0_3 x5_1).f0) == ((rd_T41 l1_3 x5_1).f0)) || (!(((rd_T41 l0_3 x5_1).f1) == ((rd_T41 l1_3 x5_1).f1)))) = false := by simpa using c12
      clear c12
      have H' := Aside0.mk H
      clear H
      have hnb16 := NB433_434.out
      have hnc16 := NB434_433.out
      obtain ⟨hcz17_0, hcz17_1, hcz17_2, hcz17_3, hfz17_0, hfz17_1, hfz17_2, hfz17_3⟩ := cz4 BK433.out
      have p435 : 0 ≤ (x5_1 : Int) := of_decide_eq_true J2
      have q435 : x5_1 < (l0_3.length : Int) := of_decide_eq_true J2
      obtain ⟨ad435, e435, hx435_0, hx435_1⟩ := at_T41 HR0_3.out x5_1 p435 q435
      cases e435
      replace hx435_0 := (HB.out.cell (World.block_lt_of_cell? w _ hx435_0)).trans hx435_0
      replace hx435_1 := (HB.out.cell (World.block_lt_of_cell? w _ hx435_1)).trans hx435_1
      replace p435 := eq_true p435
      replace q435 := eq_true q435
      obtain ⟨hcz18_0, hcz18_1, hcz18_2, hcz18_3, hfz18_0, hfz18_1, hfz18_2, hfz18_3⟩ := cz4 BK434.out
      have p436 : 0 ≤ (x5_1 : Int) := of_decide_eq_true J2
      have q436 : x5_1 < (l1_3.length : Int) := of_decide_eq_true J2
      obtain ⟨ad436, e436, hx436_0, hx436_1⟩ := at_T41 HR1_3.out x5_1 p436 q436
      cases e436
      replace hx436_0 := (HB.out.cell (World.block_lt_of_cell? w _ hx436_0)).trans hx436_0
      replace hx436_1 := (HB.out.cell (World.block_lt_of_cell? w _ hx436_1)).trans hx436_1
      replace p436 := eq_true p436
      replace q436 := eq_true q436
      go_wp2
      repeat (go_quiet (fail); try go_wp2)
      go_roundg k1
      case measure => have := HK1.out; omega
      case rel => exact ⟨(wrap64 (x5_1 + 1)), J4, H', ⟨J51⟩, ⟨J92⟩, ⟨J93⟩, ⟨J22⟩⟩
end Go.Proofs.Ytgbmbcippldhnaa.HArrayTells
