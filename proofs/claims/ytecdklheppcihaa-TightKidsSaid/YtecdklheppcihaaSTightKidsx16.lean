/- What the Go functions of this claim answer, told as functions of numbers and lists, and that other memory stays as it was: words and walks, shortened by a program. -/
import Derived.Test.YtecdklheppcihaaSTightKidsx0
import Derived.Test.YtecdklheppcihaaSTightKidsx11
import Derived.Test.YtecdklheppcihaaSTightKidsx12
import Derived.Test.YtecdklheppcihaaSTightKidsx14
import Derived.Test.YtecdklheppcihaaSTightKidsx15
namespace Go.Proofs.Ytecdklheppcihaa.HTightNumbers
open Go.RowKit Go.Proofs.YtecdklheppcihaaW.PrintWords Go.Proofs.YtecdklheppcihaaW.PrintLast Go.Proofs.YtecdklheppcihaaW.PrintMore
attribute [local go_sem] max2_int min2_int max_two min_two max_three min_three max_four min_four
set_option linter.unusedVariables false
set_option linter.unusedSimpArgs false
mutual
def decklelaw11_TightKids.j0 : Nat → List Int → List (List (S30)) → Bool → Bool → Option (Bool)
  | 0, _, _, _, _ => none
  | k + 1, x0, x1, x5, x28 => if x28 = true then (some x5) else (decklelaw11_TightKids.l0 k x0 x1 x5 0 ([] : List (List (S30))) 0)
def decklelaw11_TightKids.l0 : Nat → List Int → List (List (S30)) → Bool → Int → List (List (S30)) → Int → Option (Bool)
  | 0, _, _, _, _, _, _ => none
  | k + 1, x0, x1, x5, x6, x7, x8 => if x8 < (x1.length : Int) then (if 0 ≤ x8 then ((decklelaw10_Few.f k (rd_L5 x1 x8)).bind fun t609 => (if t609 = true then (decklelaw11_TightKids.j2 k x0 x1 x5 (wrap64 (x6 + ((rd_L5 x1 x8).length : Int))) x7 x8 (decide ((wrap64 (x6 + ((rd_L5 x1 x8).length : Int))) > 200))) else (decklelaw11_TightKids.j2 k x0 x1 x5 (wrap64 (x6 + ((rd_L5 x1 x8).length : Int))) x7 x8 true))) else (none)) else ((array_Nest.f k x0 x1).bind fun bt619 => ((array_Nest.f k x0 x7).bind fun bt623 => (if bt619.2 = true then (decklelaw11_TightKids.j3 k x5 bt619.1 bt619.2 bt623.1 (!bt623.2)) else (decklelaw11_TightKids.j3 k x5 bt619.1 bt619.2 bt623.1 true))))
def decklelaw11_TightKids.j2 : Nat → List Int → List (List (S30)) → Bool → Int → List (List (S30)) → Int → Bool → Option (Bool)
  | 0, _, _, _, _, _, _, _ => none
  | k + 1, x0, x1, x5, x6, x7, x8, x53 => if x53 = true then (some x5) else (if 0 ≤ x8 then (if x8 < (x1.length : Int) then ((tight_Make.f k (rd_L5 x1 x8)).bind fun bt612 => (if bt612.2 = true then (if x7.length < 5864062014805 then (decklelaw11_TightKids.l0 k x0 x1 x5 x6 (x7 ++ [bt612.1]) (wrap64 (x8 + 1))) else (none)) else (some x5))) else (none)) else (none))
def decklelaw11_TightKids.j3 : Nat → Bool → List (S30) → Bool → List (S30) → Bool → Option (Bool)
  | 0, _, _, _, _, _ => none
  | k + 1, x5, x12, x13, x14, x87 => if x87 = true then (if x5 = true then (some (!x13)) else (none)) else ((tight_Make.f k x12).bind fun bt627 => ((tight_Make.f k x14).bind fun bt631 => (if x5 = true then (if bt627.2 = true then (if bt631.2 = true then ((deckleref10_Same.f k bt627.1 bt631.1).bind fun t635 => (some t635)) else (none)) else (none)) else (none))))
end
def decklelaw11_TightKids.f (k : Nat) (l0 : List Int) (l1 : List (List (S30))) : Option (Bool) := (decklelaw11_small.f k).bind fun t607 => (if (l0.length : Int) > 30 then (decklelaw11_TightKids.j0 k l0 l1 t607 true) else (decklelaw11_TightKids.j0 k l0 l1 t607 (decide ((l1.length : Int) > 20))))
set_option maxHeartbeats 8000000 in
set_option maxRecDepth 100000 in
theorem decklelaw11_TightKids.calls (k : Nat) (A0 : Option Addr) (c0 : Nat) (l0 : List Int) (A1 : Option Addr) (c1 : Nat) (l1 : List (List (S30))) (r : Bool) (w : World) (hr0 : Kd.C (Kd.int .i64) w A0 l0.length l0) (hc0 : l0.length ≤ c0) (hr1 : Kd.C (Kd.slice 30 k30) w A1 l1.length l1) (hc1 : l1.length ≤ c1) (h : decklelaw11_TightKids.f k l0 l1 = some r) :
    Calls Try.prog 6 #[.slice A0 l0.length c0, .slice A1 l1.length c1] w fun e w' => e = .returned (.bool r) ∧ Below w.heap.size w w' := by
  have HR0 := Aside0.mk hr0
  have HC0 := Aside0.mk hc0
  clear hr0 hc0
  have HR1 := Aside0.mk hr1
  have HC1 := Aside0.mk hc1
  clear hr1 hc1
  have HB := Aside0.mk (Below.refl w.heap.size w)
  have H : ((decklelaw11_small.f k).bind fun t607 => (if (l0.length : Int) > 30 then (decklelaw11_TightKids.j0 k l0 l1 t607 true) else (decklelaw11_TightKids.j0 k l0 l1 t607 (decide ((l1.length : Int) > 20))))) = some r := h
  clear h
  replace H := Option.bind_eq_some_iff.mp H
  obtain ⟨t607, A30, H⟩ := H
  have A3 := Aside0.mk A30
  clear A30
  have HC4 := Aside0.mk H
  clear H
  go_enter Try.func6, Try.ntmps6
  go_upto_region 2 with (first | ((with_reducible refine gate_callee (f := 9) rfl ?_); refine goesL_ (some 20) rfl rfl Try.func9 J8 rfl #[] rfl J1 ?_; (with_reducible refine (decklelaw11_small.calls k  t607 _ A3.out).mono ?_); rintro e w5 ⟨rfl, hb⟩; refine ⟨_, rfl, ?_⟩; have n0_ := Aside0.mk (below_step J0 hb); clear HB; have HB := n0_; clear n0_; (try clear hb); (try clear hb2); (try clear hk); (try clear hi)))
  (try simp only [Act.put, List.setIfInBounds_toArray, List.set_cons_zero, List.set_cons_succ])
  go_cut [28] (fun v28 wc => ∃ (kq : Nat) (x28_3 : Bool), v28 = .bool x28_3 ∧ Aside0 (decklelaw11_TightKids.j0 kq l0 l1 t607 x28_3 = some r) ∧ Aside0 (kq ≤ k) ∧ Aside0 (Below w.heap.size w wc))
  case first =>
    have H := HC4.out
    clear HC4
    by_cases c6 : (l0.length : Int) > 30
    rotate_left
    · rw [if_neg c6] at H
      have c6b0 := decide_eq_false c6
      have c6b1 : decide (30 < l0.length) = false := decide_eq_false J37
      clear c6
      (first | rw [c6b0] | (simp only [i64_w, i32_w]; rw [c6b0]) | skip)
      have H' := Aside0.mk H
      clear H
      go_wp2
      go_meet
      case rel => exact ⟨_, (decide ((l1.length : Int) > 20)), J5, H', ⟨J30⟩, ⟨J0⟩⟩
    rw [if_pos c6] at H
    have c6b0 := decide_eq_true c6
    have c6b1 : decide (30 < l0.length) = true := decide_eq_true J37
    clear c6
    (first | rw [c6b0] | (simp only [i64_w, i32_w]; rw [c6b0]) | skip)
    have H' := Aside0.mk H
    clear H
    go_wp2
    go_meet
    case rel => exact ⟨_, (true), J5, H', ⟨J30⟩, ⟨J0⟩⟩
  case rest =>
    clear HC4
    try clear c1
    try clear p2
    try clear c6
    try clear c6b0
    try clear c6b1
    obtain ⟨kq, x28_3, rfl, HA, HJ3, HB⟩ := hcut
    cases kq with
    | zero => exact absurd HA.out (by simp [decklelaw11_TightKids.j0])
    | succ kj3 =>
      have H := HA.out
      clear HA
      simp only [decklelaw11_TightKids.j0] at H
      by_cases c7 : x28_3 = true
      · subst c7
        rw [if_pos rfl] at H
        obtain rfl := Option.some.inj H
        go_wp2
        go_ret
        exact ⟨J3, J0⟩
      replace c7 := Bool.eq_false_iff.mpr c7
      subst c7
      rw [if_neg (show ¬ (false = true) by decide)] at H
      have H' := Aside0.mk H
      clear H
      go_wp2
      go_loopg [6, 7, 8] kj3 (fun kq v6 v7 v8 w' => ∃ (x6_2 : Int) (x7_2 : List (List (S30))) (x8_2 : Int), v6 = .int .i64 x6_2 ∧ v8 = .int .i64 x8_2 ∧ Aside0 (decklelaw11_TightKids.l0 kq l0 l1 t607 x6_2 x7_2 x8_2 = some r) ∧ Aside0 (kq ≤ kj3) ∧ Aside0 (Kd.N (Kd.slice 30 k30) 22 w' w.heap.size (fun _ => True) v7 x7_2) ∧ Aside0 (Below w.heap.size w w'))
      case atStart => exact ⟨(0), (([] : List (List (S30)))), (0), J5, J5, H', ⟨Nat.le_refl _⟩, ⟨J7⟩, ⟨J0⟩⟩
      case round =>
        clear H'
        try clear c1
        try clear p2
        try clear c6
        try clear c6b0
        try clear c6b1
        try clear c7
        try clear p2
        obtain ⟨x6_2, x7_2, x8_2, rfl, rfl, HA, HK2, HO_7, HB⟩ := hrel
        cases gk with
        | zero => exact absurd HA.out (by simp [decklelaw11_TightKids.l0])
        | succ k2 =>
          have H := HA.out
          clear HA
          simp only [decklelaw11_TightKids.l0] at H
          by_cases c8 : x8_2 < (l1.length : Int)
          · rw [if_pos c8] at H
            have c8b0 := decide_eq_true c8
            clear c8
            by_cases c9 : 0 ≤ x8_2
            · rw [if_pos c9] at H
              have c9b0 := decide_eq_true c9
              clear c9
              replace H := Option.bind_eq_some_iff.mp H
              obtain ⟨t609, A100, H⟩ := H
              have A10 := Aside0.mk A100
              clear A100
              have HC11 := Aside0.mk H
              clear H
              have p608 : 0 ≤ (x8_2 : Int) := of_decide_eq_true J2
              have q608 : x8_2 < (l1.length : Int) := of_decide_eq_true J2
              obtain ⟨ad608, A608_0, c608_0, e608, hx608_0, hl608_0, hi608_0⟩ := at_L5 HR1.out x8_2 p608 q608
              cases e608
              replace hx608_0 := (HB.out.cell (World.block_lt_of_cell? w _ hx608_0)).trans hx608_0
              have HR608_0 := Aside0.mk hi608_0
              have HC608_0 := Aside0.mk hl608_0
              clear hi608_0 hl608_0
              replace p608 := eq_true p608
              replace q608 := eq_true q608
              go_upto_region 11 with (first | ((with_reducible refine gate_callee (f := 10) rfl ?_); refine goesL_ (some 40) rfl rfl Try.func10 J8 rfl #[.slice A608_0 (rd_L5 l1 x8_2).length c608_0] rfl J1 ?_; (with_reducible refine (decklelaw10_Few.calls k2 _ _ (rd_L5 l1 x8_2) t609 _ ?side1 ?side2 A10.out).mono ?_); (case side1 => repeat (first | exact (Kd.C_below HR608_0.out HB.out) | (with_reducible refine Kd.C_alloc ?_ _) | (with_reducible refine Kd.C_drewN ?_ _) | (with_reducible refine Kd.C_drew ?_))); (case side2 => exact HC608_0.out); rintro e w' ⟨rfl, ⟨nd, rfl⟩⟩; refine ⟨_, rfl, ?_⟩; have p610 : 0 ≤ (x8_2 : Int) := of_decide_eq_true J2; have q610 : x8_2 < (l1.length : Int) := of_decide_eq_true J2; obtain ⟨ad610, A610_0, c610_0, e610, hx610_0, hl610_0, hi610_0⟩ := at_L5 HR1.out x8_2 p610 q610; obtain rfl : ad608 = ad610 := (by injection e610); replace hx610_0 := (HB.out.cell (World.block_lt_of_cell? w _ hx610_0)).trans hx610_0; have HR610_0 := Aside0.mk hi610_0; have HC610_0 := Aside0.mk hl610_0; clear hi610_0 hl610_0; replace p610 := eq_true p610; replace q610 := eq_true q610; have ea_ := Option.some.inj (hx608_0.symm.trans hx610_0); injection ea_ with ea_ en_ ec_; subst ea_; subst ec_; clear en_))
              (try simp only [Act.put, List.setIfInBounds_toArray, List.set_cons_zero, List.set_cons_succ])
              go_cut [53] (fun v53 wc => ∃ (kq : Nat) (x53_10 : Bool), v53 = .bool x53_10 ∧ Aside0 (decklelaw11_TightKids.j2 kq l0 l1 t607 (wrap64 (x6_2 + ((rd_L5 l1 x8_2).length : Int))) x7_2 x8_2 x53_10 = some r) ∧ Aside0 (kq ≤ k2) ∧ Aside0 (Kd.N (Kd.slice 30 k30) 22 wc w.heap.size (fun _ => True) u7 x7_2) ∧ Aside0 (Below w.heap.size w wc))
              case first =>
                have H := HC11.out
                clear HC11
                by_cases c12 : t609 = true
                · subst c12
                  rw [if_pos rfl] at H
                  have H' := Aside0.mk H
                  clear H
                  go_wp2
                  go_meet
                  case rel => exact ⟨_, (decide ((wrap64 (x6_2 + ((rd_L5 l1 x8_2).length : Int))) > 200)), J5, H', ⟨J83⟩, ⟨J120⟩, ⟨J0⟩⟩
                · replace c12 := Bool.eq_false_iff.mpr c12
                  subst c12
                  rw [if_neg (show ¬ (false = true) by decide)] at H
                  have H' := Aside0.mk H
                  clear H
                  go_wp2
                  go_meet
                  case rel => exact ⟨_, (true), J5, H', ⟨J83⟩, ⟨J120⟩, ⟨J0⟩⟩
              case rest =>
                clear HC11
                try clear c1
                try clear p2
                try clear c6
                try clear c6b0
                try clear c6b1
                try clear p6
                try clear q6
                try clear hx6
                try clear c7
                try clear c8
                try clear c8b0
                try clear c9
                try clear c9b0
                try clear c10
                try clear c12
                try clear hx608_0
                try clear hx610_0
                try clear p2
                try clear p608
                try clear p610
                try clear q608
                try clear q610
                obtain ⟨kq, x53_10, rfl, HA, HJ10, HO_7, HB⟩ := hcut
                cases kq with
                | zero => exact absurd HA.out (by simp [decklelaw11_TightKids.j2])
                | succ kj10 =>
                  have H := HA.out
                  clear HA
                  simp only [decklelaw11_TightKids.j2] at H
                  by_cases c13 : x53_10 = true
                  · subst c13
                    rw [if_pos rfl] at H
                    obtain rfl := Option.some.inj H
                    go_wp2
                    go_ret
                    exact ⟨J3, J0⟩
                  · replace c13 := Bool.eq_false_iff.mpr c13
                    subst c13
                    rw [if_neg (show ¬ (false = true) by decide)] at H
                    by_cases c14 : 0 ≤ x8_2
                    · rw [if_pos c14] at H
                      have c14b0 := decide_eq_true c14
                      clear c14
                      by_cases c15 : x8_2 < (l1.length : Int)
                      · rw [if_pos c15] at H
                        have c15b0 := decide_eq_true c15
                        clear c15
                        replace H := Option.bind_eq_some_iff.mp H
                        obtain ⟨⟨t612, t615⟩, A160, H⟩ := H
                        dsimp only at H
                        have A16 := Aside0.mk A160
                        clear A160
                        by_cases c17 : t615 = true
                        · subst c17
                          rw [if_pos rfl] at H
                          by_cases c18 : x7_2.length < 5864062014805
                          · rw [if_pos c18] at H
                            have LMc18 := Aside0.mk c18
                            clear c18
                            obtain ⟨y616, hy616⟩ : ∃ y_ : List (List (S30)), y_ = (x7_2 ++ [t612]) := ⟨_, rfl⟩
                            replace H : (decklelaw11_TightKids.l0 kj10 l0 l1 t607 (wrap64 (x6_2 + ((rd_L5 l1 x8_2).length : Int))) y616 (wrap64 (x8_2 + 1))) = some r := by first | (rw [hy616]; with_reducible exact H) | (have H2_ := (Option.bind_some _ _).symm.trans H; rw [hy616]; with_reducible exact H2_) | (have H2_ := (Option.bind_some _ _).symm.trans H; with_reducible exact H2_) | with_reducible exact H | (rw [hy616]; exact H) | exact H
                            have Ny616 := Aside0.mk hy616
                            clear hy616
                            have H' := Aside0.mk H
                            clear H
                            have p611 : 0 ≤ (x8_2 : Int) := of_decide_eq_true J2
                            have q611 : x8_2 < (l1.length : Int) := of_decide_eq_true J2
                            obtain ⟨ad611, A611_0, c611_0, e611, hx611_0, hl611_0, hi611_0⟩ := at_L5 HR1.out x8_2 p611 q611
                            obtain rfl : ad608 = ad611 := (by injection e611)
                            replace hx611_0 := (HB.out.cell (World.block_lt_of_cell? w _ hx611_0)).trans hx611_0
                            have HR611_0 := Aside0.mk hi611_0
                            have HC611_0 := Aside0.mk hl611_0
                            clear hi611_0 hl611_0
                            replace p611 := eq_true p611
                            replace q611 := eq_true q611
                            go_wp2_with (first | ((with_reducible refine gate_callee (f := 11) rfl ?_); refine goesL_ (some 60) rfl rfl Try.func11 J8 rfl #[.slice A611_0 (rd_L5 l1 x8_2).length c611_0] rfl J1 ?_; (with_reducible refine (tight_Make.calls kj10 (fun k_ => k_ < w.heap.size) _ _ (rd_L5 l1 x8_2) t612 true _ ?side1 A16.out).mono ?_); (case side1 => exact Kd.V_mk HC611_0.out (Kd.F_below (Kd.C_F k30_heap HR611_0.out) J0)); rintro e w19 ⟨v613, rfl, ho0, hb⟩; refine ⟨_, rfl, ?_⟩; have n0_ := Aside0.mk (Kd.N_elder' (zn HO_7.out) (Kd.N_base ho0) hb); have n1_ := Aside0.mk (Kd.N_lower (Kd.N_mono (ok' := fun k_ => some k_ ≠ (u7 : Value).ownBlock) ho0 (fun k_ hk_ => Or.elim hk_ (fun hs_ => fun e_ => Nat.not_le.2 hs_ (Kd.N_base HO_7.out k_ e_.symm)) (fun hn_ => (Kd.fresh' (Kd.N_lt (zn HO_7.out)) k_ hn_)))) (below_size J0)); have n2_ := Aside0.mk (below_step J0 hb); clear HO_7; clear HB; have HO_7 := n0_; have HO614 := n1_; have HB := n2_; clear n0_ n1_ n2_; (try clear hb); (try clear hb2); (try clear hk); (try clear hi); (try clear ho0); obtain ⟨Ao21, co21, eo21⟩ := Kd.N_slice HO614.out; subst eo21) | ((with_reducible refine gate_builtin (b := .append) (xs := #[.tmp 66, .tmp 68]) rfl ?_); (try (refine gate_guard J68 ?_; dsimp only)); at_builtin; refine Kd.N_append (Kd.slice 30 k30) (w0 := w) w.heap.size rfl (.tmp 66) (.tmp 68) 42 22 (.slice none 0 0) 24 rfl Try.underlying42 info22 rfl J16 J37 u7 x7_2 t612 [.slice Ao21 t612.length co21] (fun _ => True) (fun k_ => ((fun _ => True)) k_ ∧ some k_ ≠ (u7 : Value).ownBlock) rfl rfl ?aP (fun _ hk => hk) ?aF ?aO ?aB ?aS ?aL ?_; (case aP => exact (Kd.FK_slice_mk (Kd.N_reads' (Kd.N_mono (ok' := (fun k_ => ((fun _ => True)) k_ ∧ some k_ ≠ (u7 : Value).ownBlock)) (HO614.out) (fun k_ hk => ⟨trivial, hk⟩))).2.1 (Kd.N_F (Kd.N_mono (ok' := (fun k_ => ((fun _ => True)) k_ ∧ some k_ ≠ (u7 : Value).ownBlock)) (HO614.out) (fun k_ hk => ⟨trivial, hk⟩))))); (case aB => exact J0); (case aF => exact (fun _ _ => trivial)); (case aO => exact (by (with_reducible repeat (first | apply Kd.N_alloc | apply Kd.N_drewN | apply Kd.N_drew)); exact Kd.N_mono HO_7.out (fun _ hk => trivial))); (case aS => exact (below_size J0)); (case aL => have := LMc18.out; omega); intro v617 w20 ho hb hg hat; rw [← Ny616.out] at ho; have n0_ := Aside0.mk (hb); have n1_ := Aside0.mk (ho); clear HB; clear HO_7; clear HO614; have HB := n0_; have HO618 := n1_; clear n0_ n1_; clear ho hb hg hat))
                            go_roundg kj10
                            case measure => have := HJ3.out; have := HK2.out; have := HJ10.out; omega
                            case rel => exact ⟨((wrap64 (x6_2 + ((rd_L5 l1 x8_2).length : Int)))), (y616), (wrap64 (x8_2 + 1)), J5, J5, H', ⟨by have := HJ3.out; have := HK2.out; have := HJ10.out; omega⟩, ⟨by (with_reducible repeat (first | apply Kd.N_alloc | apply Kd.N_drewN | apply Kd.N_drew)); exact HO618.out⟩, ⟨J0⟩⟩
                          · rw [if_neg c18] at H
                            exact absurd H J27
                        · replace c17 := Bool.eq_false_iff.mpr c17
                          subst c17
                          rw [if_neg (show ¬ (false = true) by decide)] at H
                          obtain rfl := Option.some.inj H
                          have p611 : 0 ≤ (x8_2 : Int) := of_decide_eq_true J2
                          have q611 : x8_2 < (l1.length : Int) := of_decide_eq_true J2
                          obtain ⟨ad611, A611_0, c611_0, e611, hx611_0, hl611_0, hi611_0⟩ := at_L5 HR1.out x8_2 p611 q611
                          obtain rfl : ad608 = ad611 := (by injection e611)
                          replace hx611_0 := (HB.out.cell (World.block_lt_of_cell? w _ hx611_0)).trans hx611_0
                          have HR611_0 := Aside0.mk hi611_0
                          have HC611_0 := Aside0.mk hl611_0
                          clear hi611_0 hl611_0
                          replace p611 := eq_true p611
                          replace q611 := eq_true q611
                          go_wp2_with (first | ((with_reducible refine gate_callee (f := 11) rfl ?_); refine goesL_ (some 60) rfl rfl Try.func11 J8 rfl #[.slice A611_0 (rd_L5 l1 x8_2).length c611_0] rfl J1 ?_; (with_reducible refine (tight_Make.calls kj10 (fun _ => True) _ _ (rd_L5 l1 x8_2) t612 false _ ?side1 A16.out).mono ?_); (case side1 => exact Kd.V_mono (ok' := fun _ => True) (Kd.V_mk HC611_0.out (Kd.F_below (Kd.C_F k30_heap HR611_0.out) J0)) (fun _ _ => trivial)); rintro e w22 ⟨v613, rfl, ho0, hb⟩; refine ⟨_, rfl, ?_⟩; have n0_ := Aside0.mk (Kd.N_elder' (zn HO_7.out) (Kd.N_base ho0) hb); have n2_ := Aside0.mk (below_step J0 hb); clear HO_7; clear HB; have HO_7 := n0_; have HB := n2_; clear n0_ n2_; (try clear hb); (try clear hb2); (try clear hk); (try clear hi); (try clear ho0)))
                          go_ret
                          exact ⟨J3, J0⟩
                      · rw [if_neg c15] at H
                        exact absurd H J27
                    · rw [if_neg c14] at H
                      exact absurd H J27
            · rw [if_neg c9] at H
              exact absurd H J27
          rw [if_neg c8] at H
          have c8b0 := decide_eq_false c8
          clear c8
          replace H := Option.bind_eq_some_iff.mp H
          obtain ⟨⟨t619, t622⟩, A230, H⟩ := H
          dsimp only at H
          have A23 := Aside0.mk A230
          clear A230
          replace H := Option.bind_eq_some_iff.mp H
          obtain ⟨⟨t623, t626⟩, A240, H⟩ := H
          dsimp only at H
          have A24 := Aside0.mk A240
          clear A240
          have HC25 := Aside0.mk H
          clear H
          go_upto_region 19 with (first | ((with_reducible refine gate_callee (f := 22) rfl ?_); refine goesL_ (some 73) rfl rfl Try.func22 J8 rfl #[.slice A0 l0.length c0, .slice A1 l1.length c1] rfl J1 ?_; (with_reducible refine (array_Nest.calls k2 (fun _ => True) _ _ l0 (fun _ => True) _ _ l1 t619 t622 _ ?side1 ?side2 A23.out).mono ?_); (case side1 => exact Kd.V_mono (ok' := fun _ => True) (Kd.V_mk HC0.out (Kd.F_below (Kd.C_F (Kd.heap_int .i64) HR0.out) J0)) (fun _ _ => trivial)); (case side2 => exact Kd.V_mono (ok' := fun _ => True) (Kd.V_mk HC1.out (Kd.F_below (Kd.C_F (Kd.heap_slice 30 k30_heap) HR1.out) J0)) (fun _ _ => trivial)); rintro e w26 ⟨v620, rfl, ho0, hb⟩; refine ⟨_, rfl, ?_⟩; have n0_ := Aside0.mk (Kd.N_elder' (zn HO_7.out) (Kd.N_base ho0) hb); have n1_ := Aside0.mk (Kd.N_lower (Kd.N_mono (ok' := fun _ => True) ho0 (fun _ _ => trivial)) (below_size J0)); have n2_ := Aside0.mk (below_step J0 hb); clear HO_7; clear HB; have HO_7 := n0_; have HO621 := n1_; have HB := n2_; clear n0_ n1_ n2_; (try clear hb); (try clear hb2); (try clear hk); (try clear hi); (try clear ho0); obtain ⟨Ao27, co27, eo27⟩ := Kd.N_slice HO_7.out; subst eo27) | ((with_reducible refine gate_callee (f := 22) rfl ?_); refine goesL_ (some 79) rfl rfl Try.func22 J8 rfl #[.slice A0 l0.length c0, .slice Ao27 x7_2.length co27] rfl J1 ?_; (with_reducible refine (array_Nest.calls k2 (fun _ => True) _ _ l0 (fun _ => True) _ _ x7_2 t623 t626 _ ?side1 ?side2 A24.out).mono ?_); (case side1 => exact Kd.V_mono (ok' := fun _ => True) (Kd.V_mk HC0.out (Kd.F_below (Kd.C_F (Kd.heap_int .i64) HR0.out) J0)) (fun _ _ => trivial)); (case side2 => exact Kd.V_mono (ok' := fun _ => True) (Kd.N_V (HO_7.out)) (fun _ _ => trivial)); rintro e w28 ⟨v624, rfl, ho0, hb⟩; refine ⟨_, rfl, ?_⟩; have n1_ := Aside0.mk (Kd.N_elder' (zn HO621.out) (Kd.N_base ho0) hb); have n2_ := Aside0.mk (Kd.N_lower (Kd.N_mono (ok' := fun _ => True) ho0 (fun _ _ => trivial)) (below_size J0)); have n3_ := Aside0.mk (below_step J0 hb); clear HO621; clear HB; have HO621 := n1_; have HO625 := n2_; have HB := n3_; clear n1_ n2_ n3_; (try clear hb); (try clear hb2); (try clear hk); (try clear hi); (try clear ho0)))
          (try simp only [Act.put, List.setIfInBounds_toArray, List.set_cons_zero, List.set_cons_succ])
          go_cut [87] (fun v87 wc => ∃ (kq : Nat) (x87_24 : Bool), v87 = .bool x87_24 ∧ Aside0 (decklelaw11_TightKids.j3 kq t607 t619 t622 t623 x87_24 = some r) ∧ Aside0 (kq ≤ k2) ∧ Aside0 (Kd.N k30 30 wc w.heap.size (fun _ => True) v620 t619) ∧ Aside0 (Kd.N k30 30 wc w.heap.size (fun _ => True) v624 t623) ∧ Aside0 (Below w.heap.size w wc))
          case first =>
            have H := HC25.out
            clear HC25
            by_cases c29 : t622 = true
            · subst c29
              rw [if_pos rfl] at H
              have H' := Aside0.mk H
              clear H
              go_wp2
              go_meet
              case rel => exact ⟨_, (!t626), J5, H', ⟨J83⟩, ⟨J102⟩, ⟨J103⟩, ⟨J0⟩⟩
            replace c29 := Bool.eq_false_iff.mpr c29
            subst c29
            rw [if_neg (show ¬ (false = true) by decide)] at H
            have H' := Aside0.mk H
            clear H
            go_wp2
            go_meet
            case rel => exact ⟨_, (true), J5, H', ⟨J83⟩, ⟨J102⟩, ⟨J103⟩, ⟨J0⟩⟩
          case rest =>
            clear HC25
            try clear c1
            try clear c2
            try clear p2
            try clear c6
            try clear c6b0
            try clear c6b1
            try clear p6
            try clear q6
            try clear hx6
            try clear c7
            try clear c8
            try clear c8b0
            try clear c9
            try clear c9b0
            try clear c10
            try clear c11
            try clear c12
            try clear c13
            try clear c14
            try clear c14b0
            try clear c15
            try clear c15b0
            try clear c17
            try clear c18
            try clear c22
            try clear c29
            try clear hx608_0
            try clear hx610_0
            try clear hx611_0
            try clear p2
            try clear p6
            try clear p608
            try clear p610
            try clear p611
            try clear q6
            try clear q608
            try clear q610
            try clear q611
            obtain ⟨kq, x87_24, rfl, HA, HJ24, HO_12, HO_14, HB⟩ := hcut
            cases kq with
            | zero => exact absurd HA.out (by simp [decklelaw11_TightKids.j3])
            | succ kj24 =>
              have H := HA.out
              clear HA
              simp only [decklelaw11_TightKids.j3] at H
              by_cases c30 : x87_24 = true
              · subst c30
                rw [if_pos rfl] at H
                by_cases c31 : t607 = true
                · subst c31
                  rw [if_pos rfl] at H
                  obtain rfl := Option.some.inj H
                  go_wp2
                  go_ret
                  exact ⟨J3, J0⟩
                · replace c31 := Bool.eq_false_iff.mpr c31
                  subst c31
                  rw [if_neg (show ¬ (false = true) by decide)] at H
                  exact absurd H J27
              replace c30 := Bool.eq_false_iff.mpr c30
              subst c30
              rw [if_neg (show ¬ (false = true) by decide)] at H
              replace H := Option.bind_eq_some_iff.mp H
              obtain ⟨⟨t627, t630⟩, A320, H⟩ := H
              dsimp only at H
              have A32 := Aside0.mk A320
              clear A320
              replace H := Option.bind_eq_some_iff.mp H
              obtain ⟨⟨t631, t634⟩, A330, H⟩ := H
              dsimp only at H
              have A33 := Aside0.mk A330
              clear A330
              by_cases c34 : t607 = true
              rotate_left
              · replace c34 := Bool.eq_false_iff.mpr c34
                subst c34
                rw [if_neg (show ¬ (false = true) by decide)] at H
                exact absurd H J27
              subst c34
              rw [if_pos rfl] at H
              by_cases c35 : t630 = true
              rotate_left
              · replace c35 := Bool.eq_false_iff.mpr c35
                subst c35
                rw [if_neg (show ¬ (false = true) by decide)] at H
                exact absurd H J27
              subst c35
              rw [if_pos rfl] at H
              by_cases c36 : t634 = true
              rotate_left
              · replace c36 := Bool.eq_false_iff.mpr c36
                subst c36
                rw [if_neg (show ¬ (false = true) by decide)] at H
                exact absurd H J27
              subst c36
              rw [if_pos rfl] at H
              replace H := Option.bind_eq_some_iff.mp H
              obtain ⟨t635, A370, H⟩ := H
              have A37 := Aside0.mk A370
              clear A370
              obtain rfl := Option.some.inj H
              obtain ⟨Ao38, co38, eo38⟩ := Kd.N_slice HO_12.out
              subst eo38
              go_wp2_with (first | ((with_reducible refine gate_callee (f := 11) rfl ?_); refine goesL_ (some 95) rfl rfl Try.func11 J8 rfl #[.slice Ao38 t619.length co38] rfl J1 ?_; (with_reducible refine (tight_Make.calls kj24 (fun _ => True) _ _ t619 t627 true _ ?side1 A32.out).mono ?_); (case side1 => exact Kd.V_mono (ok' := fun _ => True) (Kd.N_V (HO_12.out)) (fun _ _ => trivial)); rintro e w39 ⟨v628, rfl, ho0, hb⟩; refine ⟨_, rfl, ?_⟩; have n1_ := Aside0.mk (Kd.N_elder' (zn HO_14.out) (Kd.N_base ho0) hb); have n2_ := Aside0.mk (Kd.N_lower (Kd.N_mono (ok' := fun _ => True) ho0 (fun _ _ => trivial)) (below_size J0)); have n3_ := Aside0.mk (below_step J0 hb); clear HO_14; clear HB; have HO_14 := n1_; have HO629 := n2_; have HB := n3_; clear n1_ n2_ n3_; (try clear hb); (try clear hb2); (try clear hk); (try clear hi); (try clear ho0); obtain ⟨Ao40, co40, eo40⟩ := Kd.N_slice HO_14.out; subst eo40) | ((with_reducible refine gate_callee (f := 11) rfl ?_); refine goesL_ (some 100) rfl rfl Try.func11 J8 rfl #[.slice Ao40 t623.length co40] rfl J1 ?_; (with_reducible refine (tight_Make.calls kj24 (fun _ => True) _ _ t623 t631 true _ ?side1 A33.out).mono ?_); (case side1 => exact Kd.V_mono (ok' := fun _ => True) (Kd.N_V (HO_14.out)) (fun _ _ => trivial)); rintro e w41 ⟨v632, rfl, ho0, hb⟩; refine ⟨_, rfl, ?_⟩; have n2_ := Aside0.mk (Kd.N_elder' (zn HO629.out) (Kd.N_base ho0) hb); have n3_ := Aside0.mk (Kd.N_lower (Kd.N_mono (ok' := fun _ => True) ho0 (fun _ _ => trivial)) (below_size J0)); have n4_ := Aside0.mk (below_step J0 hb); clear HO629; clear HB; have HO629 := n2_; have HO633 := n3_; have HB := n4_; clear n2_ n3_ n4_; (try clear hb); (try clear hb2); (try clear hk); (try clear hi); (try clear ho0); obtain ⟨Ao42, co42, eo42⟩ := Kd.N_slice HO629.out; subst eo42; obtain ⟨Ao43, co43, eo43⟩ := Kd.N_slice HO633.out; subst eo43) | (go_at_call 16; (with_reducible refine (deckleref10_Same.calls kj24 _ _ t627 _ _ t631 t635 _ ?side1 ?side2 ?side3 ?side4 A37.out).mono ?_); (case side1 => repeat (first | exact (Kd.N_reads' HO629.out).2.2 | (with_reducible refine Kd.C_alloc ?_ _) | (with_reducible refine Kd.C_drewN ?_ _) | (with_reducible refine Kd.C_drew ?_))); (case side2 => exact (Kd.N_reads' HO629.out).2.1); (case side3 => repeat (first | exact (Kd.N_reads' HO633.out).2.2 | (with_reducible refine Kd.C_alloc ?_ _) | (with_reducible refine Kd.C_drewN ?_ _) | (with_reducible refine Kd.C_drew ?_))); (case side4 => exact (Kd.N_reads' HO633.out).2.1); rintro e w44 ⟨rfl, hb⟩; have n4_ := Aside0.mk (below_step J0 hb); clear HB; have HB := n4_; clear n4_; (try clear hb); (try clear hb2); (try clear hk); (try clear hi)))
              go_ret
              exact ⟨J3, J0⟩
end Go.Proofs.Ytecdklheppcihaa.HTightNumbers
