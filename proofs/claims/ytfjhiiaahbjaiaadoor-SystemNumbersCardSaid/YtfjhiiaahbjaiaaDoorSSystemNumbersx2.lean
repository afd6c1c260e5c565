/- What the Go functions of this claim answer, told as functions of numbers and lists, and that other memory stays as it was: words and walks, shortened by a program. -/
import Derived.Test.YtfjhiiaahbjaiaaDoorSSystemNumbersx0
import Derived.Test.YtfjhiiaahbjaiaaDoorSSystemNumbersx1
namespace Go.Proofs.YtfjhiiaahbjaiaaDoor.HSystemSigns
open Go.RowKit Go.Proofs.YtfjhiiaahbjaiaaDoorW.PrintWords Go.Proofs.YtfjhiiaahbjaiaaDoorW.PrintLast Go.Proofs.YtfjhiiaahbjaiaaDoorW.PrintMore
attribute [local go_sem] max2_int min2_int max_two min_two max_three min_three max_four min_four
set_option linter.unusedVariables false
set_option linter.unusedSimpArgs false
attribute [local go_sem high] eqA40
mutual
def deckleref09_Count.l0 : Nat → List Int → Int → Int → Option (Int × Bool)
  | 0, _, _, _ => none
  | k + 1, x0, x4, x5 => if x5 < (x0.length : Int) then (if 0 ≤ x5 then (if (rd x0 x5) < 0 then (deckleref09_Count.j1 k x0 x4 x5 true) else (deckleref09_Count.j1 k x0 x4 x5 (decide ((rd x0 x5) > 1048576)))) else (none)) else (if x4 = 0 then (some (0, true)) else (deckleref09_Count.l1 k x0 x4 0))
def deckleref09_Count.j1 : Nat → List Int → Int → Int → Bool → Option (Int × Bool)
  | 0, _, _, _, _ => none
  | k + 1, x0, x4, x5, x27 => if x27 = true then (some (0, false)) else (if 0 ≤ x5 then (if x5 < (x0.length : Int) then (if (rd x0 x5) = 0 then (deckleref09_Count.l0 k x0 0 (wrap64 (x5 + 1))) else (deckleref09_Count.l0 k x0 x4 (wrap64 (x5 + 1)))) else (none)) else (none))
def deckleref09_Count.l1 : Nat → List Int → Int → Int → Option (Int × Bool)
  | 0, _, _, _ => none
  | k + 1, x0, x4, x6 => if x6 < (x0.length : Int) then (if 0 ≤ x6 then (if (wrap64 (x4 * (rd x0 x6))) > 1048576 then (some (0, false)) else (deckleref09_Count.l1 k x0 (wrap64 (x4 * (rd x0 x6))) (wrap64 (x6 + 1)))) else (none)) else (some (x4, true))
end
def deckleref09_Count.f (k : Nat) (l0 : List Int) : Option (Int × Bool) := if (l0.length : Int) > 16 then (some (0, false)) else (deckleref09_Count.l0 k l0 1 0)
theorem deckleref09_Count.mono_l : ∀ k, (∀ y0 y1 y2, LeO (deckleref09_Count.l0 k y0 y1 y2) (deckleref09_Count.l0 (k + 1) y0 y1 y2)) ∧ (∀ y0 y1 y2 y3, LeO (deckleref09_Count.j1 k y0 y1 y2 y3) (deckleref09_Count.j1 (k + 1) y0 y1 y2 y3)) ∧ (∀ y0 y1 y2, LeO (deckleref09_Count.l1 k y0 y1 y2) (deckleref09_Count.l1 (k + 1) y0 y1 y2))
  | 0 => ⟨fun _ _ _ r h => by simp [deckleref09_Count.l0] at h, fun _ _ _ _ r h => by simp [deckleref09_Count.j1] at h, fun _ _ _ r h => by simp [deckleref09_Count.l1] at h⟩
  | k + 1 => by
    obtain ⟨ih0, ih1, ih2⟩ := deckleref09_Count.mono_l k
    refine ⟨?_, ?_, ?_⟩
    · intro y0 y1 y2
      unfold deckleref09_Count.l0
      exact mz0
    · intro y0 y1 y2 y3
      unfold deckleref09_Count.j1
      exact mz0
    · intro y0 y1 y2
      unfold deckleref09_Count.l1
      exact mz0
theorem deckleref09_Count.mono : ∀ a0 k, LeO (deckleref09_Count.f k a0) (deckleref09_Count.f (k + 1) a0) := by
  intro a0 k
  obtain ⟨ih0, ih1, ih2⟩ := deckleref09_Count.mono_l k
  unfold deckleref09_Count.f
  exact mz0
set_option maxHeartbeats 8000000 in
set_option maxRecDepth 100000 in
theorem deckleref09_Count.calls (k : Nat) (A0 : Option Addr) (c0 : Nat) (l0 : List Int) (r1 : Int) (r2 : Bool) (w : World) (hr0 : Kd.C (Kd.int .i64) w A0 l0.length l0) (hc0 : l0.length ≤ c0) (h : deckleref09_Count.f k l0 = some (r1, r2)) :
    Calls Tryd.prog 70 #[.slice A0 l0.length c0] w fun e w' => e = .returned (.tuple #[.int .i64 r1, .bool r2]) ∧ Drawn0 w w' := by
  have HR0 := zq hr0
  have HC0 := zq hc0
  clear hr0 hc0
  have H : (if (l0.length : Int) > 16 then (some (0, false)) else (deckleref09_Count.l0 k l0 1 0)) = some (r1, r2) := h
  clear h
  by_cases c2 : (l0.length : Int) > 16
  · rw [if_pos c2] at H
    have c2b0 := decide_eq_true c2
    have c2b1 : decide (16 < l0.length) = true := decide_eq_true J26
    clear c2
    simp only [Option.some.injEq, Prod.mk.injEq] at H
    obtain ⟨rfl, rfl⟩ := H
    go_enter Tryd.func70, Tryd.ntmps70
    go_wp2
    go_ret2
    exact ⟨J4, J7⟩
  rw [if_neg c2] at H
  have c2b0 := decide_eq_false c2
  have c2b1 : decide (16 < l0.length) = false := decide_eq_false J26
  clear c2
  have H' := zq H
  clear H
  go_enter Tryd.func70, Tryd.ntmps70
  go_wp2
  go_loopg [4, 5] k (fun kq v4 v5 w' => ∃ (x4_1 : Int) (x5_1 : Int), v4 = .int .i64 x4_1 ∧ v5 = .int .i64 x5_1 ∧ Aside0 (deckleref09_Count.l0 kq l0 x4_1 x5_1 = some (r1, r2)) ∧ Aside0 (kq ≤ k) ∧ Drawn0 w w')
  case atStart => exact ⟨(1), (0), J4, J4, H', ⟨Nat.le_refl _⟩, J7⟩
  case round =>
    clear H'
    try clear c2
    try clear c2b0
    try clear c2b1
    try clear p2
    obtain ⟨x4_1, x5_1, rfl, rfl, HA, HK1, ⟨m1, rfl⟩⟩ := hrel
    cases gk with
    | zero => exact absurd HA.out (by simp [deckleref09_Count.l0])
    | succ k1 =>
      have H := HA.out
      clear HA
      simp only [deckleref09_Count.l0] at H
      by_cases c3 : x5_1 < (l0.length : Int)
      rotate_left
      · rw [if_neg c3] at H
        have c3b0 := decide_eq_false c3
        clear c3
        by_cases c11 : x4_1 = 0
        · rw [if_pos c11] at H
          have c11b0 : (x4_1 == 0) = true := beq_iff_eq.mpr c11
          have c11b1 : (x4_1 != 0) = false := bne_eq_false_iff_eq.mpr c11
          clear c11
          simp only [Option.some.injEq, Prod.mk.injEq] at H
          obtain ⟨rfl, rfl⟩ := H
          go_wp2
          go_ret2
          exact ⟨J4, J7⟩
        · rw [if_neg c11] at H
          have c11b0 : (x4_1 == 0) = false := beq_eq_false_iff_ne.mpr c11
          have c11b1 : (x4_1 != 0) = true := bne_iff_ne.mpr c11
          have H' := zq H
          clear H
          go_wp2
          go_loopg [4, 6] k1 (fun kq v4 v6 w' => ∃ (x4_2 : Int) (x6_2 : Int), v4 = .int .i64 x4_2 ∧ v6 = .int .i64 x6_2 ∧ Aside0 (deckleref09_Count.l1 kq l0 x4_2 x6_2 = some (r1, r2)) ∧ Aside0 (kq ≤ k1) ∧ Drawn0 w w')
          case atStart => exact ⟨(x4_1), (0), J4, J4, H', ⟨Nat.le_refl _⟩, J7⟩
          case round =>
            clear H'
            try clear c1
            try clear p1
            try clear q1
            try clear hx1
            try clear c2
            try clear c2b0
            try clear c2b1
            try clear p2
            try clear c3
            try clear c3b0
            try clear c5
            try clear c5b0
            try clear c6
            try clear c6b0
            try clear p6
            try clear c7
            try clear c8
            try clear c8b0
            try clear c9
            try clear c9b0
            try clear c10
            try clear c10b0
            try clear c10b1
            try clear p10
            try clear q10
            try clear hx10
            try clear c11
            try clear c11b0
            try clear c11b1
            try clear hx101_0
            try clear hx102_0
            try clear hx103_0
            try clear p1
            try clear p101
            try clear p102
            try clear p103
            try clear p2
            try clear q1
            try clear q101
            try clear q102
            try clear q103
            obtain ⟨x4_2, x6_2, rfl, rfl, HA, HK2, ⟨m2, rfl⟩⟩ := hrel
            cases gk with
            | zero => exact absurd HA.out (by simp [deckleref09_Count.l1])
            | succ k2 =>
              have H := HA.out
              clear HA
              simp only [deckleref09_Count.l1] at H
              by_cases c12 : x6_2 < (l0.length : Int)
              · rw [if_pos c12] at H
                have c12b0 := decide_eq_true c12
                clear c12
                by_cases c13 : 0 ≤ x6_2
                · rw [if_pos c13] at H
                  have c13b0 := decide_eq_true c13
                  clear c13
                  by_cases c14 : (wrap64 (x4_2 * (rd l0 x6_2))) > 1048576
                  · rw [if_pos c14] at H
                    have c14b0 := decide_eq_true c14
                    clear c14
                    simp only [Option.some.injEq, Prod.mk.injEq] at H
                    obtain ⟨rfl, rfl⟩ := H
                    have p104 : 0 ≤ (x6_2 : Int) := of_decide_eq_true J3
                    have q104 : x6_2 < (l0.length : Int) := of_decide_eq_true J3
                    obtain ⟨ad104, e104, hx104_0⟩ := Kd.at_int HR0.out x6_2 p104 q104
                    cases e104
                    replace p104 := eq_true p104
                    replace q104 := eq_true q104
                    go_wp2
                    go_ret2
                    exact ⟨J4, J7⟩
                  · rw [if_neg c14] at H
                    have c14b0 := decide_eq_false c14
                    clear c14
                    have H' := zq H
                    clear H
                    have p104 : 0 ≤ (x6_2 : Int) := of_decide_eq_true J3
                    have q104 : x6_2 < (l0.length : Int) := of_decide_eq_true J3
                    obtain ⟨ad104, e104, hx104_0⟩ := Kd.at_int HR0.out x6_2 p104 q104
                    cases e104
                    replace p104 := eq_true p104
                    replace q104 := eq_true q104
                    go_wp2
                    go_roundg k2
                    case measure => have := HK1.out; have := HK2.out; omega
                    case rel => exact ⟨(wrap64 (x4_2 * (rd l0 x6_2))), (wrap64 (x6_2 + 1)), J4, J4, H', ⟨by have := HK1.out; have := HK2.out; omega⟩, J7⟩
                · rw [if_neg c13] at H
                  exact absurd H J32
              · rw [if_neg c12] at H
                have c12b0 := decide_eq_false c12
                clear c12
                simp only [Option.some.injEq, Prod.mk.injEq] at H
                obtain ⟨rfl, rfl⟩ := H
                go_wp2
                go_ret2
                exact ⟨J4, J7⟩
      rw [if_pos c3] at H
      have c3b0 := decide_eq_true c3
      clear c3
      have HC4 := zq H
      clear H
      go_upto_region 7 with (fail)
      go_cut [27] (fun v27 wc => ∃ (kq : Nat) (x27_3 : Bool), v27 = .bool x27_3 ∧ Aside0 (deckleref09_Count.j1 kq l0 x4_1 x5_1 x27_3 = some (r1, r2)) ∧ Aside0 (kq ≤ k1) ∧ Drawn0 w wc)
      case first =>
        have H := HC4.out
        clear HC4
        by_cases c5 : 0 ≤ x5_1
        rotate_left
        · rw [if_neg c5] at H
          exact absurd H J32
        rw [if_pos c5] at H
        have c5b0 := decide_eq_true c5
        clear c5
        (first | rw [c5b0] | (simp only [i64_w, i32_w]; rw [c5b0]) | skip)
        by_cases c6 : (rd l0 x5_1) < 0
        · rw [if_pos c6] at H
          have c6b0 := decide_eq_true c6
          clear c6
          have H' := zq H
          clear H
          have p101 : 0 ≤ (x5_1 : Int) := of_decide_eq_true J3
          have q101 : x5_1 < (l0.length : Int) := of_decide_eq_true J3
          obtain ⟨ad101, e101, hx101_0⟩ := Kd.at_int HR0.out x5_1 p101 q101
          cases e101
          replace p101 := eq_true p101
          replace q101 := eq_true q101
          go_wp2
          go_meet
          case rel => exact ⟨_, (true), J4, H', ⟨J103⟩, J7⟩
        rw [if_neg c6] at H
        have c6b0 := decide_eq_false c6
        clear c6
        have H' := zq H
        clear H
        have p101 : 0 ≤ (x5_1 : Int) := of_decide_eq_true J3
        have q101 : x5_1 < (l0.length : Int) := of_decide_eq_true J3
        obtain ⟨ad101, e101, hx101_0⟩ := Kd.at_int HR0.out x5_1 p101 q101
        cases e101
        replace p101 := eq_true p101
        replace q101 := eq_true q101
        have p102 : 0 ≤ (x5_1 : Int) := of_decide_eq_true J3
        have q102 : x5_1 < (l0.length : Int) := of_decide_eq_true J3
        obtain ⟨ad102, e102, hx102_0⟩ := Kd.at_int HR0.out x5_1 p102 q102
        obtain rfl : ad101 = ad102 := (by injection e102)
        replace p102 := eq_true p102
        replace q102 := eq_true q102
        go_wp2
        go_meet
        case rel => exact ⟨_, (decide ((rd l0 x5_1) > 1048576)), J4, H', ⟨J103⟩, J7⟩
      case rest =>
        clear HC4
        try clear p1
        try clear q1
        try clear hx1
        try clear c2
        try clear c2b0
        try clear c2b1
        try clear p2
        try clear c3
        try clear c3b0
        try clear c5
        try clear c5b0
        try clear c6
        try clear c6b0
        try clear hx101_0
        try clear hx102_0
        try clear p101
        try clear p102
        try clear p2
        try clear q101
        try clear q102
        obtain ⟨kq, x27_3, rfl, HA, HJ3, ⟨mc3, rfl⟩⟩ := hcut
        cases kq with
        | zero => exact absurd HA.out (by simp [deckleref09_Count.j1])
        | succ kj3 =>
          have H := HA.out
          clear HA
          simp only [deckleref09_Count.j1] at H
          by_cases c7 : x27_3 = true
          · subst c7
            rw [if_pos rfl] at H
            simp only [Option.some.injEq, Prod.mk.injEq] at H
            obtain ⟨rfl, rfl⟩ := H
            go_wp2
            go_ret2
            exact ⟨J4, J7⟩
          replace c7 := Bool.eq_false_iff.mpr c7
          subst c7
          rw [if_neg (show ¬ (false = true) by decide)] at H
          by_cases c8 : 0 ≤ x5_1
          rotate_left
          · rw [if_neg c8] at H
            exact absurd H J32
          rw [if_pos c8] at H
          have c8b0 := decide_eq_true c8
          clear c8
          by_cases c9 : x5_1 < (l0.length : Int)
          rotate_left
          · rw [if_neg c9] at H
            exact absurd H J32
          rw [if_pos c9] at H
          have c9b0 := decide_eq_true c9
          clear c9
          by_cases c10 : (rd l0 x5_1) = 0
          rotate_left
          · rw [if_neg c10] at H
            have c10b0 : ((rd l0 x5_1) == 0) = false := beq_eq_false_iff_ne.mpr c10
            have c10b1 : ((rd l0 x5_1) != 0) = true := bne_iff_ne.mpr c10
            have H' := zq H
            clear H
            have p103 : 0 ≤ (x5_1 : Int) := of_decide_eq_true J3
            have q103 : x5_1 < (l0.length : Int) := of_decide_eq_true J3
            obtain ⟨ad103, e103, hx103_0⟩ := Kd.at_int HR0.out x5_1 p103 q103
            cases e103
            replace p103 := eq_true p103
            replace q103 := eq_true q103
            go_wp2
            go_roundg kj3
            case measure => have := HK1.out; have := HJ3.out; omega
            case rel => exact ⟨(x4_1), (wrap64 (x5_1 + 1)), J4, J4, H', ⟨by have := HK1.out; have := HJ3.out; omega⟩, J7⟩
          rw [if_pos c10] at H
          have c10b0 : ((rd l0 x5_1) == 0) = true := beq_iff_eq.mpr c10
          have c10b1 : ((rd l0 x5_1) != 0) = false := bne_eq_false_iff_eq.mpr c10
          clear c10
          have H' := zq H
          clear H
          have p103 : 0 ≤ (x5_1 : Int) := of_decide_eq_true J3
          have q103 : x5_1 < (l0.length : Int) := of_decide_eq_true J3
          obtain ⟨ad103, e103, hx103_0⟩ := Kd.at_int HR0.out x5_1 p103 q103
          cases e103
          replace p103 := eq_true p103
          replace q103 := eq_true q103
          go_wp2
          go_roundg kj3
          case measure => have := HK1.out; have := HJ3.out; omega
          case rel => exact ⟨(0), (wrap64 (x5_1 + 1)), J4, J4, H', ⟨by have := HK1.out; have := HJ3.out; omega⟩, J7⟩
def deckleref06_Norm.l0 : Nat → Int → Int → Option (Int × Int × Bool)
  | 0, _, _ => none
  | k + 1, x106000, x106001 => if (Int.tmod x106000 10) = 0 then (if x106001 ≤ 32767 then (deckleref06_Norm.l0 k (wrap64 (Int.tdiv x106000 10)) (wrap64 (x106001 + 1))) else (if x106001 < (-32768) then (some (0, 0, false)) else (if x106001 > 32767 then (some (0, 0, false)) else (some (x106000, x106001, true))))) else (if x106001 < (-32768) then (some (0, 0, false)) else (if x106001 > 32767 then (some (0, 0, false)) else (some (x106000, x106001, true))))
def deckleref06_Norm.f (k : Nat) (a0_0 : Int) (a0_1 : Int) : Option (Int × Int × Bool) := if a0_0 = 0 then (some (0, 0, true)) else (deckleref06_Norm.l0 k a0_0 a0_1)
theorem deckleref06_Norm.mono_l : ∀ k, (∀ y0 y1, LeO (deckleref06_Norm.l0 k y0 y1) (deckleref06_Norm.l0 (k + 1) y0 y1))
  | 0 => fun _ _ r h => by simp [deckleref06_Norm.l0] at h
  | k + 1 => by
    have ih0 := deckleref06_Norm.mono_l k
    · intro y0 y1
      unfold deckleref06_Norm.l0
      exact mz0
theorem deckleref06_Norm.mono : ∀ a0 a1 k, LeO (deckleref06_Norm.f k a0 a1) (deckleref06_Norm.f (k + 1) a0 a1) := by
  intro a0 a1 k
  have ih0 := deckleref06_Norm.mono_l k
  unfold deckleref06_Norm.f
  exact mz0
set_option maxHeartbeats 8000000 in
set_option maxRecDepth 100000 in
theorem deckleref06_Norm.calls (k : Nat) (a0_0 : Int) (a0_1 : Int) (r1 : Int) (r2 : Int) (r3 : Bool) (w : World) (h : deckleref06_Norm.f k a0_0 a0_1 = some (r1, r2, r3)) :
    Calls Tryd.prog 82 #[.agg #[.int .i64 a0_0, .int .i64 a0_1]] w fun e w' => e = .returned (.tuple #[.agg #[.int .i64 r1, .int .i64 r2], .bool r3]) ∧ Below w.heap.size w w' := by
  have hu40 := Tryd.underlying40
  have HB := zq (Below.refl w.heap.size w)
  have H : (if a0_0 = 0 then (some (0, 0, true)) else (deckleref06_Norm.l0 k a0_0 a0_1)) = some (r1, r2, r3) := h
  clear h
  by_cases c2 : a0_0 = 0
  · rw [if_pos c2] at H
    have c2b0 : (a0_0 == 0) = true := beq_iff_eq.mpr c2
    have c2b1 : (a0_0 != 0) = false := bne_eq_false_iff_eq.mpr c2
    clear c2
    simp only [Option.some.injEq, Prod.mk.injEq] at H
    obtain ⟨rfl, rfl, rfl⟩ := H
    go_enter Tryd.func82, Tryd.ntmps82
    go_wp2_with (first | ((with_reducible refine gate_dst (N := 1) rfl ?_); refine bxw 1 40 #[.int .i64 a0_0, .int .i64 a0_1] ?_; intro gb105 hg w3 hbox hb; have BK105 := zq (hbox); have GE105 := zq ((J12 : w.heap.size ≤ gb105)); replace HB := zq (below_step J0 hb); clear hb hbox hg) | ((with_reducible refine gate_dst (N := 2) rfl ?_); refine bxw 2 40 #[.int .i64 0, .int .i64 0] ?_; intro gb106 hg w4 hbox hb; have BK106 := zq (hbox); have GE106 := zq ((by rw [hg]; exact (below_size (zs1 GE105.out)) : w.heap.size ≤ gb106)); replace HB := zq (below_step (zs1 GE105.out) hb); have NB105_106 := zq ((J123 : gb105 ≠ gb106)); have NB106_105 := zq ((J124 : gb106 ≠ gb105)); replace BK105 := zq (blk_below (g := gb105) (o := .cells #[.int .i64 a0_0, .int .i64 a0_1] 40 (0, 0)) (zk BK105.out) hb); clear hb hbox hg; have hnb5 := NB105_106.out; have hnc5 := NB106_105.out; obtain ⟨hcz6_0, hcz6_1, hfz6_0, hfz6_1⟩ := cz2 BK105.out; obtain ⟨hcz7_0, hcz7_1, hfz7_0, hfz7_1⟩ := cz2 BK106.out))
    refine bodyPost_ret (results_ct rfl _ _ gb106 40 #[.int .i64 0, .int .i64 0] (0, 0) _ rfl J16 Tryd.underlying40 rfl J8) rfl ?_
    exact ⟨J2, J19⟩
  rw [if_neg c2] at H
  have c2b0 : (a0_0 == 0) = false := beq_eq_false_iff_ne.mpr c2
  have c2b1 : (a0_0 != 0) = true := bne_iff_ne.mpr c2
  have H' := zq H
  clear H
  go_enter Tryd.func82, Tryd.ntmps82
  go_wp2_with (first | ((with_reducible refine gate_dst (N := 1) rfl ?_); refine bxw 1 40 #[.int .i64 a0_0, .int .i64 a0_1] ?_; intro gb105 hg w8 hbox hb; have BK105 := zq (hbox); have GE105 := zq ((J12 : w.heap.size ≤ gb105)); replace HB := zq (below_step J0 hb); clear hb hbox hg) | ((with_reducible refine gate_dst (N := 2) rfl ?_); refine bxw 2 40 #[.int .i64 0, .int .i64 0] ?_; intro gb106 hg w9 hbox hb; have BK106 := zq (hbox); have GE106 := zq ((by rw [hg]; exact (below_size (zs1 GE105.out)) : w.heap.size ≤ gb106)); replace HB := zq (below_step (zs1 GE105.out) hb); have NB105_106 := zq ((J123 : gb105 ≠ gb106)); have NB106_105 := zq ((J124 : gb106 ≠ gb105)); replace BK105 := zq (blk_below (g := gb105) (o := .cells #[.int .i64 a0_0, .int .i64 a0_1] 40 (0, 0)) (zk BK105.out) hb); clear hb hbox hg; have hnb10 := NB105_106.out; have hnc10 := NB106_105.out; obtain ⟨hcz11_0, hcz11_1, hfz11_0, hfz11_1⟩ := cz2 BK105.out))
  go_loopg [] k (fun kq w' => ∃ (x106000_1 : Int) (x106001_1 : Int), Aside0 (deckleref06_Norm.l0 kq x106000_1 x106001_1 = some (r1, r2, r3)) ∧ Aside0 (kq ≤ k) ∧ Aside0 (w'.heap[gb105]? = some (.cells #[.int .i64 x106000_1, .int .i64 x106001_1] 40 (0, 0))) ∧ Aside0 (w'.heap[gb106]? = some (.cells #[.int .i64 0, .int .i64 0] 40 (0, 0))) ∧ Aside0 (Below w.heap.size w w'))
  case atStart => exact ⟨(a0_0), (a0_1), H', ⟨Nat.le_refl _⟩, ⟨by (with_reducible repeat (first | refine blk_drewN ?_ _ | refine blk_drew ?_ | refine blk_alloc ?_ _)); exact BK105.out⟩, ⟨by (with_reducible repeat (first | refine blk_drewN ?_ _ | refine blk_drew ?_ | refine blk_alloc ?_ _)); exact BK106.out⟩, ⟨J19⟩⟩
  case round =>
    clear H'
    try clear c1
    try clear c2
    try clear c2b0
    try clear c2b1
    try clear p2
    try clear c5
    try clear c8
    try clear c10
    try clear hcz11_0
    try clear hcz11_1
    try clear hcz6_0
    try clear hcz6_1
    try clear hcz7_0
    try clear hcz7_1
    try clear hfz11_0
    try clear hfz11_1
    try clear hfz6_0
    try clear hfz6_1
    try clear hfz7_0
    try clear hfz7_1
    obtain ⟨x106000_1, x106001_1, HA, HK1, BK105, BK106, HB⟩ := hrel
    cases gk with
    | zero => exact absurd HA.out (by simp [deckleref06_Norm.l0])
    | succ k1 =>
      have H := HA.out
      clear HA
      simp only [deckleref06_Norm.l0] at H
      by_cases c12 : (Int.tmod x106000_1 10) = 0
      rotate_left
      · rw [if_neg c12] at H
        have c12b0 : ((Int.tmod x106000_1 10) == 0) = false := beq_eq_false_iff_ne.mpr c12
        have c12b1 : ((Int.tmod x106000_1 10) != 0) = true := bne_iff_ne.mpr c12
        by_cases c27 : x106001_1 < (-32768)
        · rw [if_pos c27] at H
          have c27b0 := decide_eq_true c27
          clear c27
          simp only [Option.some.injEq, Prod.mk.injEq] at H
          obtain ⟨rfl, rfl, rfl⟩ := H
          have hnb28 := NB105_106.out
          have hnc28 := NB106_105.out
          obtain ⟨hcz29_0, hcz29_1, hfz29_0, hfz29_1⟩ := cz2 BK105.out
          obtain ⟨hcz30_0, hcz30_1, hfz30_0, hfz30_1⟩ := cz2 BK106.out
          go_wp2
          refine bodyPost_ret (results_ct rfl _ _ gb106 40 #[.int .i64 0, .int .i64 0] (0, 0) _ rfl J16 Tryd.underlying40 rfl J8) rfl ?_
          exact ⟨J2, J19⟩
        · rw [if_neg c27] at H
          have c27b0 := decide_eq_false c27
          clear c27
          by_cases c31 : x106001_1 > 32767
          · rw [if_pos c31] at H
            have c31b0 := decide_eq_true c31
            clear c31
            simp only [Option.some.injEq, Prod.mk.injEq] at H
            obtain ⟨rfl, rfl, rfl⟩ := H
            have hnb32 := NB105_106.out
            have hnc32 := NB106_105.out
            obtain ⟨hcz33_0, hcz33_1, hfz33_0, hfz33_1⟩ := cz2 BK105.out
            obtain ⟨hcz34_0, hcz34_1, hfz34_0, hfz34_1⟩ := cz2 BK106.out
            go_wp2
            refine bodyPost_ret (results_ct rfl _ _ gb106 40 #[.int .i64 0, .int .i64 0] (0, 0) _ rfl J16 Tryd.underlying40 rfl J8) rfl ?_
            exact ⟨J2, J19⟩
          · rw [if_neg c31] at H
            have c31b0 := decide_eq_false c31
            clear c31
            simp only [Option.some.injEq, Prod.mk.injEq] at H
            obtain ⟨rfl, rfl, rfl⟩ := H
            have hnb35 := NB105_106.out
            have hnc35 := NB106_105.out
            obtain ⟨hcz36_0, hcz36_1, hfz36_0, hfz36_1⟩ := cz2 BK105.out
            obtain ⟨hcz37_0, hcz37_1, hfz37_0, hfz37_1⟩ := cz2 BK106.out
            go_wp2
            refine bodyPost_ret (results_ct rfl _ _ gb106 40 #[.int .i64 x106000_1, .int .i64 x106001_1] (0, 0) _ rfl J71 Tryd.underlying40 rfl J8) rfl ?_
            exact ⟨J2, J19⟩
      rw [if_pos c12] at H
      have c12b0 : ((Int.tmod x106000_1 10) == 0) = true := beq_iff_eq.mpr c12
      have c12b1 : ((Int.tmod x106000_1 10) != 0) = false := bne_eq_false_iff_eq.mpr c12
      clear c12
      by_cases c13 : x106001_1 ≤ 32767
      · rw [if_pos c13] at H
        have c13b0 := decide_eq_true c13
        clear c13
        have H' := zq H
        clear H
        have hnb14 := NB105_106.out
        have hnc14 := NB106_105.out
        obtain ⟨hcz15_0, hcz15_1, hfz15_0, hfz15_1⟩ := cz2 BK105.out
        go_wp2
        go_roundg k1
        case measure => have := HK1.out; omega
        case rel => exact ⟨(wrap64 (Int.tdiv x106000_1 10)), (wrap64 (x106001_1 + 1)), H', ⟨J73⟩, ⟨by (with_reducible repeat (first | refine blk_drewN ?_ _ | refine blk_drew ?_ | refine blk_alloc ?_ _)); refine blk_put (cs := #[.int .i64 (wrap64 (Int.tdiv x106000_1 10)), .int .i64 x106001_1]) ?_ 1 _ rfl; (with_reducible repeat (first | refine blk_drewN ?_ _ | refine blk_drew ?_ | refine blk_alloc ?_ _)); refine blk_put (cs := #[.int .i64 x106000_1, .int .i64 x106001_1]) ?_ 0 _ rfl; (with_reducible repeat (first | refine blk_drewN ?_ _ | refine blk_drew ?_ | refine blk_alloc ?_ _)); exact BK105.out⟩, ⟨by (with_reducible repeat (first | refine blk_drewN ?_ _ | refine blk_drew ?_ | refine blk_alloc ?_ _)); refine blk_far ?_ NB106_105.out _; (with_reducible repeat (first | refine blk_drewN ?_ _ | refine blk_drew ?_ | refine blk_alloc ?_ _)); refine blk_far ?_ NB106_105.out _; (with_reducible repeat (first | refine blk_drewN ?_ _ | refine blk_drew ?_ | refine blk_alloc ?_ _)); exact BK106.out⟩, ⟨J19⟩⟩
      rw [if_neg c13] at H
      have c13b0 := decide_eq_false c13
      clear c13
      by_cases c16 : x106001_1 < (-32768)
      · rw [if_pos c16] at H
        have c16b0 := decide_eq_true c16
        clear c16
        simp only [Option.some.injEq, Prod.mk.injEq] at H
        obtain ⟨rfl, rfl, rfl⟩ := H
        have hnb17 := NB105_106.out
        have hnc17 := NB106_105.out
        obtain ⟨hcz18_0, hcz18_1, hfz18_0, hfz18_1⟩ := cz2 BK105.out
        obtain ⟨hcz19_0, hcz19_1, hfz19_0, hfz19_1⟩ := cz2 BK106.out
        go_wp2
        refine bodyPost_ret (results_ct rfl _ _ gb106 40 #[.int .i64 0, .int .i64 0] (0, 0) _ rfl J16 Tryd.underlying40 rfl J8) rfl ?_
        exact ⟨J2, J19⟩
      rw [if_neg c16] at H
      have c16b0 := decide_eq_false c16
      clear c16
      by_cases c20 : x106001_1 > 32767
      rotate_left
      · rw [if_neg c20] at H
        have c20b0 := decide_eq_false c20
        clear c20
        simp only [Option.some.injEq, Prod.mk.injEq] at H
        obtain ⟨rfl, rfl, rfl⟩ := H
        have hnb24 := NB105_106.out
        have hnc24 := NB106_105.out
        obtain ⟨hcz25_0, hcz25_1, hfz25_0, hfz25_1⟩ := cz2 BK105.out
        obtain ⟨hcz26_0, hcz26_1, hfz26_0, hfz26_1⟩ := cz2 BK106.out
        go_wp2
        refine bodyPost_ret (results_ct rfl _ _ gb106 40 #[.int .i64 x106000_1, .int .i64 x106001_1] (0, 0) _ rfl J71 Tryd.underlying40 rfl J8) rfl ?_
        exact ⟨J2, J19⟩
      rw [if_pos c20] at H
      have c20b0 := decide_eq_true c20
      clear c20
      simp only [Option.some.injEq, Prod.mk.injEq] at H
      obtain ⟨rfl, rfl, rfl⟩ := H
      have hnb21 := NB105_106.out
      have hnc21 := NB106_105.out
      obtain ⟨hcz22_0, hcz22_1, hfz22_0, hfz22_1⟩ := cz2 BK105.out
      obtain ⟨hcz23_0, hcz23_1, hfz23_0, hfz23_1⟩ := cz2 BK106.out
      go_wp2
      refine bodyPost_ret (results_ct rfl _ _ gb106 40 #[.int .i64 0, .int .i64 0] (0, 0) _ rfl J16 Tryd.underlying40 rfl J8) rfl ?_
      exact ⟨J2, J19⟩
def deckleref06_Right.f (k : Nat) (a0_0 : Int) (a0_1 : Int) : Option (Bool) := (deckleref06_Norm.f k a0_0 a0_1).bind fun bt108 => (if bt108.2.2 = true then (some (bt108.1 == a0_0 && (bt108.2.1 == a0_1))) else (some false))
theorem deckleref06_Right.mono : ∀ a0 a1 k, LeO (deckleref06_Right.f k a0 a1) (deckleref06_Right.f (k + 1) a0 a1) := by
  intro a0 a1 k
  unfold deckleref06_Right.f
  have im0 := @deckleref06_Norm.mono
  exact mz3
set_option maxHeartbeats 8000000 in
set_option maxRecDepth 100000 in
theorem deckleref06_Right.calls (k : Nat) (a0_0 : Int) (a0_1 : Int) (r : Bool) (w : World) (h : deckleref06_Right.f k a0_0 a0_1 = some r) :
    Calls Tryd.prog 71 #[.agg #[.int .i64 a0_0, .int .i64 a0_1]] w fun e w' => e = .returned (.bool r) ∧ Below w.heap.size w w' := by
  have hu40 := Tryd.underlying40
  have HB := zq (Below.refl w.heap.size w)
  have H : ((deckleref06_Norm.f k a0_0 a0_1).bind fun bt108 => (if bt108.2.2 = true then (some (bt108.1 == a0_0 && (bt108.2.1 == a0_1))) else (some false))) = some r := h
  clear h
  replace H := Option.bind_eq_some_iff.mp H
  obtain ⟨⟨t108, t109, t110⟩, A20, H⟩ := H
  dsimp only at H
  have A2 := zq A20
  clear A20
  by_cases c3 : t110 = true
  · subst c3
    rw [if_pos rfl] at H
    obtain rfl := Option.some.inj H
    go_enter Tryd.func71, Tryd.ntmps71
    go_wp2_with (first | ((with_reducible refine gate_dst (N := 1) rfl ?_); refine bxw 1 40 #[.int .i64 a0_0, .int .i64 a0_1] ?_; intro gb107 hg w4 hbox hb; have BK107 := zq (hbox); have GE107 := zq ((J12 : w.heap.size ≤ gb107)); replace HB := zq (below_step J0 hb); clear hb hbox hg; obtain ⟨hcz5_0, hcz5_1, hfz5_0, hfz5_1⟩ := cz2 BK107.out) | ((with_reducible refine gate_callee (f := 82) rfl ?_); refine goesL_ (some 7) rfl rfl Tryd.func82 J8 rfl #[.agg #[.int .i64 a0_0, .int .i64 a0_1]] rfl J1 ?_; (with_reducible refine (deckleref06_Norm.calls k a0_0 a0_1 t108 t109 true _ A2.out).mono ?_); rintro e w6 ⟨rfl, hb⟩; refine ⟨_, rfl, ?_⟩; replace BK107 := zq (blk_below (g := gb107) (o := .cells #[.int .i64 a0_0, .int .i64 a0_1] 40 (0, 0)) (zk BK107.out) hb); replace HB := zq (below_step (zs1 GE107.out) hb); (try clear hb)) | ((with_reducible refine gate_dst (N := 3) rfl ?_); refine bxw 3 40 #[.int .i64 0, .int .i64 0] ?_; intro gb111 hg w7 hbox hb; have BK111 := zq (hbox); have GE111 := zq ((by rw [hg]; exact (below_size (zs1 GE107.out)) : w.heap.size ≤ gb111)); replace HB := zq (below_step (zs1 GE107.out) hb); have NB107_111 := zq ((J125 : gb107 ≠ gb111)); have NB111_107 := zq ((J126 : gb111 ≠ gb107)); replace BK107 := zq (blk_below (g := gb107) (o := .cells #[.int .i64 a0_0, .int .i64 a0_1] 40 (0, 0)) (zk BK107.out) hb); clear hb hbox hg; have hnb8 := NB111_107.out; have hnc8 := NB107_111.out; obtain ⟨hcz9_0, hcz9_1, hfz9_0, hfz9_1⟩ := cz2 BK111.out; obtain ⟨hcz10_0, hcz10_1, hfz10_0, hfz10_1⟩ := cz2 BK107.out))
    go_ret
    exact ⟨J2, J104⟩
  replace c3 := Bool.eq_false_iff.mpr c3
  subst c3
  rw [if_neg (show ¬ (false = true) by decide)] at H
  obtain rfl := Option.some.inj H
  go_enter Tryd.func71, Tryd.ntmps71
  go_wp2_with (first | ((with_reducible refine gate_dst (N := 1) rfl ?_); refine bxw 1 40 #[.int .i64 a0_0, .int .i64 a0_1] ?_; intro gb107 hg w11 hbox hb; have BK107 := zq (hbox); have GE107 := zq ((J12 : w.heap.size ≤ gb107)); replace HB := zq (below_step J0 hb); clear hb hbox hg; obtain ⟨hcz12_0, hcz12_1, hfz12_0, hfz12_1⟩ := cz2 BK107.out) | ((with_reducible refine gate_callee (f := 82) rfl ?_); refine goesL_ (some 7) rfl rfl Tryd.func82 J8 rfl #[.agg #[.int .i64 a0_0, .int .i64 a0_1]] rfl J1 ?_; (with_reducible refine (deckleref06_Norm.calls k a0_0 a0_1 t108 t109 false _ A2.out).mono ?_); rintro e w13 ⟨rfl, hb⟩; refine ⟨_, rfl, ?_⟩; replace BK107 := zq (blk_below (g := gb107) (o := .cells #[.int .i64 a0_0, .int .i64 a0_1] 40 (0, 0)) (zk BK107.out) hb); replace HB := zq (below_step (zs1 GE107.out) hb); (try clear hb)) | ((with_reducible refine gate_dst (N := 3) rfl ?_); refine bxw 3 40 #[.int .i64 0, .int .i64 0] ?_; intro gb111 hg w14 hbox hb; have BK111 := zq (hbox); have GE111 := zq ((by rw [hg]; exact (below_size (zs1 GE107.out)) : w.heap.size ≤ gb111)); replace HB := zq (below_step (zs1 GE107.out) hb); have NB107_111 := zq ((J125 : gb107 ≠ gb111)); have NB111_107 := zq ((J126 : gb111 ≠ gb107)); clear hb hbox hg; have hnb15 := NB111_107.out; have hnc15 := NB107_111.out; obtain ⟨hcz16_0, hcz16_1, hfz16_0, hfz16_1⟩ := cz2 BK111.out))
  go_ret
  exact ⟨J2, J104⟩
end Go.Proofs.YtfjhiiaahbjaiaaDoor.HSystemSigns
