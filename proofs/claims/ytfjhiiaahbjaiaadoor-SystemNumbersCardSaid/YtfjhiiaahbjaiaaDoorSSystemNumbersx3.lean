/- What the Go functions of this claim answer, told as functions of numbers and lists, and that other memory stays as it was: words and walks, shortened by a program. -/
import Derived.Test.YtfjhiiaahbjaiaaDoorSSystemNumbersx0
import Derived.Test.YtfjhiiaahbjaiaaDoorSSystemNumbersx2
namespace Go.Proofs.YtfjhiiaahbjaiaaDoor.HSystemSigns
open Go.RowKit Go.Proofs.YtfjhiiaahbjaiaaDoorW.PrintWords Go.Proofs.YtfjhiiaahbjaiaaDoorW.PrintLast Go.Proofs.YtfjhiiaahbjaiaaDoorW.PrintMore
attribute [local go_sem] max2_int min2_int max_two min_two max_three min_three max_four min_four
set_option linter.unusedVariables false
set_option linter.unusedSimpArgs false
mutual
def deckleref10_right.j0 : Nat → Int → Bool → Int → List Int → List Int → List (S40) → Option (Int × Bool)
  | 0, _, _, _, _, _, _ => none
  | k + 1, x4, x29, x113000, x113001, x113002, x113003 => if x29 = true then (some (0, false)) else (if x113000 ≥ 4 then (deckleref10_right.j1 k x4 0 0 x113000 x113001 x113002 x113003) else (deckleref10_right.j1 k x4 x4 0 x113000 x113001 x113002 x113003))
def deckleref10_right.j1 : Nat → Int → Int → Int → Int → List Int → List Int → List (S40) → Option (Int × Bool)
  | 0, _, _, _, _, _, _, _ => none
  | k + 1, x4, x6, x7, x113000, x113001, x113002, x113003 => if x113000 = 4 then (deckleref10_right.j2 k x4 x6 x4 x113000 x113001 x113002 x113003) else (deckleref10_right.j2 k x4 x6 x7 x113000 x113001 x113002 x113003)
def deckleref10_right.j2 : Nat → Int → Int → Int → Int → List Int → List Int → List (S40) → Option (Int × Bool)
  | 0, _, _, _, _, _, _, _ => none
  | k + 1, x4, x6, x7, x113000, x113001, x113002, x113003 => if (x113002.length : Int) = x6 then (deckleref10_right.j3 k x4 x6 x7 ((x113003.length : Int) != x7) x113000 x113001 x113002 x113003) else (deckleref10_right.j3 k x4 x6 x7 true x113000 x113001 x113002 x113003)
def deckleref10_right.j3 : Nat → Int → Int → Int → Bool → Int → List Int → List Int → List (S40) → Option (Int × Bool)
  | 0, _, _, _, _, _, _, _, _ => none
  | k + 1, x4, x6, x7, x49, x113000, x113001, x113002, x113003 => if x49 = true then (some (0, false)) else (deckleref10_right.l0 k x4 x6 x7 0 x113000 x113001 x113002 x113003)
def deckleref10_right.l0 : Nat → Int → Int → Int → Int → Int → List Int → List Int → List (S40) → Option (Int × Bool)
  | 0, _, _, _, _, _, _, _, _ => none
  | k + 1, x4, x6, x7, x8, x113000, x113001, x113002, x113003 => if x8 < x6 then (if 0 ≤ x8 then (if x8 < (x113002.length : Int) then (if x113000 = 1 then (if (rd x113002 x8) = 0 then (if x113000 = 3 then (if (rd x113002 x8) < 0 then (some (0, false)) else (if (rd x113002 x8) > 1114111 then (some (0, false)) else (if (rd x113002 x8) ≥ 55296 then (if (rd x113002 x8) ≤ 57343 then (some (0, false)) else (deckleref10_right.l0 k x4 x6 x7 (wrap64 (x8 + 1)) x113000 x113001 x113002 x113003)) else (deckleref10_right.l0 k x4 x6 x7 (wrap64 (x8 + 1)) x113000 x113001 x113002 x113003)))) else (deckleref10_right.l0 k x4 x6 x7 (wrap64 (x8 + 1)) x113000 x113001 x113002 x113003)) else (if (rd x113002 x8) = 1 then (if x113000 = 3 then (if (rd x113002 x8) < 0 then (some (0, false)) else (if (rd x113002 x8) > 1114111 then (some (0, false)) else (if (rd x113002 x8) ≥ 55296 then (if (rd x113002 x8) ≤ 57343 then (some (0, false)) else (deckleref10_right.l0 k x4 x6 x7 (wrap64 (x8 + 1)) x113000 x113001 x113002 x113003)) else (deckleref10_right.l0 k x4 x6 x7 (wrap64 (x8 + 1)) x113000 x113001 x113002 x113003)))) else (deckleref10_right.l0 k x4 x6 x7 (wrap64 (x8 + 1)) x113000 x113001 x113002 x113003)) else (some (0, false)))) else (if x113000 = 3 then (if (rd x113002 x8) < 0 then (some (0, false)) else (if (rd x113002 x8) > 1114111 then (some (0, false)) else (if (rd x113002 x8) ≥ 55296 then (if (rd x113002 x8) ≤ 57343 then (some (0, false)) else (deckleref10_right.l0 k x4 x6 x7 (wrap64 (x8 + 1)) x113000 x113001 x113002 x113003)) else (deckleref10_right.l0 k x4 x6 x7 (wrap64 (x8 + 1)) x113000 x113001 x113002 x113003)))) else (deckleref10_right.l0 k x4 x6 x7 (wrap64 (x8 + 1)) x113000 x113001 x113002 x113003))) else (none)) else (none)) else (deckleref10_right.l1 k x4 x7 0 x113000 x113001 x113002 x113003)
def deckleref10_right.l1 : Nat → Int → Int → Int → Int → List Int → List Int → List (S40) → Option (Int × Bool)
  | 0, _, _, _, _, _, _, _ => none
  | k + 1, x4, x7, x10, x113000, x113001, x113002, x113003 => if x10 < x7 then (if 0 ≤ x10 then (if x10 < (x113003.length : Int) then ((deckleref06_Right.f k ((rd_T40 x113003 x10).f0) ((rd_T40 x113003 x10).f1)).bind fun t117 => (if t117 = true then (deckleref10_right.l1 k x4 x7 (wrap64 (x10 + 1)) x113000 x113001 x113002 x113003) else (some (0, false)))) else (none)) else (none)) else (some (x4, true))
end
def deckleref10_right.f (k : Nat) (a0_0 : Int) (l0_1 : List Int) (l0_2 : List Int) (l0_3 : List (S40)) : Option (Int × Bool) := (deckleref09_Count.f k l0_1).bind fun bt113 => (if bt113.2 = true then (if a0_0 < 1 then (deckleref10_right.j0 k bt113.1 true a0_0 l0_1 l0_2 l0_3) else (deckleref10_right.j0 k bt113.1 (decide (a0_0 > 5)) a0_0 l0_1 l0_2 l0_3)) else (deckleref10_right.j0 k bt113.1 true a0_0 l0_1 l0_2 l0_3))
theorem deckleref10_right.mono_l : ∀ k, (∀ y0 y1 y2 y3 y4 y5, LeO (deckleref10_right.j0 k y0 y1 y2 y3 y4 y5) (deckleref10_right.j0 (k + 1) y0 y1 y2 y3 y4 y5)) ∧ (∀ y0 y1 y2 y3 y4 y5 y6, LeO (deckleref10_right.j1 k y0 y1 y2 y3 y4 y5 y6) (deckleref10_right.j1 (k + 1) y0 y1 y2 y3 y4 y5 y6)) ∧ (∀ y0 y1 y2 y3 y4 y5 y6, LeO (deckleref10_right.j2 k y0 y1 y2 y3 y4 y5 y6) (deckleref10_right.j2 (k + 1) y0 y1 y2 y3 y4 y5 y6)) ∧ (∀ y0 y1 y2 y3 y4 y5 y6 y7, LeO (deckleref10_right.j3 k y0 y1 y2 y3 y4 y5 y6 y7) (deckleref10_right.j3 (k + 1) y0 y1 y2 y3 y4 y5 y6 y7)) ∧ (∀ y0 y1 y2 y3 y4 y5 y6 y7, LeO (deckleref10_right.l0 k y0 y1 y2 y3 y4 y5 y6 y7) (deckleref10_right.l0 (k + 1) y0 y1 y2 y3 y4 y5 y6 y7)) ∧ (∀ y0 y1 y2 y3 y4 y5 y6, LeO (deckleref10_right.l1 k y0 y1 y2 y3 y4 y5 y6) (deckleref10_right.l1 (k + 1) y0 y1 y2 y3 y4 y5 y6))
  | 0 => ⟨fun _ _ _ _ _ _ r h => by simp [deckleref10_right.j0] at h, fun _ _ _ _ _ _ _ r h => by simp [deckleref10_right.j1] at h, fun _ _ _ _ _ _ _ r h => by simp [deckleref10_right.j2] at h, fun _ _ _ _ _ _ _ _ r h => by simp [deckleref10_right.j3] at h, fun _ _ _ _ _ _ _ _ r h => by simp [deckleref10_right.l0] at h, fun _ _ _ _ _ _ _ r h => by simp [deckleref10_right.l1] at h⟩
  | k + 1 => by
    obtain ⟨ih0, ih1, ih2, ih3, ih4, ih5⟩ := deckleref10_right.mono_l k
    refine ⟨?_, ?_, ?_, ?_, ?_, ?_⟩
    · intro y0 y1 y2 y3 y4 y5
      unfold deckleref10_right.j0
      have im0 := @deckleref06_Right.mono
      have im1 := @deckleref09_Count.mono
      exact mz3
    · intro y0 y1 y2 y3 y4 y5 y6
      unfold deckleref10_right.j1
      have im0 := @deckleref06_Right.mono
      have im1 := @deckleref09_Count.mono
      exact mz3
    · intro y0 y1 y2 y3 y4 y5 y6
      unfold deckleref10_right.j2
      have im0 := @deckleref06_Right.mono
      have im1 := @deckleref09_Count.mono
      exact mz3
    · intro y0 y1 y2 y3 y4 y5 y6 y7
      unfold deckleref10_right.j3
      have im0 := @deckleref06_Right.mono
      have im1 := @deckleref09_Count.mono
      exact mz3
    · intro y0 y1 y2 y3 y4 y5 y6 y7
      unfold deckleref10_right.l0
      have im0 := @deckleref06_Right.mono
      have im1 := @deckleref09_Count.mono
      exact mz3
    · intro y0 y1 y2 y3 y4 y5 y6
      unfold deckleref10_right.l1
      have im0 := @deckleref06_Right.mono
      have im1 := @deckleref09_Count.mono
      exact mz3
theorem deckleref10_right.mono : ∀ a0 a1 a2 a3 k, LeO (deckleref10_right.f k a0 a1 a2 a3) (deckleref10_right.f (k + 1) a0 a1 a2 a3) := by
  intro a0 a1 a2 a3 k
  obtain ⟨ih0, ih1, ih2, ih3, ih4, ih5⟩ := deckleref10_right.mono_l k
  unfold deckleref10_right.f
  have im0 := @deckleref06_Right.mono
  have im1 := @deckleref09_Count.mono
  exact mz3
set_option maxHeartbeats 8000000 in
set_option maxRecDepth 100000 in
theorem deckleref10_right.calls (k : Nat) (a0_0 : Int) (A0_1 : Option Addr) (c0_1 : Nat) (l0_1 : List Int) (A0_2 : Option Addr) (c0_2 : Nat) (l0_2 : List Int) (A0_3 : Option Addr) (c0_3 : Nat) (l0_3 : List (S40)) (r1 : Int) (r2 : Bool) (w : World) (hr0_1 : Kd.C (Kd.int .i64) w A0_1 l0_1.length l0_1) (hc0_1 : l0_1.length ≤ c0_1) (hr0_2 : Kd.C (Kd.int .i64) w A0_2 l0_2.length l0_2) (hc0_2 : l0_2.length ≤ c0_2) (hr0_3 : Kd.C k40 w A0_3 l0_3.length l0_3) (hc0_3 : l0_3.length ≤ c0_3) (h : deckleref10_right.f k a0_0 l0_1 l0_2 l0_3 = some (r1, r2)) :
    Calls Tryd.prog 81 #[.agg #[.int .i64 a0_0, .slice A0_1 l0_1.length c0_1, .slice A0_2 l0_2.length c0_2, .slice A0_3 l0_3.length c0_3]] w fun e w' => e = .returned (.tuple #[.int .i64 r1, .bool r2]) ∧ Below w.heap.size w w' := by
  have hu32 := Tryd.underlying32
  have hu40 := Tryd.underlying40
  have HR0_1 := zq hr0_1
  have HC0_1 := zq hc0_1
  clear hr0_1 hc0_1
  have HR0_2 := zq hr0_2
  have HC0_2 := zq hc0_2
  clear hr0_2 hc0_2
  have HR0_3 := zq hr0_3
  have HC0_3 := zq hc0_3
  clear hr0_3 hc0_3
  have HB := zq (Below.refl w.heap.size w)
  have H : ((deckleref09_Count.f k l0_1).bind fun bt113 => (if bt113.2 = true then (if a0_0 < 1 then (deckleref10_right.j0 k bt113.1 true a0_0 l0_1 l0_2 l0_3) else (deckleref10_right.j0 k bt113.1 (decide (a0_0 > 5)) a0_0 l0_1 l0_2 l0_3)) else (deckleref10_right.j0 k bt113.1 true a0_0 l0_1 l0_2 l0_3))) = some (r1, r2) := h
  clear h
  replace H := Option.bind_eq_some_iff.mp H
  obtain ⟨⟨t113, t114⟩, A20, H⟩ := H
  dsimp only at H
  have A2 := zq A20
  clear A20
  have HC3 := zq H
  clear H
  go_enter Tryd.func81, Tryd.ntmps81
  go_upto_region 2 with (first | ((with_reducible refine gate_dst (N := 1) rfl ?_); (try (refine gate_guard J93 ?_; dsimp only)); refine bxw 1 32 #[.int .i64 a0_0, .slice A0_1 l0_1.length c0_1, .slice A0_2 l0_2.length c0_2, .slice A0_3 l0_3.length c0_3] ?_; intro gb112 hg w4 hbox hb; have BK112 := zq (hbox); have GE112 := zq ((J12 : w.heap.size ≤ gb112)); replace HB := zq (below_step J0 hb); clear hb hbox hg; obtain ⟨hcz5_0, hcz5_1, hcz5_2, hcz5_3, hfz5_0, hfz5_1, hfz5_2, hfz5_3⟩ := cz4 BK112.out) | ((with_reducible refine gate_callee (f := 70) rfl ?_); refine goesL_ (some 15) rfl rfl Tryd.func70 J8 rfl #[.slice A0_1 l0_1.length c0_1] rfl J1 ?_; (with_reducible refine (deckleref09_Count.calls k _ _ l0_1 t113 t114 _ ?side1 ?side2 A2.out).mono ?_); (case side1 => exact zc (Kd.C_below HR0_1.out HB.out)); (case side2 => exact HC0_1.out); rintro e w' ⟨rfl, ⟨nd, rfl⟩⟩; refine ⟨_, rfl, ?_⟩))
  (try simp only [Act.put, List.setIfInBounds_toArray, List.set_cons_zero, List.set_cons_succ])
  go_cut [29] (fun v29 wc => ∃ (kq : Nat) (x29_2 : Bool), v29 = .bool x29_2 ∧ Aside0 (deckleref10_right.j0 kq t113 x29_2 a0_0 l0_1 l0_2 l0_3 = some (r1, r2)) ∧ Aside0 (kq ≤ k) ∧ Aside0 (wc.heap[gb112]? = some (.cells #[.int .i64 a0_0, (.slice A0_1 l0_1.length c0_1), (.slice A0_2 l0_2.length c0_2), (.slice A0_3 l0_3.length c0_3)] 32 (0, 0))) ∧ Aside0 (Below w.heap.size w wc))
  case first =>
    have H := HC3.out
    clear HC3
    by_cases c6 : t114 = true
    rotate_left
    · replace c6 := Bool.eq_false_iff.mpr c6
      subst c6
      rw [if_neg (show ¬ (false = true) by decide)] at H
      have H' := zq H
      clear H
      go_wp2
      go_meet
      case rel => exact ⟨_, (true), J4, H', ⟨J33⟩, ⟨J11⟩, ⟨J5⟩⟩
    subst c6
    rw [if_pos rfl] at H
    by_cases c7 : a0_0 < 1
    rotate_left
    · rw [if_neg c7] at H
      have c7b0 := decide_eq_false c7
      clear c7
      (first | rw [c7b0] | (simp only [i64_w, i32_w]; rw [c7b0]) | skip)
      have H' := zq H
      clear H
      obtain ⟨hcz9_0, hcz9_1, hcz9_2, hcz9_3, hfz9_0, hfz9_1, hfz9_2, hfz9_3⟩ := cz4 BK112.out
      go_wp2
      go_meet
      case rel => exact ⟨_, (decide (a0_0 > 5)), J4, H', ⟨J33⟩, ⟨J11⟩, ⟨J5⟩⟩
    rw [if_pos c7] at H
    have c7b0 := decide_eq_true c7
    clear c7
    (first | rw [c7b0] | (simp only [i64_w, i32_w]; rw [c7b0]) | skip)
    have H' := zq H
    clear H
    obtain ⟨hcz8_0, hcz8_1, hcz8_2, hcz8_3, hfz8_0, hfz8_1, hfz8_2, hfz8_3⟩ := cz4 BK112.out
    go_wp2
    go_meet
    case rel => exact ⟨_, (true), J4, H', ⟨J33⟩, ⟨J11⟩, ⟨J5⟩⟩
  case rest =>
    clear HC3
    try clear p2
    try clear c6
    try clear c7
    try clear c7b0
    try clear c8
    try clear hcz5_0
    try clear hcz5_1
    try clear hcz5_2
    try clear hcz5_3
    try clear hcz8_0
    try clear hcz8_1
    try clear hcz8_2
    try clear hcz8_3
    try clear hcz9_0
    try clear hcz9_1
    try clear hcz9_2
    try clear hcz9_3
    try clear hfz5_0
    try clear hfz5_1
    try clear hfz5_2
    try clear hfz5_3
    try clear hfz8_0
    try clear hfz8_1
    try clear hfz8_2
    try clear hfz8_3
    try clear hfz9_0
    try clear hfz9_1
    try clear hfz9_2
    try clear hfz9_3
    obtain ⟨kq, x29_2, rfl, HA, HJ2, BK112, HB⟩ := hcut
    cases kq with
    | zero => exact absurd HA.out (by simp [deckleref10_right.j0])
    | succ kj2 =>
      have H := HA.out
      clear HA
      simp only [deckleref10_right.j0] at H
      by_cases c10 : x29_2 = true
      · subst c10
        rw [if_pos rfl] at H
        simp only [Option.some.injEq, Prod.mk.injEq] at H
        obtain ⟨rfl, rfl⟩ := H
        go_wp2
        go_ret2
        exact ⟨J2, J5⟩
      replace c10 := Bool.eq_false_iff.mpr c10
      subst c10
      rw [if_neg (show ¬ (false = true) by decide)] at H
      have HC11 := zq H
      clear H
      obtain ⟨hcz12_0, hcz12_1, hcz12_2, hcz12_3, hfz12_0, hfz12_1, hfz12_2, hfz12_3⟩ := cz4 BK112.out
      go_upto_if 33 with (fail)
      go_cut [6] (fun v6 wc => ∃ (kq : Nat) (x6_10 : Int), v6 = .int .i64 x6_10 ∧ Aside0 (deckleref10_right.j1 kq t113 x6_10 0 a0_0 l0_1 l0_2 l0_3 = some (r1, r2)) ∧ Aside0 (kq ≤ kj2) ∧ Aside0 (wc.heap[gb112]? = some (.cells #[.int .i64 a0_0, (.slice A0_1 l0_1.length c0_1), (.slice A0_2 l0_2.length c0_2), (.slice A0_3 l0_3.length c0_3)] 32 (0, 0))) ∧ Aside0 (Below w.heap.size w wc))
      case first =>
        have H := HC11.out
        clear HC11
        by_cases c13 : a0_0 ≥ 4
        rotate_left
        · rw [if_neg c13] at H
          have c13b0 := decide_eq_false c13
          clear c13
          (first | rw [c13b0] | (simp only [i64_w, i32_w]; rw [c13b0]) | skip)
          have H' := zq H
          clear H
          go_wp2
          go_meet
          case rel => exact ⟨_, (t113), J4, H', ⟨by have := HJ2.out; first | omega | exact Nat.le_refl _⟩, ⟨J11⟩, ⟨J5⟩⟩
        rw [if_pos c13] at H
        have c13b0 := decide_eq_true c13
        clear c13
        (first | rw [c13b0] | (simp only [i64_w, i32_w]; rw [c13b0]) | skip)
        have H' := zq H
        clear H
        go_wp2
        go_meet
        case rel => exact ⟨_, (0), J4, H', ⟨by have := HJ2.out; first | omega | exact Nat.le_refl _⟩, ⟨J11⟩, ⟨J5⟩⟩
      case rest =>
        clear HC11
        try clear c1
        try clear p2
        try clear c6
        try clear c7
        try clear c7b0
        try clear c8
        try clear c10
        try clear c13
        try clear c13b0
        try clear hcz12_0
        try clear hcz12_1
        try clear hcz12_2
        try clear hcz12_3
        try clear hcz5_0
        try clear hcz5_1
        try clear hcz5_2
        try clear hcz5_3
        try clear hcz8_0
        try clear hcz8_1
        try clear hcz8_2
        try clear hcz8_3
        try clear hcz9_0
        try clear hcz9_1
        try clear hcz9_2
        try clear hcz9_3
        try clear hfz12_0
        try clear hfz12_1
        try clear hfz12_2
        try clear hfz12_3
        try clear hfz5_0
        try clear hfz5_1
        try clear hfz5_2
        try clear hfz5_3
        try clear hfz8_0
        try clear hfz8_1
        try clear hfz8_2
        try clear hfz8_3
        try clear hfz9_0
        try clear hfz9_1
        try clear hfz9_2
        try clear hfz9_3
        try clear p2
        obtain ⟨kq, x6_10, rfl, HA, HJ10, BK112, HB⟩ := hcut
        cases kq with
        | zero => exact absurd HA.out (by simp [deckleref10_right.j1])
        | succ kj10 =>
          have H := HA.out
          clear HA
          simp only [deckleref10_right.j1] at H
          have HC14 := zq H
          clear H
          obtain ⟨hcz15_0, hcz15_1, hcz15_2, hcz15_3, hfz15_0, hfz15_1, hfz15_2, hfz15_3⟩ := cz4 BK112.out
          go_upto_if 36 with (fail)
          go_cut [7] (fun v7 wc => ∃ (kq : Nat) (x7_13 : Int), v7 = .int .i64 x7_13 ∧ Aside0 (deckleref10_right.j2 kq t113 x6_10 x7_13 a0_0 l0_1 l0_2 l0_3 = some (r1, r2)) ∧ Aside0 (kq ≤ kj10) ∧ Aside0 (wc.heap[gb112]? = some (.cells #[.int .i64 a0_0, (.slice A0_1 l0_1.length c0_1), (.slice A0_2 l0_2.length c0_2), (.slice A0_3 l0_3.length c0_3)] 32 (0, 0))) ∧ Aside0 (Below w.heap.size w wc))
          case first =>
            have H := HC14.out
            clear HC14
            by_cases c16 : a0_0 = 4
            rotate_left
            · rw [if_neg c16] at H
              have c16b0 : (a0_0 == 4) = false := beq_eq_false_iff_ne.mpr c16
              have c16b1 : (a0_0 != 4) = true := bne_iff_ne.mpr c16
              (first | rw [c16b0] | (simp only [i64_w, i32_w]; rw [c16b0]) | skip)
              have H' := zq H
              clear H
              go_wp2
              go_meet
              case rel => exact ⟨_, (0), J4, H', ⟨by have := HJ2.out; have := HJ10.out; first | omega | exact Nat.le_refl _⟩, ⟨J11⟩, ⟨J5⟩⟩
            rw [if_pos c16] at H
            have c16b0 : (a0_0 == 4) = true := beq_iff_eq.mpr c16
            have c16b1 : (a0_0 != 4) = false := bne_eq_false_iff_eq.mpr c16
            clear c16
            (first | rw [c16b0] | (simp only [i64_w, i32_w]; rw [c16b0]) | skip)
            have H' := zq H
            clear H
            go_wp2
            go_meet
            case rel => exact ⟨_, (t113), J4, H', ⟨by have := HJ2.out; have := HJ10.out; first | omega | exact Nat.le_refl _⟩, ⟨J11⟩, ⟨J5⟩⟩
          case rest =>
            clear HC14
            try clear c1
            try clear p2
            try clear c6
            try clear c7
            try clear c7b0
            try clear c8
            try clear c10
            try clear c13
            try clear c13b0
            try clear c16
            try clear c16b0
            try clear c16b1
            try clear hcz12_0
            try clear hcz12_1
            try clear hcz12_2
            try clear hcz12_3
            try clear hcz15_0
            try clear hcz15_1
            try clear hcz15_2
            try clear hcz15_3
            try clear hcz5_0
            try clear hcz5_1
            try clear hcz5_2
            try clear hcz5_3
            try clear hcz8_0
            try clear hcz8_1
            try clear hcz8_2
            try clear hcz8_3
            try clear hcz9_0
            try clear hcz9_1
            try clear hcz9_2
            try clear hcz9_3
            try clear hfz12_0
            try clear hfz12_1
            try clear hfz12_2
            try clear hfz12_3
            try clear hfz15_0
            try clear hfz15_1
            try clear hfz15_2
            try clear hfz15_3
            try clear hfz5_0
            try clear hfz5_1
            try clear hfz5_2
            try clear hfz5_3
            try clear hfz8_0
            try clear hfz8_1
            try clear hfz8_2
            try clear hfz8_3
            try clear hfz9_0
            try clear hfz9_1
            try clear hfz9_2
            try clear hfz9_3
            try clear p2
            obtain ⟨kq, x7_13, rfl, HA, HJ13, BK112, HB⟩ := hcut
            cases kq with
            | zero => exact absurd HA.out (by simp [deckleref10_right.j2])
            | succ kj13 =>
              have H := HA.out
              clear HA
              simp only [deckleref10_right.j2] at H
              have HC17 := zq H
              clear H
              go_upto_region 10 with (fail)
              go_cut [49] (fun v49 wc => ∃ (kq : Nat) (x49_16 : Bool), v49 = .bool x49_16 ∧ Aside0 (deckleref10_right.j3 kq t113 x6_10 x7_13 x49_16 a0_0 l0_1 l0_2 l0_3 = some (r1, r2)) ∧ Aside0 (kq ≤ kj13) ∧ Aside0 (wc.heap[gb112]? = some (.cells #[.int .i64 a0_0, (.slice A0_1 l0_1.length c0_1), (.slice A0_2 l0_2.length c0_2), (.slice A0_3 l0_3.length c0_3)] 32 (0, 0))) ∧ Aside0 (Below w.heap.size w wc))
              case first =>
                have H := HC17.out
                clear HC17
                by_cases c18 : (l0_2.length : Int) = x6_10
                rotate_left
                · rw [if_neg c18] at H
                  have c18b0 : ((l0_2.length : Int) == x6_10) = false := beq_eq_false_iff_ne.mpr c18
                  have c18b1 : ((l0_2.length : Int) != x6_10) = true := bne_iff_ne.mpr c18
                  (first | rw [c18b0] | (simp only [i64_w, i32_w]; rw [c18b0]) | skip)
                  have H' := zq H
                  clear H
                  obtain ⟨hcz20_0, hcz20_1, hcz20_2, hcz20_3, hfz20_0, hfz20_1, hfz20_2, hfz20_3⟩ := cz4 BK112.out
                  go_wp2
                  go_meet
                  case rel => exact ⟨_, (true), J4, H', ⟨by have := HJ2.out; have := HJ10.out; have := HJ13.out; first | omega | exact Nat.le_refl _⟩, ⟨J11⟩, ⟨J5⟩⟩
                rw [if_pos c18] at H
                have c18b0 : ((l0_2.length : Int) == x6_10) = true := beq_iff_eq.mpr c18
                have c18b1 : ((l0_2.length : Int) != x6_10) = false := bne_eq_false_iff_eq.mpr c18
                clear c18
                (first | rw [c18b0] | (simp only [i64_w, i32_w]; rw [c18b0]) | skip)
                have H' := zq H
                clear H
                obtain ⟨hcz19_0, hcz19_1, hcz19_2, hcz19_3, hfz19_0, hfz19_1, hfz19_2, hfz19_3⟩ := cz4 BK112.out
                go_wp2
                go_meet
                case rel => exact ⟨_, (((l0_3.length : Int) != x7_13)), J4, H', ⟨by have := HJ2.out; have := HJ10.out; have := HJ13.out; first | omega | exact Nat.le_refl _⟩, ⟨J11⟩, ⟨J5⟩⟩
              case rest =>
                clear HC17
                try clear c1
                try clear p2
                try clear c6
                try clear c7
                try clear c7b0
                try clear c8
                try clear c10
                try clear c13
                try clear c13b0
                try clear c16
                try clear c16b0
                try clear c16b1
                try clear c18
                try clear c18b0
                try clear c18b1
                try clear hcz12_0
                try clear hcz12_1
                try clear hcz12_2
                try clear hcz12_3
                try clear hcz15_0
                try clear hcz15_1
                try clear hcz15_2
                try clear hcz15_3
                try clear hcz19_0
                try clear hcz19_1
                try clear hcz19_2
                try clear hcz19_3
                try clear hcz20_0
                try clear hcz20_1
                try clear hcz20_2
                try clear hcz20_3
                try clear hcz5_0
                try clear hcz5_1
                try clear hcz5_2
                try clear hcz5_3
                try clear hcz8_0
                try clear hcz8_1
                try clear hcz8_2
                try clear hcz8_3
                try clear hcz9_0
                try clear hcz9_1
                try clear hcz9_2
                try clear hcz9_3
                try clear hfz12_0
                try clear hfz12_1
                try clear hfz12_2
                try clear hfz12_3
                try clear hfz15_0
                try clear hfz15_1
                try clear hfz15_2
                try clear hfz15_3
                try clear hfz19_0
                try clear hfz19_1
                try clear hfz19_2
                try clear hfz19_3
                try clear hfz20_0
                try clear hfz20_1
                try clear hfz20_2
                try clear hfz20_3
                try clear hfz5_0
                try clear hfz5_1
                try clear hfz5_2
                try clear hfz5_3
                try clear hfz8_0
                try clear hfz8_1
                try clear hfz8_2
                try clear hfz8_3
                try clear hfz9_0
                try clear hfz9_1
                try clear hfz9_2
                try clear hfz9_3
                try clear p2
                obtain ⟨kq, x49_16, rfl, HA, HJ16, BK112, HB⟩ := hcut
                cases kq with
                | zero => exact absurd HA.out (by simp [deckleref10_right.j3])
                | succ kj16 =>
                  have H := HA.out
                  clear HA
                  simp only [deckleref10_right.j3] at H
                  by_cases c21 : x49_16 = true
                  · subst c21
                    rw [if_pos rfl] at H
                    simp only [Option.some.injEq, Prod.mk.injEq] at H
                    obtain ⟨rfl, rfl⟩ := H
                    go_wp2
                    go_ret2
                    exact ⟨J2, J5⟩
                  replace c21 := Bool.eq_false_iff.mpr c21
                  subst c21
                  rw [if_neg (show ¬ (false = true) by decide)] at H
                  have H' := zq H
                  clear H
                  go_wp2
                  go_loopg [8] kj16 (fun kq v8 w' => ∃ (x8_5 : Int), v8 = .int .i64 x8_5 ∧ Aside0 (deckleref10_right.l0 kq t113 x6_10 x7_13 x8_5 a0_0 l0_1 l0_2 l0_3 = some (r1, r2)) ∧ Aside0 (kq ≤ kj16) ∧ Aside0 (w'.heap[gb112]? = some (.cells #[.int .i64 a0_0, (.slice A0_1 l0_1.length c0_1), (.slice A0_2 l0_2.length c0_2), (.slice A0_3 l0_3.length c0_3)] 32 (0, 0))) ∧ Aside0 (Below w.heap.size w w'))
                  case atStart => exact ⟨(0), J4, H', ⟨Nat.le_refl _⟩, ⟨J11⟩, ⟨J5⟩⟩
                  case round =>
                    clear H'
                    try clear c1
                    try clear c2
                    try clear p2
                    try clear c6
                    try clear c7
                    try clear c7b0
                    try clear c8
                    try clear c10
                    try clear c13
                    try clear c13b0
                    try clear c16
                    try clear c16b0
                    try clear c16b1
                    try clear c18
                    try clear c18b0
                    try clear c18b1
                    try clear c21
                    try clear hcz12_0
                    try clear hcz12_1
                    try clear hcz12_2
                    try clear hcz12_3
                    try clear hcz15_0
                    try clear hcz15_1
                    try clear hcz15_2
                    try clear hcz15_3
                    try clear hcz19_0
                    try clear hcz19_1
                    try clear hcz19_2
                    try clear hcz19_3
                    try clear hcz20_0
                    try clear hcz20_1
                    try clear hcz20_2
                    try clear hcz20_3
                    try clear hcz5_0
                    try clear hcz5_1
                    try clear hcz5_2
                    try clear hcz5_3
                    try clear hcz8_0
                    try clear hcz8_1
                    try clear hcz8_2
                    try clear hcz8_3
                    try clear hcz9_0
                    try clear hcz9_1
                    try clear hcz9_2
                    try clear hcz9_3
                    try clear hfz12_0
                    try clear hfz12_1
                    try clear hfz12_2
                    try clear hfz12_3
                    try clear hfz15_0
                    try clear hfz15_1
                    try clear hfz15_2
                    try clear hfz15_3
                    try clear hfz19_0
                    try clear hfz19_1
                    try clear hfz19_2
                    try clear hfz19_3
                    try clear hfz20_0
                    try clear hfz20_1
                    try clear hfz20_2
                    try clear hfz20_3
                    try clear hfz5_0
                    try clear hfz5_1
                    try clear hfz5_2
                    try clear hfz5_3
                    try clear hfz8_0
                    try clear hfz8_1
                    try clear hfz8_2
                    try clear hfz8_3
                    try clear hfz9_0
                    try clear hfz9_1
                    try clear hfz9_2
                    try clear hfz9_3
                    try clear p2
                    obtain ⟨x8_5, rfl, HA, HK5, BK112, HB⟩ := hrel
                    cases gk with
                    | zero => exact absurd HA.out (by simp [deckleref10_right.l0])
                    | succ k5 =>
                      have H := HA.out
                      clear HA
                      simp only [deckleref10_right.l0] at H
                      by_cases c22 : x8_5 < x6_10
                      rotate_left
                      · rw [if_neg c22] at H
                        have c22b0 := decide_eq_false c22
                        clear c22
                        have H' := zq H
                        clear H
                        go_wp2
                        go_loopg [10] k5 (fun kq v10 w' => ∃ (x10_6 : Int), v10 = .int .i64 x10_6 ∧ Aside0 (deckleref10_right.l1 kq t113 x7_13 x10_6 a0_0 l0_1 l0_2 l0_3 = some (r1, r2)) ∧ Aside0 (kq ≤ k5) ∧ Aside0 (w'.heap[gb112]? = some (.cells #[.int .i64 a0_0, (.slice A0_1 l0_1.length c0_1), (.slice A0_2 l0_2.length c0_2), (.slice A0_3 l0_3.length c0_3)] 32 (0, 0))) ∧ Aside0 (Below w.heap.size w w'))
                        case atStart => exact ⟨(0), J4, H', ⟨Nat.le_refl _⟩, ⟨J11⟩, ⟨J5⟩⟩
                        case round =>
                          clear H'
                          try clear p1
                          try clear q1
                          try clear hx1
                          try clear c2
                          try clear p2
                          try clear c3
                          try clear c4
                          try clear c5
                          try clear p6
                          try clear p11
                          try clear q11
                          try clear hx11
                          try clear c22
                          try clear c22b0
                          try clear c23
                          try clear c23b0
                          try clear c24
                          try clear c24b0
                          try clear c25
                          try clear c25b0
                          try clear c25b1
                          try clear c26
                          try clear c26b0
                          try clear c26b1
                          try clear c27
                          try clear c27b0
                          try clear c27b1
                          try clear c28
                          try clear c28b0
                          try clear c30
                          try clear c30b0
                          try clear c32
                          try clear c32b0
                          try clear c33
                          try clear c33b0
                          try clear c38
                          try clear c38b0
                          try clear c38b1
                          try clear c39
                          try clear c39b0
                          try clear c39b1
                          try clear c40
                          try clear c40b0
                          try clear c42
                          try clear c42b0
                          try clear c44
                          try clear c44b0
                          try clear c45
                          try clear c45b0
                          try clear c51
                          try clear c51b0
                          try clear c51b1
                          try clear c52
                          try clear c52b0
                          try clear c54
                          try clear c54b0
                          try clear c56
                          try clear c56b0
                          try clear c57
                          try clear c57b0
                          try clear hcz19_3
                          try clear hcz20_0
                          try clear hcz20_1
                          try clear hcz20_2
                          try clear hcz20_3
                          try clear hcz29_0
                          try clear hcz29_1
                          try clear hcz29_2
                          try clear hcz29_3
                          try clear hcz31_0
                          try clear hcz31_1
                          try clear hcz31_2
                          try clear hcz31_3
                          try clear hcz34_0
                          try clear hcz34_1
                          try clear hcz34_2
                          try clear hcz34_3
                          try clear hcz35_0
                          try clear hcz35_1
                          try clear hcz35_2
                          try clear hcz35_3
                          try clear hcz36_0
                          try clear hcz36_1
                          try clear hcz36_2
                          try clear hcz36_3
                          try clear hcz37_0
                          try clear hcz37_1
                          try clear hcz37_2
                          try clear hcz37_3
                          try clear hcz41_0
                          try clear hcz41_1
                          try clear hcz41_2
                          try clear hcz41_3
                          try clear hcz43_0
                          try clear hcz43_1
                          try clear hcz43_2
                          try clear hcz43_3
                          try clear hcz46_0
                          try clear hcz46_1
                          try clear hcz46_2
                          try clear hcz46_3
                          try clear hcz47_0
                          try clear hcz47_1
                          try clear hcz47_2
                          try clear hcz47_3
                          try clear hcz48_0
                          try clear hcz48_1
                          try clear hcz48_2
                          try clear hcz48_3
                          try clear hcz49_0
                          try clear hcz49_1
                          try clear hcz49_2
                          try clear hcz49_3
                          try clear hcz50_0
                          try clear hcz50_1
                          try clear hcz50_2
                          try clear hcz50_3
                          try clear hcz53_0
                          try clear hcz53_1
                          try clear hcz53_2
                          try clear hcz53_3
                          try clear hcz55_0
                          try clear hcz55_1
                          try clear hcz55_2
                          try clear hcz55_3
                          try clear hcz58_0
                          try clear hcz58_1
                          try clear hcz58_2
                          try clear hcz58_3
                          try clear hcz59_0
                          try clear hcz59_1
                          try clear hcz59_2
                          try clear hcz59_3
                          try clear hcz5_0
                          try clear hcz5_1
                          try clear hcz5_2
                          try clear hcz5_3
                          try clear hcz60_0
                          try clear hcz60_1
                          try clear hcz60_2
                          try clear hcz60_3
                          try clear hcz61_0
                          try clear hcz61_1
                          try clear hcz61_2
                          try clear hcz61_3
                          try clear hcz8_0
                          try clear hcz8_1
                          try clear hcz8_2
                          try clear hcz8_3
                          try clear hcz9_0
                          try clear hcz9_1
                          try clear hcz9_2
                          try clear hcz9_3
                          try clear hfz12_0
                          try clear hfz12_1
                          try clear hfz12_2
                          try clear hfz12_3
                          try clear hfz15_0
                          try clear hfz15_1
                          try clear hfz15_2
                          try clear hfz15_3
                          try clear hfz19_0
                          try clear hfz19_1
                          try clear hfz19_2
                          try clear hfz19_3
                          try clear hfz20_0
                          try clear hfz20_1
                          try clear hfz20_2
                          try clear hfz20_3
                          try clear hfz29_0
                          try clear hfz29_1
                          try clear hfz29_2
                          try clear hfz29_3
                          try clear hfz31_0
                          try clear hfz31_1
                          try clear hfz31_2
                          try clear hfz31_3
                          try clear hfz34_0
                          try clear hfz34_1
                          try clear hfz34_2
                          try clear hfz34_3
                          try clear hfz35_0
                          try clear hfz35_1
                          try clear hfz35_2
                          try clear hfz35_3
                          try clear hfz36_0
                          try clear hfz36_1
                          try clear hfz36_2
                          try clear hfz36_3
                          try clear hfz37_0
                          try clear hfz37_1
                          try clear hfz37_2
                          try clear hfz37_3
                          try clear hfz41_0
                          try clear hfz41_1
                          try clear hfz41_2
                          try clear hfz41_3
                          try clear hfz43_0
                          try clear hfz43_1
                          try clear hfz43_2
                          try clear hfz43_3
                          try clear hfz46_0
                          try clear hfz46_1
                          try clear hfz46_2
                          try clear hfz46_3
                          try clear hfz47_0
                          try clear hfz47_1
                          try clear hfz47_2
                          try clear hfz47_3
                          try clear hfz48_0
                          try clear hfz48_1
                          try clear hfz48_2
                          try clear hfz48_3
                          try clear hfz49_0
                          try clear hfz49_1
                          try clear hfz49_2
                          try clear hfz49_3
                          try clear hfz50_0
                          try clear hfz50_1
                          try clear hfz50_2
                          try clear hfz50_3
                          try clear hfz53_0
                          try clear hfz53_1
                          try clear hfz53_2
                          try clear hfz53_3
                          try clear hfz55_0
                          try clear hfz55_1
                          try clear hfz55_2
                          try clear hfz55_3
                          try clear hfz58_0
                          try clear hfz58_1
                          try clear hfz58_2
                          try clear hfz58_3
                          try clear hfz59_0
                          try clear hfz59_1
                          try clear hfz59_2
                          try clear hfz59_3
                          try clear hfz5_0
                          try clear hfz5_1
                          try clear hfz5_2
                          try clear hfz5_3
                          try clear hfz60_0
                          try clear hfz60_1
                          try clear hfz60_2
                          try clear hfz60_3
                          try clear hfz61_0
                          try clear hfz61_1
                          try clear hfz61_2
                          try clear hfz61_3
                          try clear hfz8_0
                          try clear hfz8_1
                          try clear hfz8_2
                          try clear hfz8_3
                          try clear hfz9_0
                          try clear hfz9_1
                          try clear hfz9_2
                          try clear hfz9_3
                          try clear hx115_0
                          try clear p115
                          try clear p2
                          try clear q115
                          obtain ⟨x10_6, rfl, HA, HK6, BK112, HB⟩ := hrel
                          cases gk with
                          | zero => exact absurd HA.out (by simp [deckleref10_right.l1])
                          | succ k6 =>
                            have H := HA.out
                            clear HA
                            simp only [deckleref10_right.l1] at H
                            by_cases c62 : x10_6 < x7_13
                            · rw [if_pos c62] at H
                              have c62b0 := decide_eq_true c62
                              clear c62
                              by_cases c63 : 0 ≤ x10_6
                              · rw [if_pos c63] at H
                                have c63b0 := decide_eq_true c63
                                clear c63
                                by_cases c64 : x10_6 < (l0_3.length : Int)
                                · rw [if_pos c64] at H
                                  have c64b0 := decide_eq_true c64
                                  clear c64
                                  replace H := Option.bind_eq_some_iff.mp H
                                  obtain ⟨t117, A650, H⟩ := H
                                  have A65 := zq A650
                                  clear A650
                                  by_cases c66 : t117 = true
                                  · subst c66
                                    rw [if_pos rfl] at H
                                    have H' := zq H
                                    clear H
                                    obtain ⟨hcz67_0, hcz67_1, hcz67_2, hcz67_3, hfz67_0, hfz67_1, hfz67_2, hfz67_3⟩ := cz4 BK112.out
                                    have p116 : 0 ≤ (x10_6 : Int) := of_decide_eq_true J3
                                    have q116 : x10_6 < (l0_3.length : Int) := of_decide_eq_true J3
                                    obtain ⟨ad116, e116, hx116_0, hx116_1⟩ := at_T40 HR0_3.out x10_6 p116 q116
                                    cases e116
                                    replace hx116_0 := (HB.out.cell (World.block_lt_of_cell? w _ hx116_0)).trans hx116_0
                                    replace hx116_1 := (HB.out.cell (World.block_lt_of_cell? w _ hx116_1)).trans hx116_1
                                    replace p116 := eq_true p116
                                    replace q116 := eq_true q116
                                    go_wp2_with (first | ((with_reducible refine gate_callee (f := 71) rfl ?_); refine goesL_ (some 102) rfl rfl Tryd.func71 J8 rfl #[.agg #[.int .i64 ((rd_T40 l0_3 x10_6).f0), .int .i64 ((rd_T40 l0_3 x10_6).f1)]] rfl J1 ?_; (with_reducible refine (deckleref06_Right.calls k6 ((rd_T40 l0_3 x10_6).f0) ((rd_T40 l0_3 x10_6).f1) true _ A65.out).mono ?_); rintro e w68 ⟨rfl, hb⟩; refine ⟨_, rfl, ?_⟩; replace BK112 := zq (blk_below (g := gb112) (o := .cells #[.int .i64 a0_0, .slice A0_1 l0_1.length c0_1, .slice A0_2 l0_2.length c0_2, .slice (some ad116) l0_3.length c0_3] 32 (0, 0)) (zk BK112.out) hb); replace HB := zq (below_step (zs1 GE112.out) hb); (try clear hb)))
                                    go_roundg k6
                                    case measure => have := HJ2.out; have := HJ10.out; have := HJ13.out; have := HJ16.out; have := HK5.out; have := HK6.out; omega
                                    case rel => exact ⟨(wrap64 (x10_6 + 1)), J4, H', ⟨by have := HJ2.out; have := HJ10.out; have := HJ13.out; have := HJ16.out; have := HK5.out; have := HK6.out; omega⟩, ⟨J11⟩, ⟨J5⟩⟩
                                  · replace c66 := Bool.eq_false_iff.mpr c66
                                    subst c66
                                    rw [if_neg (show ¬ (false = true) by decide)] at H
                                    simp only [Option.some.injEq, Prod.mk.injEq] at H
                                    obtain ⟨rfl, rfl⟩ := H
                                    obtain ⟨hcz69_0, hcz69_1, hcz69_2, hcz69_3, hfz69_0, hfz69_1, hfz69_2, hfz69_3⟩ := cz4 BK112.out
                                    have p116 : 0 ≤ (x10_6 : Int) := of_decide_eq_true J3
                                    have q116 : x10_6 < (l0_3.length : Int) := of_decide_eq_true J3
                                    obtain ⟨ad116, e116, hx116_0, hx116_1⟩ := at_T40 HR0_3.out x10_6 p116 q116
                                    cases e116
                                    replace hx116_0 := (HB.out.cell (World.block_lt_of_cell? w _ hx116_0)).trans hx116_0
                                    replace hx116_1 := (HB.out.cell (World.block_lt_of_cell? w _ hx116_1)).trans hx116_1
                                    replace p116 := eq_true p116
                                    replace q116 := eq_true q116
                                    go_wp2_with (first | ((with_reducible refine gate_callee (f := 71) rfl ?_); refine goesL_ (some 102) rfl rfl Tryd.func71 J8 rfl #[.agg #[.int .i64 ((rd_T40 l0_3 x10_6).f0), .int .i64 ((rd_T40 l0_3 x10_6).f1)]] rfl J1 ?_; (with_reducible refine (deckleref06_Right.calls k6 ((rd_T40 l0_3 x10_6).f0) ((rd_T40 l0_3 x10_6).f1) false _ A65.out).mono ?_); rintro e w70 ⟨rfl, hb⟩; refine ⟨_, rfl, ?_⟩; replace HB := zq (below_step (zs1 GE112.out) hb); (try clear hb)))
                                    go_ret2
                                    exact ⟨J2, J5⟩
                                · rw [if_neg c64] at H
                                  exact absurd H J32
                              · rw [if_neg c63] at H
                                exact absurd H J32
                            · rw [if_neg c62] at H
                              have c62b0 := decide_eq_false c62
                              clear c62
                              simp only [Option.some.injEq, Prod.mk.injEq] at H
                              obtain ⟨rfl, rfl⟩ := H
                              go_wp2
                              go_ret2
                              exact ⟨J2, J5⟩
                      rw [if_pos c22] at H
                      have c22b0 := decide_eq_true c22
                      clear c22
                      by_cases c23 : 0 ≤ x8_5
                      rotate_left
                      · rw [if_neg c23] at H
                        exact absurd H J32
                      rw [if_pos c23] at H
                      have c23b0 := decide_eq_true c23
                      clear c23
                      by_cases c24 : x8_5 < (l0_2.length : Int)
                      rotate_left
                      · rw [if_neg c24] at H
                        exact absurd H J32
                      rw [if_pos c24] at H
                      have c24b0 := decide_eq_true c24
                      clear c24
                      by_cases c25 : a0_0 = 1
                      rotate_left
                      · rw [if_neg c25] at H
                        have c25b0 : (a0_0 == 1) = false := beq_eq_false_iff_ne.mpr c25
                        have c25b1 : (a0_0 != 1) = true := bne_iff_ne.mpr c25
                        by_cases c51 : a0_0 = 3
                        · rw [if_pos c51] at H
                          have c51b0 : (a0_0 == 3) = true := beq_iff_eq.mpr c51
                          have c51b1 : (a0_0 != 3) = false := bne_eq_false_iff_eq.mpr c51
                          clear c51
                          by_cases c52 : (rd l0_2 x8_5) < 0
                          · rw [if_pos c52] at H
                            have c52b0 := decide_eq_true c52
                            clear c52
                            simp only [Option.some.injEq, Prod.mk.injEq] at H
                            obtain ⟨rfl, rfl⟩ := H
                            obtain ⟨hcz53_0, hcz53_1, hcz53_2, hcz53_3, hfz53_0, hfz53_1, hfz53_2, hfz53_3⟩ := cz4 BK112.out
                            have p115 : 0 ≤ (x8_5 : Int) := of_decide_eq_true J3
                            have q115 : x8_5 < (l0_2.length : Int) := of_decide_eq_true J3
                            obtain ⟨ad115, e115, hx115_0⟩ := Kd.at_int HR0_2.out x8_5 p115 q115
                            cases e115
                            replace hx115_0 := (HB.out.cell (World.block_lt_of_cell? w _ hx115_0)).trans hx115_0
                            replace p115 := eq_true p115
                            replace q115 := eq_true q115
                            go_wp2
                            go_ret2
                            exact ⟨J2, J5⟩
                          · rw [if_neg c52] at H
                            have c52b0 := decide_eq_false c52
                            clear c52
                            by_cases c54 : (rd l0_2 x8_5) > 1114111
                            · rw [if_pos c54] at H
                              have c54b0 := decide_eq_true c54
                              clear c54
                              simp only [Option.some.injEq, Prod.mk.injEq] at H
                              obtain ⟨rfl, rfl⟩ := H
                              obtain ⟨hcz55_0, hcz55_1, hcz55_2, hcz55_3, hfz55_0, hfz55_1, hfz55_2, hfz55_3⟩ := cz4 BK112.out
                              have p115 : 0 ≤ (x8_5 : Int) := of_decide_eq_true J3
                              have q115 : x8_5 < (l0_2.length : Int) := of_decide_eq_true J3
                              obtain ⟨ad115, e115, hx115_0⟩ := Kd.at_int HR0_2.out x8_5 p115 q115
                              cases e115
                              replace hx115_0 := (HB.out.cell (World.block_lt_of_cell? w _ hx115_0)).trans hx115_0
                              replace p115 := eq_true p115
                              replace q115 := eq_true q115
                              go_wp2
                              go_ret2
                              exact ⟨J2, J5⟩
                            · rw [if_neg c54] at H
                              have c54b0 := decide_eq_false c54
                              clear c54
                              by_cases c56 : (rd l0_2 x8_5) ≥ 55296
                              · rw [if_pos c56] at H
                                have c56b0 := decide_eq_true c56
                                clear c56
                                by_cases c57 : (rd l0_2 x8_5) ≤ 57343
                                · rw [if_pos c57] at H
                                  have c57b0 := decide_eq_true c57
                                  clear c57
                                  simp only [Option.some.injEq, Prod.mk.injEq] at H
                                  obtain ⟨rfl, rfl⟩ := H
                                  obtain ⟨hcz58_0, hcz58_1, hcz58_2, hcz58_3, hfz58_0, hfz58_1, hfz58_2, hfz58_3⟩ := cz4 BK112.out
                                  have p115 : 0 ≤ (x8_5 : Int) := of_decide_eq_true J3
                                  have q115 : x8_5 < (l0_2.length : Int) := of_decide_eq_true J3
                                  obtain ⟨ad115, e115, hx115_0⟩ := Kd.at_int HR0_2.out x8_5 p115 q115
                                  cases e115
                                  replace hx115_0 := (HB.out.cell (World.block_lt_of_cell? w _ hx115_0)).trans hx115_0
                                  replace p115 := eq_true p115
                                  replace q115 := eq_true q115
                                  go_wp2
                                  go_ret2
                                  exact ⟨J2, J5⟩
                                · rw [if_neg c57] at H
                                  have c57b0 := decide_eq_false c57
                                  clear c57
                                  have H' := zq H
                                  clear H
                                  obtain ⟨hcz59_0, hcz59_1, hcz59_2, hcz59_3, hfz59_0, hfz59_1, hfz59_2, hfz59_3⟩ := cz4 BK112.out
                                  have p115 : 0 ≤ (x8_5 : Int) := of_decide_eq_true J3
                                  have q115 : x8_5 < (l0_2.length : Int) := of_decide_eq_true J3
                                  obtain ⟨ad115, e115, hx115_0⟩ := Kd.at_int HR0_2.out x8_5 p115 q115
                                  cases e115
                                  replace hx115_0 := (HB.out.cell (World.block_lt_of_cell? w _ hx115_0)).trans hx115_0
                                  replace p115 := eq_true p115
                                  replace q115 := eq_true q115
                                  go_wp2
                                  go_roundg k5
                                  case measure => have := HJ2.out; have := HJ10.out; have := HJ13.out; have := HJ16.out; have := HK5.out; omega
                                  case rel => exact ⟨(wrap64 (x8_5 + 1)), J4, H', ⟨J38⟩, ⟨J11⟩, ⟨J5⟩⟩
                              · rw [if_neg c56] at H
                                have c56b0 := decide_eq_false c56
                                clear c56
                                have H' := zq H
                                clear H
                                obtain ⟨hcz60_0, hcz60_1, hcz60_2, hcz60_3, hfz60_0, hfz60_1, hfz60_2, hfz60_3⟩ := cz4 BK112.out
                                have p115 : 0 ≤ (x8_5 : Int) := of_decide_eq_true J3
                                have q115 : x8_5 < (l0_2.length : Int) := of_decide_eq_true J3
                                obtain ⟨ad115, e115, hx115_0⟩ := Kd.at_int HR0_2.out x8_5 p115 q115
                                cases e115
                                replace hx115_0 := (HB.out.cell (World.block_lt_of_cell? w _ hx115_0)).trans hx115_0
                                replace p115 := eq_true p115
                                replace q115 := eq_true q115
                                go_wp2
                                go_roundg k5
                                case measure => have := HJ2.out; have := HJ10.out; have := HJ13.out; have := HJ16.out; have := HK5.out; omega
                                case rel => exact ⟨(wrap64 (x8_5 + 1)), J4, H', ⟨J38⟩, ⟨J11⟩, ⟨J5⟩⟩
                        · rw [if_neg c51] at H
                          have c51b0 : (a0_0 == 3) = false := beq_eq_false_iff_ne.mpr c51
                          have c51b1 : (a0_0 != 3) = true := bne_iff_ne.mpr c51
                          have H' := zq H
                          clear H
                          obtain ⟨hcz61_0, hcz61_1, hcz61_2, hcz61_3, hfz61_0, hfz61_1, hfz61_2, hfz61_3⟩ := cz4 BK112.out
                          have p115 : 0 ≤ (x8_5 : Int) := of_decide_eq_true J3
                          have q115 : x8_5 < (l0_2.length : Int) := of_decide_eq_true J3
                          obtain ⟨ad115, e115, hx115_0⟩ := Kd.at_int HR0_2.out x8_5 p115 q115
                          cases e115
                          replace hx115_0 := (HB.out.cell (World.block_lt_of_cell? w _ hx115_0)).trans hx115_0
                          replace p115 := eq_true p115
                          replace q115 := eq_true q115
                          go_wp2
                          go_roundg k5
                          case measure => have := HJ2.out; have := HJ10.out; have := HJ13.out; have := HJ16.out; have := HK5.out; omega
                          case rel => exact ⟨(wrap64 (x8_5 + 1)), J4, H', ⟨J38⟩, ⟨J11⟩, ⟨J5⟩⟩
                      rw [if_pos c25] at H
                      have c25b0 : (a0_0 == 1) = true := beq_iff_eq.mpr c25
                      have c25b1 : (a0_0 != 1) = false := bne_eq_false_iff_eq.mpr c25
                      clear c25
                      by_cases c26 : (rd l0_2 x8_5) = 0
                      · rw [if_pos c26] at H
                        have c26b0 : ((rd l0_2 x8_5) == 0) = true := beq_iff_eq.mpr c26
                        have c26b1 : ((rd l0_2 x8_5) != 0) = false := bne_eq_false_iff_eq.mpr c26
                        clear c26
                        by_cases c27 : a0_0 = 3
                        · rw [if_pos c27] at H
                          have c27b0 : (a0_0 == 3) = true := beq_iff_eq.mpr c27
                          have c27b1 : (a0_0 != 3) = false := bne_eq_false_iff_eq.mpr c27
                          clear c27
                          by_cases c28 : (rd l0_2 x8_5) < 0
                          · rw [if_pos c28] at H
                            have c28b0 := decide_eq_true c28
                            clear c28
                            simp only [Option.some.injEq, Prod.mk.injEq] at H
                            obtain ⟨rfl, rfl⟩ := H
                            obtain ⟨hcz29_0, hcz29_1, hcz29_2, hcz29_3, hfz29_0, hfz29_1, hfz29_2, hfz29_3⟩ := cz4 BK112.out
                            have p115 : 0 ≤ (x8_5 : Int) := of_decide_eq_true J3
                            have q115 : x8_5 < (l0_2.length : Int) := of_decide_eq_true J3
                            obtain ⟨ad115, e115, hx115_0⟩ := Kd.at_int HR0_2.out x8_5 p115 q115
                            cases e115
                            replace hx115_0 := (HB.out.cell (World.block_lt_of_cell? w _ hx115_0)).trans hx115_0
                            replace p115 := eq_true p115
                            replace q115 := eq_true q115
                            go_wp2
                            go_ret2
                            exact ⟨J2, J5⟩
                          · rw [if_neg c28] at H
                            have c28b0 := decide_eq_false c28
                            clear c28
                            by_cases c30 : (rd l0_2 x8_5) > 1114111
                            · rw [if_pos c30] at H
                              have c30b0 := decide_eq_true c30
                              clear c30
                              simp only [Option.some.injEq, Prod.mk.injEq] at H
                              obtain ⟨rfl, rfl⟩ := H
                              obtain ⟨hcz31_0, hcz31_1, hcz31_2, hcz31_3, hfz31_0, hfz31_1, hfz31_2, hfz31_3⟩ := cz4 BK112.out
                              have p115 : 0 ≤ (x8_5 : Int) := of_decide_eq_true J3
                              have q115 : x8_5 < (l0_2.length : Int) := of_decide_eq_true J3
                              obtain ⟨ad115, e115, hx115_0⟩ := Kd.at_int HR0_2.out x8_5 p115 q115
                              cases e115
                              replace hx115_0 := (HB.out.cell (World.block_lt_of_cell? w _ hx115_0)).trans hx115_0
                              replace p115 := eq_true p115
                              replace q115 := eq_true q115
                              go_wp2
                              go_ret2
                              exact ⟨J2, J5⟩
                            · rw [if_neg c30] at H
                              have c30b0 := decide_eq_false c30
                              clear c30
                              by_cases c32 : (rd l0_2 x8_5) ≥ 55296
                              · rw [if_pos c32] at H
                                have c32b0 := decide_eq_true c32
                                clear c32
                                by_cases c33 : (rd l0_2 x8_5) ≤ 57343
                                · rw [if_pos c33] at H
                                  have c33b0 := decide_eq_true c33
                                  clear c33
                                  simp only [Option.some.injEq, Prod.mk.injEq] at H
                                  obtain ⟨rfl, rfl⟩ := H
                                  obtain ⟨hcz34_0, hcz34_1, hcz34_2, hcz34_3, hfz34_0, hfz34_1, hfz34_2, hfz34_3⟩ := cz4 BK112.out
                                  have p115 : 0 ≤ (x8_5 : Int) := of_decide_eq_true J3
                                  have q115 : x8_5 < (l0_2.length : Int) := of_decide_eq_true J3
                                  obtain ⟨ad115, e115, hx115_0⟩ := Kd.at_int HR0_2.out x8_5 p115 q115
                                  cases e115
                                  replace hx115_0 := (HB.out.cell (World.block_lt_of_cell? w _ hx115_0)).trans hx115_0
                                  replace p115 := eq_true p115
                                  replace q115 := eq_true q115
                                  go_wp2
                                  go_ret2
                                  exact ⟨J2, J5⟩
                                · rw [if_neg c33] at H
                                  have c33b0 := decide_eq_false c33
                                  clear c33
                                  have H' := zq H
                                  clear H
                                  obtain ⟨hcz35_0, hcz35_1, hcz35_2, hcz35_3, hfz35_0, hfz35_1, hfz35_2, hfz35_3⟩ := cz4 BK112.out
                                  have p115 : 0 ≤ (x8_5 : Int) := of_decide_eq_true J3
                                  have q115 : x8_5 < (l0_2.length : Int) := of_decide_eq_true J3
                                  obtain ⟨ad115, e115, hx115_0⟩ := Kd.at_int HR0_2.out x8_5 p115 q115
                                  cases e115
                                  replace hx115_0 := (HB.out.cell (World.block_lt_of_cell? w _ hx115_0)).trans hx115_0
                                  replace p115 := eq_true p115
                                  replace q115 := eq_true q115
                                  go_wp2
                                  go_roundg k5
                                  case measure => have := HJ2.out; have := HJ10.out; have := HJ13.out; have := HJ16.out; have := HK5.out; omega
                                  case rel => exact ⟨(wrap64 (x8_5 + 1)), J4, H', ⟨J38⟩, ⟨J11⟩, ⟨J5⟩⟩
                              · rw [if_neg c32] at H
                                have c32b0 := decide_eq_false c32
                                clear c32
                                have H' := zq H
                                clear H
                                obtain ⟨hcz36_0, hcz36_1, hcz36_2, hcz36_3, hfz36_0, hfz36_1, hfz36_2, hfz36_3⟩ := cz4 BK112.out
                                have p115 : 0 ≤ (x8_5 : Int) := of_decide_eq_true J3
                                have q115 : x8_5 < (l0_2.length : Int) := of_decide_eq_true J3
                                obtain ⟨ad115, e115, hx115_0⟩ := Kd.at_int HR0_2.out x8_5 p115 q115
                                cases e115
                                replace hx115_0 := (HB.out.cell (World.block_lt_of_cell? w _ hx115_0)).trans hx115_0
                                replace p115 := eq_true p115
                                replace q115 := eq_true q115
                                go_wp2
                                go_roundg k5
                                case measure => have := HJ2.out; have := HJ10.out; have := HJ13.out; have := HJ16.out; have := HK5.out; omega
                                case rel => exact ⟨(wrap64 (x8_5 + 1)), J4, H', ⟨J38⟩, ⟨J11⟩, ⟨J5⟩⟩
                        · rw [if_neg c27] at H
                          have c27b0 : (a0_0 == 3) = false := beq_eq_false_iff_ne.mpr c27
                          have c27b1 : (a0_0 != 3) = true := bne_iff_ne.mpr c27
                          have H' := zq H
                          clear H
                          obtain ⟨hcz37_0, hcz37_1, hcz37_2, hcz37_3, hfz37_0, hfz37_1, hfz37_2, hfz37_3⟩ := cz4 BK112.out
                          have p115 : 0 ≤ (x8_5 : Int) := of_decide_eq_true J3
                          have q115 : x8_5 < (l0_2.length : Int) := of_decide_eq_true J3
                          obtain ⟨ad115, e115, hx115_0⟩ := Kd.at_int HR0_2.out x8_5 p115 q115
                          cases e115
                          replace hx115_0 := (HB.out.cell (World.block_lt_of_cell? w _ hx115_0)).trans hx115_0
                          replace p115 := eq_true p115
                          replace q115 := eq_true q115
                          go_wp2
                          go_roundg k5
                          case measure => have := HJ2.out; have := HJ10.out; have := HJ13.out; have := HJ16.out; have := HK5.out; omega
                          case rel => exact ⟨(wrap64 (x8_5 + 1)), J4, H', ⟨J38⟩, ⟨J11⟩, ⟨J5⟩⟩
                      rw [if_neg c26] at H
                      have c26b0 : ((rd l0_2 x8_5) == 0) = false := beq_eq_false_iff_ne.mpr c26
                      have c26b1 : ((rd l0_2 x8_5) != 0) = true := bne_iff_ne.mpr c26
                      by_cases c38 : (rd l0_2 x8_5) = 1
                      rotate_left
                      · rw [if_neg c38] at H
                        have c38b0 : ((rd l0_2 x8_5) == 1) = false := beq_eq_false_iff_ne.mpr c38
                        have c38b1 : ((rd l0_2 x8_5) != 1) = true := bne_iff_ne.mpr c38
                        simp only [Option.some.injEq, Prod.mk.injEq] at H
                        obtain ⟨rfl, rfl⟩ := H
                        obtain ⟨hcz50_0, hcz50_1, hcz50_2, hcz50_3, hfz50_0, hfz50_1, hfz50_2, hfz50_3⟩ := cz4 BK112.out
                        have p115 : 0 ≤ (x8_5 : Int) := of_decide_eq_true J3
                        have q115 : x8_5 < (l0_2.length : Int) := of_decide_eq_true J3
                        obtain ⟨ad115, e115, hx115_0⟩ := Kd.at_int HR0_2.out x8_5 p115 q115
                        cases e115
                        replace hx115_0 := (HB.out.cell (World.block_lt_of_cell? w _ hx115_0)).trans hx115_0
                        replace p115 := eq_true p115
                        replace q115 := eq_true q115
                        go_wp2
                        go_ret2
                        exact ⟨J2, J5⟩
                      rw [if_pos c38] at H
                      have c38b0 : ((rd l0_2 x8_5) == 1) = true := beq_iff_eq.mpr c38
                      have c38b1 : ((rd l0_2 x8_5) != 1) = false := bne_eq_false_iff_eq.mpr c38
                      clear c38
                      by_cases c39 : a0_0 = 3
                      rotate_left
                      · rw [if_neg c39] at H
                        have c39b0 : (a0_0 == 3) = false := beq_eq_false_iff_ne.mpr c39
                        have c39b1 : (a0_0 != 3) = true := bne_iff_ne.mpr c39
                        have H' := zq H
                        clear H
                        obtain ⟨hcz49_0, hcz49_1, hcz49_2, hcz49_3, hfz49_0, hfz49_1, hfz49_2, hfz49_3⟩ := cz4 BK112.out
                        have p115 : 0 ≤ (x8_5 : Int) := of_decide_eq_true J3
                        have q115 : x8_5 < (l0_2.length : Int) := of_decide_eq_true J3
                        obtain ⟨ad115, e115, hx115_0⟩ := Kd.at_int HR0_2.out x8_5 p115 q115
                        cases e115
                        replace hx115_0 := (HB.out.cell (World.block_lt_of_cell? w _ hx115_0)).trans hx115_0
                        replace p115 := eq_true p115
                        replace q115 := eq_true q115
                        go_wp2
                        go_roundg k5
                        case measure => have := HJ2.out; have := HJ10.out; have := HJ13.out; have := HJ16.out; have := HK5.out; omega
                        case rel => exact ⟨(wrap64 (x8_5 + 1)), J4, H', ⟨J38⟩, ⟨J11⟩, ⟨J5⟩⟩
                      rw [if_pos c39] at H
                      have c39b0 : (a0_0 == 3) = true := beq_iff_eq.mpr c39
                      have c39b1 : (a0_0 != 3) = false := bne_eq_false_iff_eq.mpr c39
                      clear c39
                      by_cases c40 : (rd l0_2 x8_5) < 0
                      · rw [if_pos c40] at H
                        have c40b0 := decide_eq_true c40
                        clear c40
                        simp only [Option.some.injEq, Prod.mk.injEq] at H
                        obtain ⟨rfl, rfl⟩ := H
                        obtain ⟨hcz41_0, hcz41_1, hcz41_2, hcz41_3, hfz41_0, hfz41_1, hfz41_2, hfz41_3⟩ := cz4 BK112.out
                        have p115 : 0 ≤ (x8_5 : Int) := of_decide_eq_true J3
                        have q115 : x8_5 < (l0_2.length : Int) := of_decide_eq_true J3
                        obtain ⟨ad115, e115, hx115_0⟩ := Kd.at_int HR0_2.out x8_5 p115 q115
                        cases e115
                        replace hx115_0 := (HB.out.cell (World.block_lt_of_cell? w _ hx115_0)).trans hx115_0
                        replace p115 := eq_true p115
                        replace q115 := eq_true q115
                        go_wp2
                        go_ret2
                        exact ⟨J2, J5⟩
                      rw [if_neg c40] at H
                      have c40b0 := decide_eq_false c40
                      clear c40
                      by_cases c42 : (rd l0_2 x8_5) > 1114111
                      · rw [if_pos c42] at H
                        have c42b0 := decide_eq_true c42
                        clear c42
                        simp only [Option.some.injEq, Prod.mk.injEq] at H
                        obtain ⟨rfl, rfl⟩ := H
                        obtain ⟨hcz43_0, hcz43_1, hcz43_2, hcz43_3, hfz43_0, hfz43_1, hfz43_2, hfz43_3⟩ := cz4 BK112.out
                        have p115 : 0 ≤ (x8_5 : Int) := of_decide_eq_true J3
                        have q115 : x8_5 < (l0_2.length : Int) := of_decide_eq_true J3
                        obtain ⟨ad115, e115, hx115_0⟩ := Kd.at_int HR0_2.out x8_5 p115 q115
                        cases e115
                        replace hx115_0 := (HB.out.cell (World.block_lt_of_cell? w _ hx115_0)).trans hx115_0
                        replace p115 := eq_true p115
                        replace q115 := eq_true q115
                        go_wp2
                        go_ret2
                        exact ⟨J2, J5⟩
                      rw [if_neg c42] at H
                      have c42b0 := decide_eq_false c42
                      clear c42
                      by_cases c44 : (rd l0_2 x8_5) ≥ 55296
                      rotate_left
                      · rw [if_neg c44] at H
                        have c44b0 := decide_eq_false c44
                        clear c44
                        have H' := zq H
                        clear H
                        obtain ⟨hcz48_0, hcz48_1, hcz48_2, hcz48_3, hfz48_0, hfz48_1, hfz48_2, hfz48_3⟩ := cz4 BK112.out
                        have p115 : 0 ≤ (x8_5 : Int) := of_decide_eq_true J3
                        have q115 : x8_5 < (l0_2.length : Int) := of_decide_eq_true J3
                        obtain ⟨ad115, e115, hx115_0⟩ := Kd.at_int HR0_2.out x8_5 p115 q115
                        cases e115
                        replace hx115_0 := (HB.out.cell (World.block_lt_of_cell? w _ hx115_0)).trans hx115_0
                        replace p115 := eq_true p115
                        replace q115 := eq_true q115
                        go_wp2
                        go_roundg k5
                        case measure => have := HJ2.out; have := HJ10.out; have := HJ13.out; have := HJ16.out; have := HK5.out; omega
                        case rel => exact ⟨(wrap64 (x8_5 + 1)), J4, H', ⟨J38⟩, ⟨J11⟩, ⟨J5⟩⟩
                      rw [if_pos c44] at H
                      have c44b0 := decide_eq_true c44
                      clear c44
                      by_cases c45 : (rd l0_2 x8_5) ≤ 57343
                      · rw [if_pos c45] at H
                        have c45b0 := decide_eq_true c45
                        clear c45
                        simp only [Option.some.injEq, Prod.mk.injEq] at H
                        obtain ⟨rfl, rfl⟩ := H
                        obtain ⟨hcz46_0, hcz46_1, hcz46_2, hcz46_3, hfz46_0, hfz46_1, hfz46_2, hfz46_3⟩ := cz4 BK112.out
                        have p115 : 0 ≤ (x8_5 : Int) := of_decide_eq_true J3
                        have q115 : x8_5 < (l0_2.length : Int) := of_decide_eq_true J3
                        obtain ⟨ad115, e115, hx115_0⟩ := Kd.at_int HR0_2.out x8_5 p115 q115
                        cases e115
                        replace hx115_0 := (HB.out.cell (World.block_lt_of_cell? w _ hx115_0)).trans hx115_0
                        replace p115 := eq_true p115
                        replace q115 := eq_true q115
                        go_wp2
                        go_ret2
                        exact ⟨J2, J5⟩
                      rw [if_neg c45] at H
                      have c45b0 := decide_eq_false c45
                      clear c45
                      have H' := zq H
                      clear H
                      obtain ⟨hcz47_0, hcz47_1, hcz47_2, hcz47_3, hfz47_0, hfz47_1, hfz47_2, hfz47_3⟩ := cz4 BK112.out
                      have p115 : 0 ≤ (x8_5 : Int) := of_decide_eq_true J3
                      have q115 : x8_5 < (l0_2.length : Int) := of_decide_eq_true J3
                      obtain ⟨ad115, e115, hx115_0⟩ := Kd.at_int HR0_2.out x8_5 p115 q115
                      cases e115
                      replace hx115_0 := (HB.out.cell (World.block_lt_of_cell? w _ hx115_0)).trans hx115_0
                      replace p115 := eq_true p115
                      replace q115 := eq_true q115
                      go_wp2
                      go_roundg k5
                      case measure => have := HJ2.out; have := HJ10.out; have := HJ13.out; have := HJ16.out; have := HK5.out; omega
                      case rel => exact ⟨(wrap64 (x8_5 + 1)), J4, H', ⟨J38⟩, ⟨J11⟩, ⟨J5⟩⟩
end Go.Proofs.YtfjhiiaahbjaiaaDoor.HSystemSigns
