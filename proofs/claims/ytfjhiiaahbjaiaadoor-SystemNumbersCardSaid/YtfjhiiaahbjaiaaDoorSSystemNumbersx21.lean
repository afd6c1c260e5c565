/- What the Go functions of this claim answer, told as functions of numbers and lists, and that other memory stays as it was: words and walks, shortened by a program. -/
import Derived.Shelf.LaysM
import Derived.Shelf.Strconv.Itoa3
import Derived.Lib.AppendIntMem
import Derived.Test.YtfjhiiaahbjaiaaDoorRows
import Derived.Test.YtfjhiiaahbjaiaaDoorSSystemNumbersx0
import Derived.Test.YtfjhiiaahbjaiaaDoorSSystemNumbersx7
import Derived.Test.YtfjhiiaahbjaiaaDoorSSystemNumbersx16
import Derived.Test.YtfjhiiaahbjaiaaDoorSSystemNumbersx17
import Derived.Test.YtfjhiiaahbjaiaaDoorSSystemNumbersx20
namespace Go.Proofs.YtfjhiiaahbjaiaaDoor.HSystemSigns
open Go.RowKit Go.Proofs.YtfjhiiaahbjaiaaDoorW.PrintWords Go.Proofs.YtfjhiiaahbjaiaaDoorW.PrintLast Go.Proofs.YtfjhiiaahbjaiaaDoorW.PrintMore
attribute [local go_sem] max2_int min2_int max_two min_two max_three min_three max_four min_four
set_option linter.unusedVariables false
set_option linter.unusedSimpArgs false
def decklelaw17_SystemNumbers.f (k : Nat) (a0 : Int) : Option (Bool) := (decklelaw17_small.f k).bind fun t618 => ((decklelaw17_of.f k a0).bind fun t619 => ((system_Names.f).bind fun t622 => (if (t622.length : Int) = 6 then (if t618 = true then (if 0 < (t622.length : Int) then ((system_Right.f k (rdOf ByteArray.empty t622 0) t619).bind fun t626 => (if (t626 == (a0 == 0)) = true then (if 1 < (t622.length : Int) then ((system_Right.f k (rdOf ByteArray.empty t622 1) t619).bind fun t628 => (if a0 = 0 then (if (t628 == true) = true then (if 2 < (t622.length : Int) then ((system_Right.f k (rdOf ByteArray.empty t622 2) t619).bind fun t630 => (if t630 = true then (none) else (if 3 < (t622.length : Int) then ((system_Right.f k (rdOf ByteArray.empty t622 3) t619).bind fun t632 => (if a0 ≥ 1 then (if (t632 == (decide (a0 ≤ 18))) = true then (if 4 < (t622.length : Int) then ((system_Right.f k (rdOf ByteArray.empty t622 4) t619).bind fun t634 => (if a0 ≥ 30 then (if (t634 == (decide (a0 ≤ 254))) = true then (if 5 < (t622.length : Int) then ((system_Right.f k (rdOf ByteArray.empty t622 5) t619).bind fun t636 => (some (t636 == (decide (a0 ≤ 2147483646))))) else (none)) else (none)) else (if (t634 == false) = true then (if 5 < (t622.length : Int) then ((system_Right.f k (rdOf ByteArray.empty t622 5) t619).bind fun t638 => (some (t638 == (decide (a0 ≤ 2147483646))))) else (none)) else (none)))) else (none)) else (none)) else (if (t632 == false) = true then (if 4 < (t622.length : Int) then ((system_Right.f k (rdOf ByteArray.empty t622 4) t619).bind fun t640 => (if a0 ≥ 30 then (if (t640 == (decide (a0 ≤ 254))) = true then (if 5 < (t622.length : Int) then ((system_Right.f k (rdOf ByteArray.empty t622 5) t619).bind fun t642 => (some (t642 == false))) else (none)) else (none)) else (if (t640 == false) = true then (if 5 < (t622.length : Int) then ((system_Right.f k (rdOf ByteArray.empty t622 5) t619).bind fun t644 => (some (t644 == false))) else (none)) else (none)))) else (none)) else (none)))) else (none)))) else (none)) else (none)) else (if (t628 == (a0 == 1)) = true then (if 2 < (t622.length : Int) then ((system_Right.f k (rdOf ByteArray.empty t622 2) t619).bind fun t646 => (if t646 = true then (none) else (if 3 < (t622.length : Int) then ((system_Right.f k (rdOf ByteArray.empty t622 3) t619).bind fun t648 => (if a0 ≥ 1 then (if (t648 == (decide (a0 ≤ 18))) = true then (if 4 < (t622.length : Int) then ((system_Right.f k (rdOf ByteArray.empty t622 4) t619).bind fun t650 => (if a0 ≥ 30 then (if (t650 == (decide (a0 ≤ 254))) = true then (if 5 < (t622.length : Int) then ((system_Right.f k (rdOf ByteArray.empty t622 5) t619).bind fun t652 => (some (t652 == (decide (a0 ≤ 2147483646))))) else (none)) else (none)) else (if (t650 == false) = true then (if 5 < (t622.length : Int) then ((system_Right.f k (rdOf ByteArray.empty t622 5) t619).bind fun t654 => (some (t654 == (decide (a0 ≤ 2147483646))))) else (none)) else (none)))) else (none)) else (none)) else (if (t648 == false) = true then (if 4 < (t622.length : Int) then ((system_Right.f k (rdOf ByteArray.empty t622 4) t619).bind fun t656 => (if a0 ≥ 30 then (if (t656 == (decide (a0 ≤ 254))) = true then (if 5 < (t622.length : Int) then ((system_Right.f k (rdOf ByteArray.empty t622 5) t619).bind fun t658 => (some (t658 == false))) else (none)) else (none)) else (if (t656 == false) = true then (if 5 < (t622.length : Int) then ((system_Right.f k (rdOf ByteArray.empty t622 5) t619).bind fun t660 => (some (t660 == false))) else (none)) else (none)))) else (none)) else (none)))) else (none)))) else (none)) else (none)))) else (none)) else (none))) else (none)) else (none)) else (none))))
set_option maxHeartbeats 8000000 in
set_option maxRecDepth 100000 in
theorem decklelaw17_SystemNumbers.calls (k : Nat) (a0 : Int) (r : Bool) (w : World) (ht_ : HTab w) (h : decklelaw17_SystemNumbers.f k a0 = some r) :
    Calls Tryd.prog 3 #[.int .i64 a0] w fun e w' => e = .returned (.bool r) ∧ Below w.heap.size w w' := by
  have HT := zq ht_
  clear ht_
  have HB := zq (Below.refl w.heap.size w)
  have H : ((decklelaw17_small.f k).bind fun t618 => ((decklelaw17_of.f k a0).bind fun t619 => ((system_Names.f).bind fun t622 => (if (t622.length : Int) = 6 then (if t618 = true then (if 0 < (t622.length : Int) then ((system_Right.f k (rdOf ByteArray.empty t622 0) t619).bind fun t626 => (if (t626 == (a0 == 0)) = true then (if 1 < (t622.length : Int) then ((system_Right.f k (rdOf ByteArray.empty t622 1) t619).bind fun t628 => (if a0 = 0 then (if (t628 == true) = true then (if 2 < (t622.length : Int) then ((system_Right.f k (rdOf ByteArray.empty t622 2) t619).bind fun t630 => (if t630 = true then (none) else (if 3 < (t622.length : Int) then ((system_Right.f k (rdOf ByteArray.empty t622 3) t619).bind fun t632 => (if a0 ≥ 1 then (if (t632 == (decide (a0 ≤ 18))) = true then (if 4 < (t622.length : Int) then ((system_Right.f k (rdOf ByteArray.empty t622 4) t619).bind fun t634 => (if a0 ≥ 30 then (if (t634 == (decide (a0 ≤ 254))) = true then (if 5 < (t622.length : Int) then ((system_Right.f k (rdOf ByteArray.empty t622 5) t619).bind fun t636 => (some (t636 == (decide (a0 ≤ 2147483646))))) else (none)) else (none)) else (if (t634 == false) = true then (if 5 < (t622.length : Int) then ((system_Right.f k (rdOf ByteArray.empty t622 5) t619).bind fun t638 => (some (t638 == (decide (a0 ≤ 2147483646))))) else (none)) else (none)))) else (none)) else (none)) else (if (t632 == false) = true then (if 4 < (t622.length : Int) then ((system_Right.f k (rdOf ByteArray.empty t622 4) t619).bind fun t640 => (if a0 ≥ 30 then (if (t640 == (decide (a0 ≤ 254))) = true then (if 5 < (t622.length : Int) then ((system_Right.f k (rdOf ByteArray.empty t622 5) t619).bind fun t642 => (some (t642 == false))) else (none)) else (none)) else (if (t640 == false) = true then (if 5 < (t622.length : Int) then ((system_Right.f k (rdOf ByteArray.empty t622 5) t619).bind fun t644 => (some (t644 == false))) else (none)) else (none)))) else (none)) else (none)))) else (none)))) else (none)) else (none)) else (if (t628 == (a0 == 1)) = true then (if 2 < (t622.length : Int) then ((system_Right.f k (rdOf ByteArray.empty t622 2) t619).bind fun t646 => (if t646 = true then (none) else (if 3 < (t622.length : Int) then ((system_Right.f k (rdOf ByteArray.empty t622 3) t619).bind fun t648 => (if a0 ≥ 1 then (if (t648 == (decide (a0 ≤ 18))) = true then (if 4 < (t622.length : Int) then ((system_Right.f k (rdOf ByteArray.empty t622 4) t619).bind fun t650 => (if a0 ≥ 30 then (if (t650 == (decide (a0 ≤ 254))) = true then (if 5 < (t622.length : Int) then ((system_Right.f k (rdOf ByteArray.empty t622 5) t619).bind fun t652 => (some (t652 == (decide (a0 ≤ 2147483646))))) else (none)) else (none)) else (if (t650 == false) = true then (if 5 < (t622.length : Int) then ((system_Right.f k (rdOf ByteArray.empty t622 5) t619).bind fun t654 => (some (t654 == (decide (a0 ≤ 2147483646))))) else (none)) else (none)))) else (none)) else (none)) else (if (t648 == false) = true then (if 4 < (t622.length : Int) then ((system_Right.f k (rdOf ByteArray.empty t622 4) t619).bind fun t656 => (if a0 ≥ 30 then (if (t656 == (decide (a0 ≤ 254))) = true then (if 5 < (t622.length : Int) then ((system_Right.f k (rdOf ByteArray.empty t622 5) t619).bind fun t658 => (some (t658 == false))) else (none)) else (none)) else (if (t656 == false) = true then (if 5 < (t622.length : Int) then ((system_Right.f k (rdOf ByteArray.empty t622 5) t619).bind fun t660 => (some (t660 == false))) else (none)) else (none)))) else (none)) else (none)))) else (none)))) else (none)) else (none)))) else (none)) else (none))) else (none)) else (none)) else (none))))) = some r := h
  clear h
  replace H := Option.bind_eq_some_iff.mp H
  obtain ⟨t618, A20, H⟩ := H
  have A2 := zq A20
  clear A20
  replace H := Option.bind_eq_some_iff.mp H
  obtain ⟨t619, A30, H⟩ := H
  have A3 := zq A30
  clear A30
  replace H := Option.bind_eq_some_iff.mp H
  obtain ⟨t622, A40, H⟩ := H
  have A4 := zq A40
  clear A40
  by_cases c5 : (t622.length : Int) = 6
  rotate_left
  · rw [if_neg c5] at H
    exact absurd H J32
  rw [if_pos c5] at H
  have c5b0 : ((t622.length : Int) == 6) = true := beq_iff_eq.mpr c5
  have c5b1 : ((t622.length : Int) != 6) = false := bne_eq_false_iff_eq.mpr c5
  clear c5
  by_cases c6 : t618 = true
  rotate_left
  · replace c6 := Bool.eq_false_iff.mpr c6
    subst c6
    rw [if_neg (show ¬ (false = true) by decide)] at H
    exact absurd H J32
  subst c6
  rw [if_pos rfl] at H
  by_cases c7 : 0 < (t622.length : Int)
  rotate_left
  · rw [if_neg c7] at H
    exact absurd H J32
  rw [if_pos c7] at H
  have c7b0 := decide_eq_true c7
  have c7b1 : decide (0 < t622.length) = true := decide_eq_true J26
  clear c7
  replace H := Option.bind_eq_some_iff.mp H
  obtain ⟨t626, A80, H⟩ := H
  have A8 := zq A80
  clear A80
  by_cases c9 : (t626 == (a0 == 0)) = true
  rotate_left
  · rw [if_neg c9] at H
    exact absurd H J32
  rw [if_pos c9] at H
  have c9b0 : (t626 == (a0 == 0)) = true := c9
  (try (have c9b1 : decide (t626 = (a0 == 0)) = true := by simpa using c9))
  (try (have c9b2 : (t626 == (a0 == 0)) = true := by simpa using c9))
  clear c9
  by_cases c10 : 1 < (t622.length : Int)
  rotate_left
  · rw [if_neg c10] at H
    exact absurd H J32
  rw [if_pos c10] at H
  have c10b0 := decide_eq_true c10
  have c10b1 : decide (1 < t622.length) = true := decide_eq_true J26
  clear c10
  replace H := Option.bind_eq_some_iff.mp H
  obtain ⟨t628, A110, H⟩ := H
  have A11 := zq A110
  clear A110
  by_cases c12 : a0 = 0
  · rw [if_pos c12] at H
    have c12b0 : (a0 == 0) = true := beq_iff_eq.mpr c12
    have c12b1 : (a0 != 0) = false := bne_eq_false_iff_eq.mpr c12
    clear c12
    by_cases c13 : (t628 == true) = true
    · rw [if_pos c13] at H
      have c13b0 : (t628 == true) = true := c13
      (try (have c13b1 : decide (t628 = true) = true := by simpa using c13))
      (try (have c13b2 : (t628 == true) = true := by simpa using c13))
      clear c13
      by_cases c14 : 2 < (t622.length : Int)
      · rw [if_pos c14] at H
        have c14b0 := decide_eq_true c14
        have c14b1 : decide (2 < t622.length) = true := decide_eq_true J26
        clear c14
        replace H := Option.bind_eq_some_iff.mp H
        obtain ⟨t630, A150, H⟩ := H
        have A15 := zq A150
        clear A150
        by_cases c16 : t630 = true
        · subst c16
          rw [if_pos rfl] at H
          exact absurd H J32
        · replace c16 := Bool.eq_false_iff.mpr c16
          subst c16
          rw [if_neg (show ¬ (false = true) by decide)] at H
          by_cases c17 : 3 < (t622.length : Int)
          · rw [if_pos c17] at H
            have c17b0 := decide_eq_true c17
            have c17b1 : decide (3 < t622.length) = true := decide_eq_true J26
            clear c17
            replace H := Option.bind_eq_some_iff.mp H
            obtain ⟨t632, A180, H⟩ := H
            have A18 := zq A180
            clear A180
            by_cases c19 : a0 ≥ 1
            · rw [if_pos c19] at H
              have c19b0 := decide_eq_true c19
              clear c19
              by_cases c20 : (t632 == (decide (a0 ≤ 18))) = true
              · rw [if_pos c20] at H
                have c20b0 : (t632 == (decide (a0 ≤ 18))) = true := c20
                (try (have c20b1 : decide (t632 = (decide (a0 ≤ 18))) = true := by simpa using c20))
                (try (have c20b2 : (t632 == (decide (a0 ≤ 18))) = true := by simpa using c20))
                clear c20
                by_cases c21 : 4 < (t622.length : Int)
                · rw [if_pos c21] at H
                  have c21b0 := decide_eq_true c21
                  have c21b1 : decide (4 < t622.length) = true := decide_eq_true J26
                  clear c21
                  replace H := Option.bind_eq_some_iff.mp H
                  obtain ⟨t634, A220, H⟩ := H
                  have A22 := zq A220
                  clear A220
                  by_cases c23 : a0 ≥ 30
                  · rw [if_pos c23] at H
                    have c23b0 := decide_eq_true c23
                    clear c23
                    by_cases c24 : (t634 == (decide (a0 ≤ 254))) = true
                    · rw [if_pos c24] at H
                      have c24b0 : (t634 == (decide (a0 ≤ 254))) = true := c24
                      (try (have c24b1 : decide (t634 = (decide (a0 ≤ 254))) = true := by simpa using c24))
                      (try (have c24b2 : (t634 == (decide (a0 ≤ 254))) = true := by simpa using c24))
                      clear c24
                      by_cases c25 : 5 < (t622.length : Int)
                      · rw [if_pos c25] at H
                        have c25b0 := decide_eq_true c25
                        have c25b1 : decide (5 < t622.length) = true := decide_eq_true J26
                        clear c25
                        replace H := Option.bind_eq_some_iff.mp H
                        obtain ⟨t636, A260, H⟩ := H
                        have A26 := zq A260
                        clear A260
                        obtain rfl := Option.some.inj H
                        exfalso
                        (try simp only [decide_eq_true_eq, decide_eq_false_iff_not, beq_iff_eq, beq_eq_false_iff_ne, ne_eq] at c126b0)
                        (try simp only [decide_eq_true_eq, decide_eq_false_iff_not, beq_iff_eq, beq_eq_false_iff_ne, ne_eq] at c12b0)
                        (try simp only [decide_eq_true_eq, decide_eq_false_iff_not, beq_iff_eq, beq_eq_false_iff_ne, ne_eq] at c19b0)
                        (try simp only [decide_eq_true_eq, decide_eq_false_iff_not, beq_iff_eq, beq_eq_false_iff_ne, ne_eq] at c23b0)
                        (try simp only [decide_eq_true_eq, decide_eq_false_iff_not, beq_iff_eq, beq_eq_false_iff_ne, ne_eq] at c55b0)
                        (try simp only [decide_eq_true_eq, decide_eq_false_iff_not, beq_iff_eq, beq_eq_false_iff_ne, ne_eq] at c90b0)
                        (try simp only [decide_eq_true_eq, decide_eq_false_iff_not, beq_iff_eq, beq_eq_false_iff_ne, ne_eq] at c94b0)
                        omega
                      · rw [if_neg c25] at H
                        exact absurd H J32
                    · rw [if_neg c24] at H
                      exact absurd H J32
                  · rw [if_neg c23] at H
                    have c23b0 := decide_eq_false c23
                    clear c23
                    by_cases c38 : (t634 == false) = true
                    · rw [if_pos c38] at H
                      have c38b0 : (t634 == false) = true := c38
                      (try (have c38b1 : decide (t634 = false) = true := by simpa using c38))
                      (try (have c38b2 : (t634 == false) = true := by simpa using c38))
                      clear c38
                      by_cases c39 : 5 < (t622.length : Int)
                      · rw [if_pos c39] at H
                        have c39b0 := decide_eq_true c39
                        have c39b1 : decide (5 < t622.length) = true := decide_eq_true J26
                        clear c39
                        replace H := Option.bind_eq_some_iff.mp H
                        obtain ⟨t638, A400, H⟩ := H
                        have A40 := zq A400
                        clear A400
                        obtain rfl := Option.some.inj H
                        exfalso
                        (try simp only [decide_eq_true_eq, decide_eq_false_iff_not, beq_iff_eq, beq_eq_false_iff_ne, ne_eq] at c126b0)
                        (try simp only [decide_eq_true_eq, decide_eq_false_iff_not, beq_iff_eq, beq_eq_false_iff_ne, ne_eq] at c12b0)
                        (try simp only [decide_eq_true_eq, decide_eq_false_iff_not, beq_iff_eq, beq_eq_false_iff_ne, ne_eq] at c19b0)
                        (try simp only [decide_eq_true_eq, decide_eq_false_iff_not, beq_iff_eq, beq_eq_false_iff_ne, ne_eq] at c23b0)
                        (try simp only [decide_eq_true_eq, decide_eq_false_iff_not, beq_iff_eq, beq_eq_false_iff_ne, ne_eq] at c55b0)
                        (try simp only [decide_eq_true_eq, decide_eq_false_iff_not, beq_iff_eq, beq_eq_false_iff_ne, ne_eq] at c90b0)
                        (try simp only [decide_eq_true_eq, decide_eq_false_iff_not, beq_iff_eq, beq_eq_false_iff_ne, ne_eq] at c94b0)
                        omega
                      · rw [if_neg c39] at H
                        exact absurd H J32
                    · rw [if_neg c38] at H
                      exact absurd H J32
                · rw [if_neg c21] at H
                  exact absurd H J32
              · rw [if_neg c20] at H
                exact absurd H J32
            · rw [if_neg c19] at H
              have c19b0 := decide_eq_false c19
              clear c19
              by_cases c52 : (t632 == false) = true
              · rw [if_pos c52] at H
                have c52b0 : (t632 == false) = true := c52
                (try (have c52b1 : decide (t632 = false) = true := by simpa using c52))
                (try (have c52b2 : (t632 == false) = true := by simpa using c52))
                clear c52
                by_cases c53 : 4 < (t622.length : Int)
                · rw [if_pos c53] at H
                  have c53b0 := decide_eq_true c53
                  have c53b1 : decide (4 < t622.length) = true := decide_eq_true J26
                  clear c53
                  replace H := Option.bind_eq_some_iff.mp H
                  obtain ⟨t640, A540, H⟩ := H
                  have A54 := zq A540
                  clear A540
                  by_cases c55 : a0 ≥ 30
                  · rw [if_pos c55] at H
                    have c55b0 := decide_eq_true c55
                    clear c55
                    by_cases c56 : (t640 == (decide (a0 ≤ 254))) = true
                    · rw [if_pos c56] at H
                      have c56b0 : (t640 == (decide (a0 ≤ 254))) = true := c56
                      (try (have c56b1 : decide (t640 = (decide (a0 ≤ 254))) = true := by simpa using c56))
                      (try (have c56b2 : (t640 == (decide (a0 ≤ 254))) = true := by simpa using c56))
                      clear c56
                      by_cases c57 : 5 < (t622.length : Int)
                      · rw [if_pos c57] at H
                        have c57b0 := decide_eq_true c57
                        have c57b1 : decide (5 < t622.length) = true := decide_eq_true J26
                        clear c57
                        replace H := Option.bind_eq_some_iff.mp H
                        obtain ⟨t642, A580, H⟩ := H
                        have A58 := zq A580
                        clear A580
                        obtain rfl := Option.some.inj H
                        exfalso
                        (try simp only [decide_eq_true_eq, decide_eq_false_iff_not, beq_iff_eq, beq_eq_false_iff_ne, ne_eq] at c126b0)
                        (try simp only [decide_eq_true_eq, decide_eq_false_iff_not, beq_iff_eq, beq_eq_false_iff_ne, ne_eq] at c12b0)
                        (try simp only [decide_eq_true_eq, decide_eq_false_iff_not, beq_iff_eq, beq_eq_false_iff_ne, ne_eq] at c19b0)
                        (try simp only [decide_eq_true_eq, decide_eq_false_iff_not, beq_iff_eq, beq_eq_false_iff_ne, ne_eq] at c23b0)
                        (try simp only [decide_eq_true_eq, decide_eq_false_iff_not, beq_iff_eq, beq_eq_false_iff_ne, ne_eq] at c55b0)
                        (try simp only [decide_eq_true_eq, decide_eq_false_iff_not, beq_iff_eq, beq_eq_false_iff_ne, ne_eq] at c90b0)
                        (try simp only [decide_eq_true_eq, decide_eq_false_iff_not, beq_iff_eq, beq_eq_false_iff_ne, ne_eq] at c94b0)
                        omega
                      · rw [if_neg c57] at H
                        exact absurd H J32
                    · rw [if_neg c56] at H
                      exact absurd H J32
                  · rw [if_neg c55] at H
                    have c55b0 := decide_eq_false c55
                    clear c55
                    by_cases c70 : (t640 == false) = true
                    · rw [if_pos c70] at H
                      have c70b0 : (t640 == false) = true := c70
                      (try (have c70b1 : decide (t640 = false) = true := by simpa using c70))
                      (try (have c70b2 : (t640 == false) = true := by simpa using c70))
                      clear c70
                      by_cases c71 : 5 < (t622.length : Int)
                      · rw [if_pos c71] at H
                        have c71b0 := decide_eq_true c71
                        have c71b1 : decide (5 < t622.length) = true := decide_eq_true J26
                        clear c71
                        replace H := Option.bind_eq_some_iff.mp H
                        obtain ⟨t644, A720, H⟩ := H
                        have A72 := zq A720
                        clear A720
                        obtain rfl := Option.some.inj H
                        (try obtain rfl : t650 = _ := beq_iff_eq.mp c109b0)
                        (try obtain rfl : t648 = _ := beq_iff_eq.mp c123b0)
                        (try obtain rfl : t656 = _ := beq_iff_eq.mp c127b0)
                        (try obtain rfl : t628 = _ := beq_iff_eq.mp c13b0)
                        (try obtain rfl : t656 = _ := beq_iff_eq.mp c141b0)
                        (try obtain rfl : t632 = _ := beq_iff_eq.mp c20b0)
                        (try obtain rfl : t634 = _ := beq_iff_eq.mp c24b0)
                        (try obtain rfl : t634 = _ := beq_iff_eq.mp c38b0)
                        (try obtain rfl : t632 = _ := beq_iff_eq.mp c52b0)
                        (try obtain rfl : t640 = _ := beq_iff_eq.mp c56b0)
                        (try obtain rfl : t640 = _ := beq_iff_eq.mp c70b0)
                        (try obtain rfl : t628 = _ := beq_iff_eq.mp c84b0)
                        (try obtain rfl : t626 = _ := beq_iff_eq.mp c9b0)
                        (try obtain rfl : t648 = _ := beq_iff_eq.mp c91b0)
                        (try obtain rfl : t650 = _ := beq_iff_eq.mp c95b0)
                        (try simp only [c12b0] at A8)
                        go_enter Tryd.func3, Tryd.ntmps3
                        go_wp2_with (first | ((with_reducible refine gate_callee (f := 6) rfl ?_); refine goesL_ (some 6) rfl rfl Tryd.func6 J8 rfl #[] rfl J1 ?_; (with_reducible refine (decklelaw17_small.calls k  true _ (htab_below HT.out J0) A2.out).mono ?_); rintro e w73 ⟨rfl, hb⟩; refine ⟨_, rfl, ?_⟩; replace HB := zq (below_step J0 hb); (try clear hb)) | ((with_reducible refine gate_callee (f := 7) rfl ?_); refine goesL_ (some 8) rfl rfl Tryd.func7 J8 rfl #[.int .i64 a0] rfl J1 ?_; (with_reducible refine (decklelaw17_of.calls k a0 t619 _ A3.out).mono ?_); rintro e w74 ⟨v620, rfl, ho0, hb⟩; refine ⟨_, rfl, ?_⟩; have HO621 := zq (Kd.N_lower (Kd.N_mono (ok' := fun k_ => True) ho0 (fun k_ hk_ => trivial)) (below_size J0)); replace HB := zq (below_step J0 hb); (try clear hb); (try clear ho0)) | ((with_reducible refine gate_callee (f := 8) rfl ?_); refine goesL_ (some 9) rfl rfl Tryd.func8 J8 rfl #[] rfl J1 ?_; (with_reducible refine (system_Names.calls  t622 _ A4.out).mono ?_); rintro e w75 ⟨v623, rfl, ho0, hb⟩; refine ⟨_, rfl, ?_⟩; replace HO621 := zq (Kd.N_elder' (zn HO621.out) (Kd.R_base ho0) hb); have HO624 := zq (Kd.R_lower ho0 (below_size J0)); replace HB := zq (below_step J0 hb); (try clear hb); (try clear ho0); obtain ⟨Ao76, co76, eo76⟩ := Kd.R_slice HO624.out; subst eo76; have p625 : 0 ≤ (0 : Int) := J26; have q625 : 0 < (t622.length : Int) := of_decide_eq_true J3; obtain ⟨ad625, e625, hx625_0⟩ := Kd.at_string (Kd.R_reads' HO624.out).2.2 0 p625 q625; cases e625; have qi625 : (0 < t622.length) = True := eq_true J26; (try rw [show ((0 : Int)).toNat = 0 from rfl] at hx625_0); (try rw [Addr.add_zero'] at hx625_0); replace p625 := eq_true p625; replace q625 := eq_true q625; obtain ⟨Ao77, co77, eo77⟩ := Kd.N_slice HO621.out; subst eo77) | (go_at_call 9; (with_reducible refine (system_Right.calls k (rdOf ByteArray.empty t622 0) _ _ t619 _ _ ?side1 ?side2 (htab_below HT.out J0) A8.out).mono ?_); (case side1 => exact zc ((Kd.N_reads' HO621.out).2.2)); (case side2 => exact (Kd.N_reads' HO621.out).2.1); rintro e w78 ⟨rfl, hb⟩; replace HO621 := zq (Kd.N_below (zn HO621.out) hb); replace HO624 := zq (Kd.R_below (zr HO624.out) hb); replace HB := zq (below_step J0 hb); (try clear hb); have p627 : 0 ≤ (1 : Int) := J26; have q627 : 1 < (t622.length : Int) := of_decide_eq_true J3; obtain ⟨ad627, e627, hx627_0⟩ := Kd.at_string (Kd.R_reads' HO624.out).2.2 1 p627 q627; obtain rfl : ad625 = ad627 := (by injection e627); (try simp only [show (1 : Int).toNat = 1 from rfl, Nat.reduceMul, Nat.reduceEqDiff, Go.Addr.add, ↓reduceIte] at hx627_0); have qi627 : (1 < t622.length) = True := eq_true J26; (try rw [show ((1 : Int)).toNat = 1 from rfl] at hx627_0); replace p627 := eq_true p627; replace q627 := eq_true q627; clear A8) | (go_at_call 9; (with_reducible refine (system_Right.calls k (rdOf ByteArray.empty t622 1) _ _ t619 _ _ ?side1 ?side2 (htab_below HT.out J0) A11.out).mono ?_); (case side1 => exact zc ((Kd.N_reads' HO621.out).2.2)); (case side2 => exact (Kd.N_reads' HO621.out).2.1); rintro e w79 ⟨rfl, hb⟩; replace HO621 := zq (Kd.N_below (zn HO621.out) hb); replace HO624 := zq (Kd.R_below (zr HO624.out) hb); replace HB := zq (below_step J0 hb); (try clear hb); have p629 : 0 ≤ (2 : Int) := J26; have q629 : 2 < (t622.length : Int) := of_decide_eq_true J3; obtain ⟨ad629, e629, hx629_0⟩ := Kd.at_string (Kd.R_reads' HO624.out).2.2 2 p629 q629; obtain rfl : ad625 = ad629 := (by injection e629); (try simp only [show (2 : Int).toNat = 2 from rfl, Nat.reduceMul, Nat.reduceEqDiff, Go.Addr.add, ↓reduceIte] at hx629_0); have qi629 : (2 < t622.length) = True := eq_true J26; (try rw [show ((2 : Int)).toNat = 2 from rfl] at hx629_0); replace p629 := eq_true p629; replace q629 := eq_true q629; clear A11) | (go_at_call 9; (with_reducible refine (system_Right.calls k (rdOf ByteArray.empty t622 2) _ _ t619 false _ ?side1 ?side2 (htab_below HT.out J0) A15.out).mono ?_); (case side1 => exact zc ((Kd.N_reads' HO621.out).2.2)); (case side2 => exact (Kd.N_reads' HO621.out).2.1); rintro e w80 ⟨rfl, hb⟩; replace HO621 := zq (Kd.N_below (zn HO621.out) hb); replace HO624 := zq (Kd.R_below (zr HO624.out) hb); replace HB := zq (below_step J0 hb); (try clear hb); have p631 : 0 ≤ (3 : Int) := J26; have q631 : 3 < (t622.length : Int) := of_decide_eq_true J3; obtain ⟨ad631, e631, hx631_0⟩ := Kd.at_string (Kd.R_reads' HO624.out).2.2 3 p631 q631; obtain rfl : ad625 = ad631 := (by injection e631); (try simp only [show (3 : Int).toNat = 3 from rfl, Nat.reduceMul, Nat.reduceEqDiff, Go.Addr.add, ↓reduceIte] at hx631_0); have qi631 : (3 < t622.length) = True := eq_true J26; (try rw [show ((3 : Int)).toNat = 3 from rfl] at hx631_0); replace p631 := eq_true p631; replace q631 := eq_true q631; clear A15) | (go_at_call 9; (with_reducible refine (system_Right.calls k (rdOf ByteArray.empty t622 3) _ _ t619 _ _ ?side1 ?side2 (htab_below HT.out J0) A18.out).mono ?_); (case side1 => exact zc ((Kd.N_reads' HO621.out).2.2)); (case side2 => exact (Kd.N_reads' HO621.out).2.1); rintro e w81 ⟨rfl, hb⟩; replace HO621 := zq (Kd.N_below (zn HO621.out) hb); replace HO624 := zq (Kd.R_below (zr HO624.out) hb); replace HB := zq (below_step J0 hb); (try clear hb); have p639 : 0 ≤ (4 : Int) := J26; have q639 : 4 < (t622.length : Int) := of_decide_eq_true J3; obtain ⟨ad639, e639, hx639_0⟩ := Kd.at_string (Kd.R_reads' HO624.out).2.2 4 p639 q639; obtain rfl : ad625 = ad639 := (by injection e639); (try simp only [show (4 : Int).toNat = 4 from rfl, Nat.reduceMul, Nat.reduceEqDiff, Go.Addr.add, ↓reduceIte] at hx639_0); have qi639 : (4 < t622.length) = True := eq_true J26; (try rw [show ((4 : Int)).toNat = 4 from rfl] at hx639_0); replace p639 := eq_true p639; replace q639 := eq_true q639; clear A18) | (go_at_call 9; (with_reducible refine (system_Right.calls k (rdOf ByteArray.empty t622 4) _ _ t619 _ _ ?side1 ?side2 (htab_below HT.out J0) A54.out).mono ?_); (case side1 => exact zc ((Kd.N_reads' HO621.out).2.2)); (case side2 => exact (Kd.N_reads' HO621.out).2.1); rintro e w82 ⟨rfl, hb⟩; replace HO621 := zq (Kd.N_below (zn HO621.out) hb); replace HO624 := zq (Kd.R_below (zr HO624.out) hb); replace HB := zq (below_step J0 hb); (try clear hb); have p643 : 0 ≤ (5 : Int) := J26; have q643 : 5 < (t622.length : Int) := of_decide_eq_true J3; obtain ⟨ad643, e643, hx643_0⟩ := Kd.at_string (Kd.R_reads' HO624.out).2.2 5 p643 q643; obtain rfl : ad625 = ad643 := (by injection e643); (try simp only [show (5 : Int).toNat = 5 from rfl, Nat.reduceMul, Nat.reduceEqDiff, Go.Addr.add, ↓reduceIte] at hx643_0); have qi643 : (5 < t622.length) = True := eq_true J26; (try rw [show ((5 : Int)).toNat = 5 from rfl] at hx643_0); replace p643 := eq_true p643; replace q643 := eq_true q643; clear A54) | (go_at_call 9; (with_reducible refine (system_Right.calls k (rdOf ByteArray.empty t622 5) _ _ t619 t644 _ ?side1 ?side2 (htab_below HT.out J0) A72.out).mono ?_); (case side1 => exact zc ((Kd.N_reads' HO621.out).2.2)); (case side2 => exact (Kd.N_reads' HO621.out).2.1); rintro e w83 ⟨rfl, hb⟩; replace HO621 := zq (Kd.N_below (zn HO621.out) hb); replace HO624 := zq (Kd.R_below (zr HO624.out) hb); replace HB := zq (below_step J0 hb); (try clear hb); clear A72))
                        go_ret
                        exact ⟨J2, J0⟩
                      · rw [if_neg c71] at H
                        exact absurd H J32
                    · rw [if_neg c70] at H
                      exact absurd H J32
                · rw [if_neg c53] at H
                  exact absurd H J32
              · rw [if_neg c52] at H
                exact absurd H J32
          · rw [if_neg c17] at H
            exact absurd H J32
      · rw [if_neg c14] at H
        exact absurd H J32
    · rw [if_neg c13] at H
      exact absurd H J32
  rw [if_neg c12] at H
  have c12b0 : (a0 == 0) = false := beq_eq_false_iff_ne.mpr c12
  have c12b1 : (a0 != 0) = true := bne_iff_ne.mpr c12
  by_cases c84 : (t628 == (a0 == 1)) = true
  rotate_left
  · rw [if_neg c84] at H
    exact absurd H J32
  rw [if_pos c84] at H
  have c84b0 : (t628 == (a0 == 1)) = true := c84
  (try (have c84b1 : decide (t628 = (a0 == 1)) = true := by simpa using c84))
  (try (have c84b2 : (t628 == (a0 == 1)) = true := by simpa using c84))
  clear c84
  by_cases c85 : 2 < (t622.length : Int)
  rotate_left
  · rw [if_neg c85] at H
    exact absurd H J32
  rw [if_pos c85] at H
  have c85b0 := decide_eq_true c85
  have c85b1 : decide (2 < t622.length) = true := decide_eq_true J26
  clear c85
  replace H := Option.bind_eq_some_iff.mp H
  obtain ⟨t646, A860, H⟩ := H
  have A86 := zq A860
  clear A860
  by_cases c87 : t646 = true
  · subst c87
    rw [if_pos rfl] at H
    exact absurd H J32
  replace c87 := Bool.eq_false_iff.mpr c87
  subst c87
  rw [if_neg (show ¬ (false = true) by decide)] at H
  by_cases c88 : 3 < (t622.length : Int)
  rotate_left
  · rw [if_neg c88] at H
    exact absurd H J32
  rw [if_pos c88] at H
  have c88b0 := decide_eq_true c88
  have c88b1 : decide (3 < t622.length) = true := decide_eq_true J26
  clear c88
  replace H := Option.bind_eq_some_iff.mp H
  obtain ⟨t648, A890, H⟩ := H
  have A89 := zq A890
  clear A890
  by_cases c90 : a0 ≥ 1
  rotate_left
  · rw [if_neg c90] at H
    have c90b0 := decide_eq_false c90
    clear c90
    by_cases c123 : (t648 == false) = true
    · rw [if_pos c123] at H
      have c123b0 : (t648 == false) = true := c123
      (try (have c123b1 : decide (t648 = false) = true := by simpa using c123))
      (try (have c123b2 : (t648 == false) = true := by simpa using c123))
      clear c123
      by_cases c124 : 4 < (t622.length : Int)
      · rw [if_pos c124] at H
        have c124b0 := decide_eq_true c124
        have c124b1 : decide (4 < t622.length) = true := decide_eq_true J26
        clear c124
        replace H := Option.bind_eq_some_iff.mp H
        obtain ⟨t656, A1250, H⟩ := H
        have A125 := zq A1250
        clear A1250
        by_cases c126 : a0 ≥ 30
        · rw [if_pos c126] at H
          have c126b0 := decide_eq_true c126
          clear c126
          by_cases c127 : (t656 == (decide (a0 ≤ 254))) = true
          · rw [if_pos c127] at H
            have c127b0 : (t656 == (decide (a0 ≤ 254))) = true := c127
            (try (have c127b1 : decide (t656 = (decide (a0 ≤ 254))) = true := by simpa using c127))
            (try (have c127b2 : (t656 == (decide (a0 ≤ 254))) = true := by simpa using c127))
            clear c127
            by_cases c128 : 5 < (t622.length : Int)
            · rw [if_pos c128] at H
              have c128b0 := decide_eq_true c128
              have c128b1 : decide (5 < t622.length) = true := decide_eq_true J26
              clear c128
              replace H := Option.bind_eq_some_iff.mp H
              obtain ⟨t658, A1290, H⟩ := H
              have A129 := zq A1290
              clear A1290
              obtain rfl := Option.some.inj H
              exfalso
              (try simp only [decide_eq_true_eq, decide_eq_false_iff_not, beq_iff_eq, beq_eq_false_iff_ne, ne_eq] at c126b0)
              (try simp only [decide_eq_true_eq, decide_eq_false_iff_not, beq_iff_eq, beq_eq_false_iff_ne, ne_eq] at c12b0)
              (try simp only [decide_eq_true_eq, decide_eq_false_iff_not, beq_iff_eq, beq_eq_false_iff_ne, ne_eq] at c19b0)
              (try simp only [decide_eq_true_eq, decide_eq_false_iff_not, beq_iff_eq, beq_eq_false_iff_ne, ne_eq] at c23b0)
              (try simp only [decide_eq_true_eq, decide_eq_false_iff_not, beq_iff_eq, beq_eq_false_iff_ne, ne_eq] at c55b0)
              (try simp only [decide_eq_true_eq, decide_eq_false_iff_not, beq_iff_eq, beq_eq_false_iff_ne, ne_eq] at c90b0)
              (try simp only [decide_eq_true_eq, decide_eq_false_iff_not, beq_iff_eq, beq_eq_false_iff_ne, ne_eq] at c94b0)
              omega
            · rw [if_neg c128] at H
              exact absurd H J32
          · rw [if_neg c127] at H
            exact absurd H J32
        · rw [if_neg c126] at H
          have c126b0 := decide_eq_false c126
          clear c126
          by_cases c141 : (t656 == false) = true
          · rw [if_pos c141] at H
            have c141b0 : (t656 == false) = true := c141
            (try (have c141b1 : decide (t656 = false) = true := by simpa using c141))
            (try (have c141b2 : (t656 == false) = true := by simpa using c141))
            clear c141
            by_cases c142 : 5 < (t622.length : Int)
            · rw [if_pos c142] at H
              have c142b0 := decide_eq_true c142
              have c142b1 : decide (5 < t622.length) = true := decide_eq_true J26
              clear c142
              replace H := Option.bind_eq_some_iff.mp H
              obtain ⟨t660, A1430, H⟩ := H
              have A143 := zq A1430
              clear A1430
              obtain rfl := Option.some.inj H
              (try obtain rfl : t650 = _ := beq_iff_eq.mp c109b0)
              (try obtain rfl : t648 = _ := beq_iff_eq.mp c123b0)
              (try obtain rfl : t656 = _ := beq_iff_eq.mp c127b0)
              (try obtain rfl : t628 = _ := beq_iff_eq.mp c13b0)
              (try obtain rfl : t656 = _ := beq_iff_eq.mp c141b0)
              (try obtain rfl : t632 = _ := beq_iff_eq.mp c20b0)
              (try obtain rfl : t634 = _ := beq_iff_eq.mp c24b0)
              (try obtain rfl : t634 = _ := beq_iff_eq.mp c38b0)
              (try obtain rfl : t632 = _ := beq_iff_eq.mp c52b0)
              (try obtain rfl : t640 = _ := beq_iff_eq.mp c56b0)
              (try obtain rfl : t640 = _ := beq_iff_eq.mp c70b0)
              (try obtain rfl : t628 = _ := beq_iff_eq.mp c84b0)
              (try obtain rfl : t626 = _ := beq_iff_eq.mp c9b0)
              (try obtain rfl : t648 = _ := beq_iff_eq.mp c91b0)
              (try obtain rfl : t650 = _ := beq_iff_eq.mp c95b0)
              (try simp only [c12b0] at A8)
              go_enter Tryd.func3, Tryd.ntmps3
              go_wp2_with (first | ((with_reducible refine gate_callee (f := 6) rfl ?_); refine goesL_ (some 6) rfl rfl Tryd.func6 J8 rfl #[] rfl J1 ?_; (with_reducible refine (decklelaw17_small.calls k  true _ (htab_below HT.out J0) A2.out).mono ?_); rintro e w144 ⟨rfl, hb⟩; refine ⟨_, rfl, ?_⟩; replace HB := zq (below_step J0 hb); (try clear hb)) | ((with_reducible refine gate_callee (f := 7) rfl ?_); refine goesL_ (some 8) rfl rfl Tryd.func7 J8 rfl #[.int .i64 a0] rfl J1 ?_; (with_reducible refine (decklelaw17_of.calls k a0 t619 _ A3.out).mono ?_); rintro e w145 ⟨v620, rfl, ho0, hb⟩; refine ⟨_, rfl, ?_⟩; have HO621 := zq (Kd.N_lower (Kd.N_mono (ok' := fun k_ => True) ho0 (fun k_ hk_ => trivial)) (below_size J0)); replace HB := zq (below_step J0 hb); (try clear hb); (try clear ho0)) | ((with_reducible refine gate_callee (f := 8) rfl ?_); refine goesL_ (some 9) rfl rfl Tryd.func8 J8 rfl #[] rfl J1 ?_; (with_reducible refine (system_Names.calls  t622 _ A4.out).mono ?_); rintro e w146 ⟨v623, rfl, ho0, hb⟩; refine ⟨_, rfl, ?_⟩; replace HO621 := zq (Kd.N_elder' (zn HO621.out) (Kd.R_base ho0) hb); have HO624 := zq (Kd.R_lower ho0 (below_size J0)); replace HB := zq (below_step J0 hb); (try clear hb); (try clear ho0); obtain ⟨Ao147, co147, eo147⟩ := Kd.R_slice HO624.out; subst eo147; have p625 : 0 ≤ (0 : Int) := J26; have q625 : 0 < (t622.length : Int) := of_decide_eq_true J3; obtain ⟨ad625, e625, hx625_0⟩ := Kd.at_string (Kd.R_reads' HO624.out).2.2 0 p625 q625; cases e625; have qi625 : (0 < t622.length) = True := eq_true J26; (try rw [show ((0 : Int)).toNat = 0 from rfl] at hx625_0); (try rw [Addr.add_zero'] at hx625_0); replace p625 := eq_true p625; replace q625 := eq_true q625; obtain ⟨Ao148, co148, eo148⟩ := Kd.N_slice HO621.out; subst eo148) | (go_at_call 9; (with_reducible refine (system_Right.calls k (rdOf ByteArray.empty t622 0) _ _ t619 _ _ ?side1 ?side2 (htab_below HT.out J0) A8.out).mono ?_); (case side1 => exact zc ((Kd.N_reads' HO621.out).2.2)); (case side2 => exact (Kd.N_reads' HO621.out).2.1); rintro e w149 ⟨rfl, hb⟩; replace HO621 := zq (Kd.N_below (zn HO621.out) hb); replace HO624 := zq (Kd.R_below (zr HO624.out) hb); replace HB := zq (below_step J0 hb); (try clear hb); have p627 : 0 ≤ (1 : Int) := J26; have q627 : 1 < (t622.length : Int) := of_decide_eq_true J3; obtain ⟨ad627, e627, hx627_0⟩ := Kd.at_string (Kd.R_reads' HO624.out).2.2 1 p627 q627; obtain rfl : ad625 = ad627 := (by injection e627); (try simp only [show (1 : Int).toNat = 1 from rfl, Nat.reduceMul, Nat.reduceEqDiff, Go.Addr.add, ↓reduceIte] at hx627_0); have qi627 : (1 < t622.length) = True := eq_true J26; (try rw [show ((1 : Int)).toNat = 1 from rfl] at hx627_0); replace p627 := eq_true p627; replace q627 := eq_true q627; clear A8) | (go_at_call 9; (with_reducible refine (system_Right.calls k (rdOf ByteArray.empty t622 1) _ _ t619 _ _ ?side1 ?side2 (htab_below HT.out J0) A11.out).mono ?_); (case side1 => exact zc ((Kd.N_reads' HO621.out).2.2)); (case side2 => exact (Kd.N_reads' HO621.out).2.1); rintro e w150 ⟨rfl, hb⟩; replace HO621 := zq (Kd.N_below (zn HO621.out) hb); replace HO624 := zq (Kd.R_below (zr HO624.out) hb); replace HB := zq (below_step J0 hb); (try clear hb); have p645 : 0 ≤ (2 : Int) := J26; have q645 : 2 < (t622.length : Int) := of_decide_eq_true J3; obtain ⟨ad645, e645, hx645_0⟩ := Kd.at_string (Kd.R_reads' HO624.out).2.2 2 p645 q645; obtain rfl : ad625 = ad645 := (by injection e645); (try simp only [show (2 : Int).toNat = 2 from rfl, Nat.reduceMul, Nat.reduceEqDiff, Go.Addr.add, ↓reduceIte] at hx645_0); have qi645 : (2 < t622.length) = True := eq_true J26; (try rw [show ((2 : Int)).toNat = 2 from rfl] at hx645_0); replace p645 := eq_true p645; replace q645 := eq_true q645; clear A11) | (go_at_call 9; (with_reducible refine (system_Right.calls k (rdOf ByteArray.empty t622 2) _ _ t619 false _ ?side1 ?side2 (htab_below HT.out J0) A86.out).mono ?_); (case side1 => exact zc ((Kd.N_reads' HO621.out).2.2)); (case side2 => exact (Kd.N_reads' HO621.out).2.1); rintro e w151 ⟨rfl, hb⟩; replace HO621 := zq (Kd.N_below (zn HO621.out) hb); replace HO624 := zq (Kd.R_below (zr HO624.out) hb); replace HB := zq (below_step J0 hb); (try clear hb); have p647 : 0 ≤ (3 : Int) := J26; have q647 : 3 < (t622.length : Int) := of_decide_eq_true J3; obtain ⟨ad647, e647, hx647_0⟩ := Kd.at_string (Kd.R_reads' HO624.out).2.2 3 p647 q647; obtain rfl : ad625 = ad647 := (by injection e647); (try simp only [show (3 : Int).toNat = 3 from rfl, Nat.reduceMul, Nat.reduceEqDiff, Go.Addr.add, ↓reduceIte] at hx647_0); have qi647 : (3 < t622.length) = True := eq_true J26; (try rw [show ((3 : Int)).toNat = 3 from rfl] at hx647_0); replace p647 := eq_true p647; replace q647 := eq_true q647; clear A86) | (go_at_call 9; (with_reducible refine (system_Right.calls k (rdOf ByteArray.empty t622 3) _ _ t619 _ _ ?side1 ?side2 (htab_below HT.out J0) A89.out).mono ?_); (case side1 => exact zc ((Kd.N_reads' HO621.out).2.2)); (case side2 => exact (Kd.N_reads' HO621.out).2.1); rintro e w152 ⟨rfl, hb⟩; replace HO621 := zq (Kd.N_below (zn HO621.out) hb); replace HO624 := zq (Kd.R_below (zr HO624.out) hb); replace HB := zq (below_step J0 hb); (try clear hb); have p655 : 0 ≤ (4 : Int) := J26; have q655 : 4 < (t622.length : Int) := of_decide_eq_true J3; obtain ⟨ad655, e655, hx655_0⟩ := Kd.at_string (Kd.R_reads' HO624.out).2.2 4 p655 q655; obtain rfl : ad625 = ad655 := (by injection e655); (try simp only [show (4 : Int).toNat = 4 from rfl, Nat.reduceMul, Nat.reduceEqDiff, Go.Addr.add, ↓reduceIte] at hx655_0); have qi655 : (4 < t622.length) = True := eq_true J26; (try rw [show ((4 : Int)).toNat = 4 from rfl] at hx655_0); replace p655 := eq_true p655; replace q655 := eq_true q655; clear A89) | (go_at_call 9; (with_reducible refine (system_Right.calls k (rdOf ByteArray.empty t622 4) _ _ t619 _ _ ?side1 ?side2 (htab_below HT.out J0) A125.out).mono ?_); (case side1 => exact zc ((Kd.N_reads' HO621.out).2.2)); (case side2 => exact (Kd.N_reads' HO621.out).2.1); rintro e w153 ⟨rfl, hb⟩; replace HO621 := zq (Kd.N_below (zn HO621.out) hb); replace HO624 := zq (Kd.R_below (zr HO624.out) hb); replace HB := zq (below_step J0 hb); (try clear hb); have p659 : 0 ≤ (5 : Int) := J26; have q659 : 5 < (t622.length : Int) := of_decide_eq_true J3; obtain ⟨ad659, e659, hx659_0⟩ := Kd.at_string (Kd.R_reads' HO624.out).2.2 5 p659 q659; obtain rfl : ad625 = ad659 := (by injection e659); (try simp only [show (5 : Int).toNat = 5 from rfl, Nat.reduceMul, Nat.reduceEqDiff, Go.Addr.add, ↓reduceIte] at hx659_0); have qi659 : (5 < t622.length) = True := eq_true J26; (try rw [show ((5 : Int)).toNat = 5 from rfl] at hx659_0); replace p659 := eq_true p659; replace q659 := eq_true q659; clear A125) | (go_at_call 9; (with_reducible refine (system_Right.calls k (rdOf ByteArray.empty t622 5) _ _ t619 t660 _ ?side1 ?side2 (htab_below HT.out J0) A143.out).mono ?_); (case side1 => exact zc ((Kd.N_reads' HO621.out).2.2)); (case side2 => exact (Kd.N_reads' HO621.out).2.1); rintro e w154 ⟨rfl, hb⟩; replace HB := zq (below_step J0 hb); (try clear hb); clear A143))
              go_ret
              exact ⟨J2, J0⟩
            · rw [if_neg c142] at H
              exact absurd H J32
          · rw [if_neg c141] at H
            exact absurd H J32
      · rw [if_neg c124] at H
        exact absurd H J32
    · rw [if_neg c123] at H
      exact absurd H J32
  rw [if_pos c90] at H
  have c90b0 := decide_eq_true c90
  clear c90
  by_cases c91 : (t648 == (decide (a0 ≤ 18))) = true
  rotate_left
  · rw [if_neg c91] at H
    exact absurd H J32
  rw [if_pos c91] at H
  have c91b0 : (t648 == (decide (a0 ≤ 18))) = true := c91
  (try (have c91b1 : decide (t648 = (decide (a0 ≤ 18))) = true := by simpa using c91))
  (try (have c91b2 : (t648 == (decide (a0 ≤ 18))) = true := by simpa using c91))
  clear c91
  by_cases c92 : 4 < (t622.length : Int)
  rotate_left
  · rw [if_neg c92] at H
    exact absurd H J32
  rw [if_pos c92] at H
  have c92b0 := decide_eq_true c92
  have c92b1 : decide (4 < t622.length) = true := decide_eq_true J26
  clear c92
  replace H := Option.bind_eq_some_iff.mp H
  obtain ⟨t650, A930, H⟩ := H
  have A93 := zq A930
  clear A930
  by_cases c94 : a0 ≥ 30
  rotate_left
  · rw [if_neg c94] at H
    have c94b0 := decide_eq_false c94
    clear c94
    by_cases c109 : (t650 == false) = true
    · rw [if_pos c109] at H
      have c109b0 : (t650 == false) = true := c109
      (try (have c109b1 : decide (t650 = false) = true := by simpa using c109))
      (try (have c109b2 : (t650 == false) = true := by simpa using c109))
      clear c109
      by_cases c110 : 5 < (t622.length : Int)
      · rw [if_pos c110] at H
        have c110b0 := decide_eq_true c110
        have c110b1 : decide (5 < t622.length) = true := decide_eq_true J26
        clear c110
        replace H := Option.bind_eq_some_iff.mp H
        obtain ⟨t654, A1110, H⟩ := H
        have A111 := zq A1110
        clear A1110
        obtain rfl := Option.some.inj H
        (try obtain rfl : t650 = _ := beq_iff_eq.mp c109b0)
        (try obtain rfl : t648 = _ := beq_iff_eq.mp c123b0)
        (try obtain rfl : t656 = _ := beq_iff_eq.mp c127b0)
        (try obtain rfl : t628 = _ := beq_iff_eq.mp c13b0)
        (try obtain rfl : t656 = _ := beq_iff_eq.mp c141b0)
        (try obtain rfl : t632 = _ := beq_iff_eq.mp c20b0)
        (try obtain rfl : t634 = _ := beq_iff_eq.mp c24b0)
        (try obtain rfl : t634 = _ := beq_iff_eq.mp c38b0)
        (try obtain rfl : t632 = _ := beq_iff_eq.mp c52b0)
        (try obtain rfl : t640 = _ := beq_iff_eq.mp c56b0)
        (try obtain rfl : t640 = _ := beq_iff_eq.mp c70b0)
        (try obtain rfl : t628 = _ := beq_iff_eq.mp c84b0)
        (try obtain rfl : t626 = _ := beq_iff_eq.mp c9b0)
        (try obtain rfl : t648 = _ := beq_iff_eq.mp c91b0)
        (try obtain rfl : t650 = _ := beq_iff_eq.mp c95b0)
        (try simp only [c12b0] at A8)
        go_enter Tryd.func3, Tryd.ntmps3
        go_wp2_with (first | ((with_reducible refine gate_callee (f := 6) rfl ?_); refine goesL_ (some 6) rfl rfl Tryd.func6 J8 rfl #[] rfl J1 ?_; (with_reducible refine (decklelaw17_small.calls k  true _ (htab_below HT.out J0) A2.out).mono ?_); rintro e w112 ⟨rfl, hb⟩; refine ⟨_, rfl, ?_⟩; replace HB := zq (below_step J0 hb); (try clear hb)) | ((with_reducible refine gate_callee (f := 7) rfl ?_); refine goesL_ (some 8) rfl rfl Tryd.func7 J8 rfl #[.int .i64 a0] rfl J1 ?_; (with_reducible refine (decklelaw17_of.calls k a0 t619 _ A3.out).mono ?_); rintro e w113 ⟨v620, rfl, ho0, hb⟩; refine ⟨_, rfl, ?_⟩; have HO621 := zq (Kd.N_lower (Kd.N_mono (ok' := fun k_ => True) ho0 (fun k_ hk_ => trivial)) (below_size J0)); replace HB := zq (below_step J0 hb); (try clear hb); (try clear ho0)) | ((with_reducible refine gate_callee (f := 8) rfl ?_); refine goesL_ (some 9) rfl rfl Tryd.func8 J8 rfl #[] rfl J1 ?_; (with_reducible refine (system_Names.calls  t622 _ A4.out).mono ?_); rintro e w114 ⟨v623, rfl, ho0, hb⟩; refine ⟨_, rfl, ?_⟩; replace HO621 := zq (Kd.N_elder' (zn HO621.out) (Kd.R_base ho0) hb); have HO624 := zq (Kd.R_lower ho0 (below_size J0)); replace HB := zq (below_step J0 hb); (try clear hb); (try clear ho0); obtain ⟨Ao115, co115, eo115⟩ := Kd.R_slice HO624.out; subst eo115; have p625 : 0 ≤ (0 : Int) := J26; have q625 : 0 < (t622.length : Int) := of_decide_eq_true J3; obtain ⟨ad625, e625, hx625_0⟩ := Kd.at_string (Kd.R_reads' HO624.out).2.2 0 p625 q625; cases e625; have qi625 : (0 < t622.length) = True := eq_true J26; (try rw [show ((0 : Int)).toNat = 0 from rfl] at hx625_0); (try rw [Addr.add_zero'] at hx625_0); replace p625 := eq_true p625; replace q625 := eq_true q625; obtain ⟨Ao116, co116, eo116⟩ := Kd.N_slice HO621.out; subst eo116) | (go_at_call 9; (with_reducible refine (system_Right.calls k (rdOf ByteArray.empty t622 0) _ _ t619 _ _ ?side1 ?side2 (htab_below HT.out J0) A8.out).mono ?_); (case side1 => exact zc ((Kd.N_reads' HO621.out).2.2)); (case side2 => exact (Kd.N_reads' HO621.out).2.1); rintro e w117 ⟨rfl, hb⟩; replace HO621 := zq (Kd.N_below (zn HO621.out) hb); replace HO624 := zq (Kd.R_below (zr HO624.out) hb); replace HB := zq (below_step J0 hb); (try clear hb); have p627 : 0 ≤ (1 : Int) := J26; have q627 : 1 < (t622.length : Int) := of_decide_eq_true J3; obtain ⟨ad627, e627, hx627_0⟩ := Kd.at_string (Kd.R_reads' HO624.out).2.2 1 p627 q627; obtain rfl : ad625 = ad627 := (by injection e627); (try simp only [show (1 : Int).toNat = 1 from rfl, Nat.reduceMul, Nat.reduceEqDiff, Go.Addr.add, ↓reduceIte] at hx627_0); have qi627 : (1 < t622.length) = True := eq_true J26; (try rw [show ((1 : Int)).toNat = 1 from rfl] at hx627_0); replace p627 := eq_true p627; replace q627 := eq_true q627; clear A8) | (go_at_call 9; (with_reducible refine (system_Right.calls k (rdOf ByteArray.empty t622 1) _ _ t619 _ _ ?side1 ?side2 (htab_below HT.out J0) A11.out).mono ?_); (case side1 => exact zc ((Kd.N_reads' HO621.out).2.2)); (case side2 => exact (Kd.N_reads' HO621.out).2.1); rintro e w118 ⟨rfl, hb⟩; replace HO621 := zq (Kd.N_below (zn HO621.out) hb); replace HO624 := zq (Kd.R_below (zr HO624.out) hb); replace HB := zq (below_step J0 hb); (try clear hb); have p645 : 0 ≤ (2 : Int) := J26; have q645 : 2 < (t622.length : Int) := of_decide_eq_true J3; obtain ⟨ad645, e645, hx645_0⟩ := Kd.at_string (Kd.R_reads' HO624.out).2.2 2 p645 q645; obtain rfl : ad625 = ad645 := (by injection e645); (try simp only [show (2 : Int).toNat = 2 from rfl, Nat.reduceMul, Nat.reduceEqDiff, Go.Addr.add, ↓reduceIte] at hx645_0); have qi645 : (2 < t622.length) = True := eq_true J26; (try rw [show ((2 : Int)).toNat = 2 from rfl] at hx645_0); replace p645 := eq_true p645; replace q645 := eq_true q645; clear A11) | (go_at_call 9; (with_reducible refine (system_Right.calls k (rdOf ByteArray.empty t622 2) _ _ t619 false _ ?side1 ?side2 (htab_below HT.out J0) A86.out).mono ?_); (case side1 => exact zc ((Kd.N_reads' HO621.out).2.2)); (case side2 => exact (Kd.N_reads' HO621.out).2.1); rintro e w119 ⟨rfl, hb⟩; replace HO621 := zq (Kd.N_below (zn HO621.out) hb); replace HO624 := zq (Kd.R_below (zr HO624.out) hb); replace HB := zq (below_step J0 hb); (try clear hb); have p647 : 0 ≤ (3 : Int) := J26; have q647 : 3 < (t622.length : Int) := of_decide_eq_true J3; obtain ⟨ad647, e647, hx647_0⟩ := Kd.at_string (Kd.R_reads' HO624.out).2.2 3 p647 q647; obtain rfl : ad625 = ad647 := (by injection e647); (try simp only [show (3 : Int).toNat = 3 from rfl, Nat.reduceMul, Nat.reduceEqDiff, Go.Addr.add, ↓reduceIte] at hx647_0); have qi647 : (3 < t622.length) = True := eq_true J26; (try rw [show ((3 : Int)).toNat = 3 from rfl] at hx647_0); replace p647 := eq_true p647; replace q647 := eq_true q647; clear A86) | (go_at_call 9; (with_reducible refine (system_Right.calls k (rdOf ByteArray.empty t622 3) _ _ t619 _ _ ?side1 ?side2 (htab_below HT.out J0) A89.out).mono ?_); (case side1 => exact zc ((Kd.N_reads' HO621.out).2.2)); (case side2 => exact (Kd.N_reads' HO621.out).2.1); rintro e w120 ⟨rfl, hb⟩; replace HO621 := zq (Kd.N_below (zn HO621.out) hb); replace HO624 := zq (Kd.R_below (zr HO624.out) hb); replace HB := zq (below_step J0 hb); (try clear hb); have p649 : 0 ≤ (4 : Int) := J26; have q649 : 4 < (t622.length : Int) := of_decide_eq_true J3; obtain ⟨ad649, e649, hx649_0⟩ := Kd.at_string (Kd.R_reads' HO624.out).2.2 4 p649 q649; obtain rfl : ad625 = ad649 := (by injection e649); (try simp only [show (4 : Int).toNat = 4 from rfl, Nat.reduceMul, Nat.reduceEqDiff, Go.Addr.add, ↓reduceIte] at hx649_0); have qi649 : (4 < t622.length) = True := eq_true J26; (try rw [show ((4 : Int)).toNat = 4 from rfl] at hx649_0); replace p649 := eq_true p649; replace q649 := eq_true q649; clear A89) | (go_at_call 9; (with_reducible refine (system_Right.calls k (rdOf ByteArray.empty t622 4) _ _ t619 _ _ ?side1 ?side2 (htab_below HT.out J0) A93.out).mono ?_); (case side1 => exact zc ((Kd.N_reads' HO621.out).2.2)); (case side2 => exact (Kd.N_reads' HO621.out).2.1); rintro e w121 ⟨rfl, hb⟩; replace HO621 := zq (Kd.N_below (zn HO621.out) hb); replace HO624 := zq (Kd.R_below (zr HO624.out) hb); replace HB := zq (below_step J0 hb); (try clear hb); have p653 : 0 ≤ (5 : Int) := J26; have q653 : 5 < (t622.length : Int) := of_decide_eq_true J3; obtain ⟨ad653, e653, hx653_0⟩ := Kd.at_string (Kd.R_reads' HO624.out).2.2 5 p653 q653; obtain rfl : ad625 = ad653 := (by injection e653); (try simp only [show (5 : Int).toNat = 5 from rfl, Nat.reduceMul, Nat.reduceEqDiff, Go.Addr.add, ↓reduceIte] at hx653_0); have qi653 : (5 < t622.length) = True := eq_true J26; (try rw [show ((5 : Int)).toNat = 5 from rfl] at hx653_0); replace p653 := eq_true p653; replace q653 := eq_true q653; clear A93) | (go_at_call 9; (with_reducible refine (system_Right.calls k (rdOf ByteArray.empty t622 5) _ _ t619 t654 _ ?side1 ?side2 (htab_below HT.out J0) A111.out).mono ?_); (case side1 => exact zc ((Kd.N_reads' HO621.out).2.2)); (case side2 => exact (Kd.N_reads' HO621.out).2.1); rintro e w122 ⟨rfl, hb⟩; replace HO621 := zq (Kd.N_below (zn HO621.out) hb); replace HO624 := zq (Kd.R_below (zr HO624.out) hb); replace HB := zq (below_step J0 hb); (try clear hb); clear A111))
        go_ret
        exact ⟨J2, J0⟩
      · rw [if_neg c110] at H
        exact absurd H J32
    · rw [if_neg c109] at H
      exact absurd H J32
  rw [if_pos c94] at H
  have c94b0 := decide_eq_true c94
  clear c94
  by_cases c95 : (t650 == (decide (a0 ≤ 254))) = true
  rotate_left
  · rw [if_neg c95] at H
    exact absurd H J32
  rw [if_pos c95] at H
  have c95b0 : (t650 == (decide (a0 ≤ 254))) = true := c95
  (try (have c95b1 : decide (t650 = (decide (a0 ≤ 254))) = true := by simpa using c95))
  (try (have c95b2 : (t650 == (decide (a0 ≤ 254))) = true := by simpa using c95))
  clear c95
  by_cases c96 : 5 < (t622.length : Int)
  rotate_left
  · rw [if_neg c96] at H
    exact absurd H J32
  rw [if_pos c96] at H
  have c96b0 := decide_eq_true c96
  have c96b1 : decide (5 < t622.length) = true := decide_eq_true J26
  clear c96
  replace H := Option.bind_eq_some_iff.mp H
  obtain ⟨t652, A970, H⟩ := H
  have A97 := zq A970
  clear A970
  obtain rfl := Option.some.inj H
  (try obtain rfl : t650 = _ := beq_iff_eq.mp c109b0)
  (try obtain rfl : t648 = _ := beq_iff_eq.mp c123b0)
  (try obtain rfl : t656 = _ := beq_iff_eq.mp c127b0)
  (try obtain rfl : t628 = _ := beq_iff_eq.mp c13b0)
  (try obtain rfl : t656 = _ := beq_iff_eq.mp c141b0)
  (try obtain rfl : t632 = _ := beq_iff_eq.mp c20b0)
  (try obtain rfl : t634 = _ := beq_iff_eq.mp c24b0)
  (try obtain rfl : t634 = _ := beq_iff_eq.mp c38b0)
  (try obtain rfl : t632 = _ := beq_iff_eq.mp c52b0)
  (try obtain rfl : t640 = _ := beq_iff_eq.mp c56b0)
  (try obtain rfl : t640 = _ := beq_iff_eq.mp c70b0)
  (try obtain rfl : t628 = _ := beq_iff_eq.mp c84b0)
  (try obtain rfl : t626 = _ := beq_iff_eq.mp c9b0)
  (try obtain rfl : t648 = _ := beq_iff_eq.mp c91b0)
  (try obtain rfl : t650 = _ := beq_iff_eq.mp c95b0)
  (try simp only [c12b0] at A8)
  go_enter Tryd.func3, Tryd.ntmps3
  go_wp2_with (first | ((with_reducible refine gate_callee (f := 6) rfl ?_); refine goesL_ (some 6) rfl rfl Tryd.func6 J8 rfl #[] rfl J1 ?_; (with_reducible refine (decklelaw17_small.calls k  true _ (htab_below HT.out J0) A2.out).mono ?_); rintro e w98 ⟨rfl, hb⟩; refine ⟨_, rfl, ?_⟩; replace HB := zq (below_step J0 hb); (try clear hb)) | ((with_reducible refine gate_callee (f := 7) rfl ?_); refine goesL_ (some 8) rfl rfl Tryd.func7 J8 rfl #[.int .i64 a0] rfl J1 ?_; (with_reducible refine (decklelaw17_of.calls k a0 t619 _ A3.out).mono ?_); rintro e w99 ⟨v620, rfl, ho0, hb⟩; refine ⟨_, rfl, ?_⟩; have HO621 := zq (Kd.N_lower (Kd.N_mono (ok' := fun k_ => True) ho0 (fun k_ hk_ => trivial)) (below_size J0)); replace HB := zq (below_step J0 hb); (try clear hb); (try clear ho0)) | ((with_reducible refine gate_callee (f := 8) rfl ?_); refine goesL_ (some 9) rfl rfl Tryd.func8 J8 rfl #[] rfl J1 ?_; (with_reducible refine (system_Names.calls  t622 _ A4.out).mono ?_); rintro e w100 ⟨v623, rfl, ho0, hb⟩; refine ⟨_, rfl, ?_⟩; replace HO621 := zq (Kd.N_elder' (zn HO621.out) (Kd.R_base ho0) hb); have HO624 := zq (Kd.R_lower ho0 (below_size J0)); replace HB := zq (below_step J0 hb); (try clear hb); (try clear ho0); obtain ⟨Ao101, co101, eo101⟩ := Kd.R_slice HO624.out; subst eo101; have p625 : 0 ≤ (0 : Int) := J26; have q625 : 0 < (t622.length : Int) := of_decide_eq_true J3; obtain ⟨ad625, e625, hx625_0⟩ := Kd.at_string (Kd.R_reads' HO624.out).2.2 0 p625 q625; cases e625; have qi625 : (0 < t622.length) = True := eq_true J26; (try rw [show ((0 : Int)).toNat = 0 from rfl] at hx625_0); (try rw [Addr.add_zero'] at hx625_0); replace p625 := eq_true p625; replace q625 := eq_true q625; obtain ⟨Ao102, co102, eo102⟩ := Kd.N_slice HO621.out; subst eo102) | (go_at_call 9; (with_reducible refine (system_Right.calls k (rdOf ByteArray.empty t622 0) _ _ t619 _ _ ?side1 ?side2 (htab_below HT.out J0) A8.out).mono ?_); (case side1 => exact zc ((Kd.N_reads' HO621.out).2.2)); (case side2 => exact (Kd.N_reads' HO621.out).2.1); rintro e w103 ⟨rfl, hb⟩; replace HO621 := zq (Kd.N_below (zn HO621.out) hb); replace HO624 := zq (Kd.R_below (zr HO624.out) hb); replace HB := zq (below_step J0 hb); (try clear hb); have p627 : 0 ≤ (1 : Int) := J26; have q627 : 1 < (t622.length : Int) := of_decide_eq_true J3; obtain ⟨ad627, e627, hx627_0⟩ := Kd.at_string (Kd.R_reads' HO624.out).2.2 1 p627 q627; obtain rfl : ad625 = ad627 := (by injection e627); (try simp only [show (1 : Int).toNat = 1 from rfl, Nat.reduceMul, Nat.reduceEqDiff, Go.Addr.add, ↓reduceIte] at hx627_0); have qi627 : (1 < t622.length) = True := eq_true J26; (try rw [show ((1 : Int)).toNat = 1 from rfl] at hx627_0); replace p627 := eq_true p627; replace q627 := eq_true q627; clear A8) | (go_at_call 9; (with_reducible refine (system_Right.calls k (rdOf ByteArray.empty t622 1) _ _ t619 _ _ ?side1 ?side2 (htab_below HT.out J0) A11.out).mono ?_); (case side1 => exact zc ((Kd.N_reads' HO621.out).2.2)); (case side2 => exact (Kd.N_reads' HO621.out).2.1); rintro e w104 ⟨rfl, hb⟩; replace HO621 := zq (Kd.N_below (zn HO621.out) hb); replace HO624 := zq (Kd.R_below (zr HO624.out) hb); replace HB := zq (below_step J0 hb); (try clear hb); have p645 : 0 ≤ (2 : Int) := J26; have q645 : 2 < (t622.length : Int) := of_decide_eq_true J3; obtain ⟨ad645, e645, hx645_0⟩ := Kd.at_string (Kd.R_reads' HO624.out).2.2 2 p645 q645; obtain rfl : ad625 = ad645 := (by injection e645); (try simp only [show (2 : Int).toNat = 2 from rfl, Nat.reduceMul, Nat.reduceEqDiff, Go.Addr.add, ↓reduceIte] at hx645_0); have qi645 : (2 < t622.length) = True := eq_true J26; (try rw [show ((2 : Int)).toNat = 2 from rfl] at hx645_0); replace p645 := eq_true p645; replace q645 := eq_true q645; clear A11) | (go_at_call 9; (with_reducible refine (system_Right.calls k (rdOf ByteArray.empty t622 2) _ _ t619 false _ ?side1 ?side2 (htab_below HT.out J0) A86.out).mono ?_); (case side1 => exact zc ((Kd.N_reads' HO621.out).2.2)); (case side2 => exact (Kd.N_reads' HO621.out).2.1); rintro e w105 ⟨rfl, hb⟩; replace HO621 := zq (Kd.N_below (zn HO621.out) hb); replace HO624 := zq (Kd.R_below (zr HO624.out) hb); replace HB := zq (below_step J0 hb); (try clear hb); have p647 : 0 ≤ (3 : Int) := J26; have q647 : 3 < (t622.length : Int) := of_decide_eq_true J3; obtain ⟨ad647, e647, hx647_0⟩ := Kd.at_string (Kd.R_reads' HO624.out).2.2 3 p647 q647; obtain rfl : ad625 = ad647 := (by injection e647); (try simp only [show (3 : Int).toNat = 3 from rfl, Nat.reduceMul, Nat.reduceEqDiff, Go.Addr.add, ↓reduceIte] at hx647_0); have qi647 : (3 < t622.length) = True := eq_true J26; (try rw [show ((3 : Int)).toNat = 3 from rfl] at hx647_0); replace p647 := eq_true p647; replace q647 := eq_true q647; clear A86) | (go_at_call 9; (with_reducible refine (system_Right.calls k (rdOf ByteArray.empty t622 3) _ _ t619 _ _ ?side1 ?side2 (htab_below HT.out J0) A89.out).mono ?_); (case side1 => exact zc ((Kd.N_reads' HO621.out).2.2)); (case side2 => exact (Kd.N_reads' HO621.out).2.1); rintro e w106 ⟨rfl, hb⟩; replace HO621 := zq (Kd.N_below (zn HO621.out) hb); replace HO624 := zq (Kd.R_below (zr HO624.out) hb); replace HB := zq (below_step J0 hb); (try clear hb); have p649 : 0 ≤ (4 : Int) := J26; have q649 : 4 < (t622.length : Int) := of_decide_eq_true J3; obtain ⟨ad649, e649, hx649_0⟩ := Kd.at_string (Kd.R_reads' HO624.out).2.2 4 p649 q649; obtain rfl : ad625 = ad649 := (by injection e649); (try simp only [show (4 : Int).toNat = 4 from rfl, Nat.reduceMul, Nat.reduceEqDiff, Go.Addr.add, ↓reduceIte] at hx649_0); have qi649 : (4 < t622.length) = True := eq_true J26; (try rw [show ((4 : Int)).toNat = 4 from rfl] at hx649_0); replace p649 := eq_true p649; replace q649 := eq_true q649; clear A89) | (go_at_call 9; (with_reducible refine (system_Right.calls k (rdOf ByteArray.empty t622 4) _ _ t619 _ _ ?side1 ?side2 (htab_below HT.out J0) A93.out).mono ?_); (case side1 => exact zc ((Kd.N_reads' HO621.out).2.2)); (case side2 => exact (Kd.N_reads' HO621.out).2.1); rintro e w107 ⟨rfl, hb⟩; replace HO621 := zq (Kd.N_below (zn HO621.out) hb); replace HO624 := zq (Kd.R_below (zr HO624.out) hb); replace HB := zq (below_step J0 hb); (try clear hb); have p651 : 0 ≤ (5 : Int) := J26; have q651 : 5 < (t622.length : Int) := of_decide_eq_true J3; obtain ⟨ad651, e651, hx651_0⟩ := Kd.at_string (Kd.R_reads' HO624.out).2.2 5 p651 q651; obtain rfl : ad625 = ad651 := (by injection e651); (try simp only [show (5 : Int).toNat = 5 from rfl, Nat.reduceMul, Nat.reduceEqDiff, Go.Addr.add, ↓reduceIte] at hx651_0); have qi651 : (5 < t622.length) = True := eq_true J26; (try rw [show ((5 : Int)).toNat = 5 from rfl] at hx651_0); replace p651 := eq_true p651; replace q651 := eq_true q651; clear A93) | (go_at_call 9; (with_reducible refine (system_Right.calls k (rdOf ByteArray.empty t622 5) _ _ t619 t652 _ ?side1 ?side2 (htab_below HT.out J0) A97.out).mono ?_); (case side1 => exact zc ((Kd.N_reads' HO621.out).2.2)); (case side2 => exact (Kd.N_reads' HO621.out).2.1); rintro e w108 ⟨rfl, hb⟩; replace HO621 := zq (Kd.N_below (zn HO621.out) hb); replace HO624 := zq (Kd.R_below (zr HO624.out) hb); replace HB := zq (below_step J0 hb); (try clear hb); clear A97))
  go_ret
  exact ⟨J2, J0⟩
def decklelaw17_SystemNumbers.Pure : Prop := ∀ (a0 : Int), (Lit.int .i64 a0).wf = true → ∃ k, decklelaw17_SystemNumbers.f k a0 = some true
theorem decklelaw17_SystemNumbers.walk (P : decklelaw17_SystemNumbers.Pure) (a0 : Int) (w : World) (ht_ : HTab w) (w0 : (Lit.int .i64 a0).wf = true) :
    Calls Tryd.prog 3 #[.int .i64 a0] w fun e w' => e = .returned (.bool true) ∧ Below w.heap.size w w' := by
  obtain ⟨k, h⟩ := P a0 w0
  refine (decklelaw17_SystemNumbers.calls k a0 true w ht_ h).mono ?_
  rintro e w' ⟨rfl, hd⟩
  exact ⟨rfl, hd⟩
end Go.Proofs.YtfjhiiaahbjaiaaDoor.HSystemSigns
