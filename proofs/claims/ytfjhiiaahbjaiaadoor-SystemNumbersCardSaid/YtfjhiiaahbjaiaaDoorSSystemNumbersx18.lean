/- What the Go functions of this claim answer, told as functions of numbers and lists, and that other memory stays as it was: words and walks, shortened by a program. -/
import Derived.Shelf.LaysM
import Derived.Shelf.Strconv.Itoa3
import Derived.Lib.AppendIntMem
import Derived.Test.YtfjhiiaahbjaiaaDoorRows
import Derived.Test.YtfjhiiaahbjaiaaDoorSSystemNumbersx0
import Derived.Test.YtfjhiiaahbjaiaaDoorSSystemNumbersx1
namespace Go.Proofs.YtfjhiiaahbjaiaaDoor.HSystemSigns
open Go.RowKit Go.Proofs.YtfjhiiaahbjaiaaDoorW.PrintWords Go.Proofs.YtfjhiiaahbjaiaaDoorW.PrintLast Go.Proofs.YtfjhiiaahbjaiaaDoorW.PrintMore
attribute [local go_sem] max2_int min2_int max_two min_two max_three min_three max_four min_four
set_option linter.unusedVariables false
set_option linter.unusedSimpArgs false
attribute [local go_sem high] eqA40
def deckleref01_Same.l0 : Nat → List Int → List Int → Int → Option (Bool)
  | 0, _, _, _ => none
  | k + 1, x0, x1, x5 => if x5 < (x0.length : Int) then (if 0 ≤ x5 then (if x5 < (x1.length : Int) then (if (rd x0 x5) = (rd x1 x5) then (deckleref01_Same.l0 k x0 x1 (wrap64 (x5 + 1))) else (some false)) else (none)) else (none)) else (some true)
def deckleref01_Same.f (k : Nat) (l0 : List Int) (l1 : List Int) : Option (Bool) := if (l0.length : Int) = (l1.length : Int) then (deckleref01_Same.l0 k l0 l1 0) else (some false)
theorem deckleref01_Same.mono_l : ∀ k, (∀ y0 y1 y2, LeO (deckleref01_Same.l0 k y0 y1 y2) (deckleref01_Same.l0 (k + 1) y0 y1 y2))
  | 0 => fun _ _ _ r h => by simp [deckleref01_Same.l0] at h
  | k + 1 => by
    have ih0 := deckleref01_Same.mono_l k
    · intro y0 y1 y2
      unfold deckleref01_Same.l0
      exact mz0
theorem deckleref01_Same.mono : ∀ a0 a1 k, LeO (deckleref01_Same.f k a0 a1) (deckleref01_Same.f (k + 1) a0 a1) := by
  intro a0 a1 k
  have ih0 := deckleref01_Same.mono_l k
  unfold deckleref01_Same.f
  exact mz0
set_option maxHeartbeats 8000000 in
set_option maxRecDepth 100000 in
theorem deckleref01_Same.calls (k : Nat) (A0 : Option Addr) (c0 : Nat) (l0 : List Int) (A1 : Option Addr) (c1 : Nat) (l1 : List Int) (r : Bool) (w : World) (hr0 : Kd.C (Kd.int .i64) w A0 l0.length l0) (hc0 : l0.length ≤ c0) (hr1 : Kd.C (Kd.int .i64) w A1 l1.length l1) (hc1 : l1.length ≤ c1) (h : deckleref01_Same.f k l0 l1 = some r) :
    Calls Tryd.prog 48 #[.slice A0 l0.length c0, .slice A1 l1.length c1] w fun e w' => e = .returned (.bool r) ∧ Drawn0 w w' := by
  have HR0 := zq hr0
  have HC0 := zq hc0
  clear hr0 hc0
  have HR1 := zq hr1
  have HC1 := zq hc1
  clear hr1 hc1
  have H : (if (l0.length : Int) = (l1.length : Int) then (deckleref01_Same.l0 k l0 l1 0) else (some false)) = some r := h
  clear h
  by_cases c3 : (l0.length : Int) = (l1.length : Int)
  rotate_left
  · rw [if_neg c3] at H
    have c3b0 : ((l0.length : Int) == (l1.length : Int)) = false := beq_eq_false_iff_ne.mpr c3
    have c3b1 : ((l0.length : Int) != (l1.length : Int)) = true := bne_iff_ne.mpr c3
    have c3b2 : (l0.length == l1.length) = false := J42
    obtain rfl := Option.some.inj H
    go_enter Tryd.func48, Tryd.ntmps48
    go_wp2
    repeat (go_quiet (fail); try go_wp2)
    go_ret
    exact ⟨J4, J7⟩
  rw [if_pos c3] at H
  have c3b0 : ((l0.length : Int) == (l1.length : Int)) = true := beq_iff_eq.mpr c3
  have c3b1 : ((l0.length : Int) != (l1.length : Int)) = false := bne_eq_false_iff_eq.mpr c3
  have c3b2 : (l0.length == l1.length) = true := J42
  clear c3
  have H' := zq H
  clear H
  go_enter Tryd.func48, Tryd.ntmps48
  go_wp2
  repeat (go_quiet (fail); try go_wp2)
  go_loopg [5] k (fun kq v5 w' => ∃ (x5_1 : Int), v5 = .int .i64 x5_1 ∧ Aside0 (deckleref01_Same.l0 kq l0 l1 x5_1 = some r) ∧ Aside0 (kq ≤ k) ∧ Drawn0 w w')
  case atStart => exact ⟨(0), J4, H', ⟨Nat.le_refl _⟩, J7⟩
  case round =>
    clear H'
    try clear c1
    try clear p2
    try clear c3
    try clear c3b0
    try clear c3b1
    try clear c3b2
    obtain ⟨x5_1, rfl, HA, HK1, ⟨m1, rfl⟩⟩ := hrel
    cases gk with
    | zero => exact absurd HA.out (by simp [deckleref01_Same.l0])
    | succ k1 =>
      have H := HA.out
      clear HA
      simp only [deckleref01_Same.l0] at H
      by_cases c4 : x5_1 < (l0.length : Int)
      rotate_left
      · rw [if_neg c4] at H
        have c4b0 := decide_eq_false c4
        clear c4
        obtain rfl := Option.some.inj H
        go_wp2
        repeat (go_quiet (fail); try go_wp2)
        go_ret
        exact ⟨J4, J7⟩
      rw [if_pos c4] at H
      have c4b0 := decide_eq_true c4
      clear c4
      by_cases c5 : 0 ≤ x5_1
      rotate_left
      · rw [if_neg c5] at H
        exact absurd H J32
      rw [if_pos c5] at H
      have c5b0 := decide_eq_true c5
      clear c5
      by_cases c6 : x5_1 < (l1.length : Int)
      rotate_left
      · rw [if_neg c6] at H
        exact absurd H J32
      rw [if_pos c6] at H
      have c6b0 := decide_eq_true c6
      clear c6
      by_cases c7 : (rd l0 x5_1) = (rd l1 x5_1)
      rotate_left
      · rw [if_neg c7] at H
        have c7b0 : ((rd l0 x5_1) == (rd l1 x5_1)) = false := beq_eq_false_iff_ne.mpr c7
        have c7b1 : ((rd l0 x5_1) != (rd l1 x5_1)) = true := bne_iff_ne.mpr c7
        obtain rfl := Option.some.inj H
        have p528 : 0 ≤ (x5_1 : Int) := of_decide_eq_true J3
        have q528 : x5_1 < (l0.length : Int) := of_decide_eq_true J3
        obtain ⟨ad528, e528, hx528_0⟩ := Kd.at_int HR0.out x5_1 p528 q528
        cases e528
        replace p528 := eq_true p528
        replace q528 := eq_true q528
        have p529 : 0 ≤ (x5_1 : Int) := of_decide_eq_true J3
        have q529 : x5_1 < (l1.length : Int) := of_decide_eq_true J3
        obtain ⟨ad529, e529, hx529_0⟩ := Kd.at_int HR1.out x5_1 p529 q529
        cases e529
        replace p529 := eq_true p529
        replace q529 := eq_true q529
        go_wp2
        repeat (go_quiet (fail); try go_wp2)
        go_ret
        exact ⟨J4, J7⟩
      rw [if_pos c7] at H
      have c7b0 : ((rd l0 x5_1) == (rd l1 x5_1)) = true := beq_iff_eq.mpr c7
      have c7b1 : ((rd l0 x5_1) != (rd l1 x5_1)) = false := bne_eq_false_iff_eq.mpr c7
      clear c7
      have H' := zq H
      clear H
      have p528 : 0 ≤ (x5_1 : Int) := of_decide_eq_true J3
      have q528 : x5_1 < (l0.length : Int) := of_decide_eq_true J3
      obtain ⟨ad528, e528, hx528_0⟩ := Kd.at_int HR0.out x5_1 p528 q528
      cases e528
      replace p528 := eq_true p528
      replace q528 := eq_true q528
      have p529 : 0 ≤ (x5_1 : Int) := of_decide_eq_true J3
      have q529 : x5_1 < (l1.length : Int) := of_decide_eq_true J3
      obtain ⟨ad529, e529, hx529_0⟩ := Kd.at_int HR1.out x5_1 p529 q529
      cases e529
      replace p529 := eq_true p529
      replace q529 := eq_true q529
      go_wp2
      repeat (go_quiet (fail); try go_wp2)
      go_roundg k1
      case measure => have := HK1.out; omega
      case rel => exact ⟨(wrap64 (x5_1 + 1)), J4, H', ⟨J73⟩, J7⟩
def deckleref10_One.l0 : Nat → Int → Int → List Int → List Int → List (S40) → Int → List Int → List Int → List (S40) → Option (Bool)
  | 0, _, _, _, _, _, _, _, _, _ => none
  | k + 1, x5, x531000, x531001, x531002, x531003, x532000, x532001, x532002, x532003 => if x5 < (x531003.length : Int) then (if 0 ≤ x5 then (if x5 < (x532003.length : Int) then (if (!(((rd_T40 x531003 x5).f0) == ((rd_T40 x532003 x5).f0)) || (!(((rd_T40 x531003 x5).f1) == ((rd_T40 x532003 x5).f1)))) = true then (some false) else (deckleref10_One.l0 k (wrap64 (x5 + 1)) x531000 x531001 x531002 x531003 x532000 x532001 x532002 x532003)) else (none)) else (none)) else (if x531000 = x532000 then ((deckleref01_Same.f k x531001 x532001).bind fun t534 => (if t534 = true then ((deckleref01_Same.f k x531002 x532002).bind fun t535 => (some t535)) else (some false))) else (some false))
def deckleref10_One.f (k : Nat) (a0_0 : Int) (l0_1 : List Int) (l0_2 : List Int) (l0_3 : List (S40)) (a1_0 : Int) (l1_1 : List Int) (l1_2 : List Int) (l1_3 : List (S40)) : Option (Bool) := if (l0_3.length : Int) = (l1_3.length : Int) then (deckleref10_One.l0 k 0 a0_0 l0_1 l0_2 l0_3 a1_0 l1_1 l1_2 l1_3) else (some false)
theorem deckleref10_One.mono_l : ∀ k, (∀ y0 y1 y2 y3 y4 y5 y6 y7 y8, LeO (deckleref10_One.l0 k y0 y1 y2 y3 y4 y5 y6 y7 y8) (deckleref10_One.l0 (k + 1) y0 y1 y2 y3 y4 y5 y6 y7 y8))
  | 0 => fun _ _ _ _ _ _ _ _ _ r h => by simp [deckleref10_One.l0] at h
  | k + 1 => by
    have ih0 := deckleref10_One.mono_l k
    · intro y0 y1 y2 y3 y4 y5 y6 y7 y8
      unfold deckleref10_One.l0
      have im0 := @deckleref01_Same.mono
      exact mz3
theorem deckleref10_One.mono : ∀ a0 a1 a2 a3 a4 a5 a6 a7 k, LeO (deckleref10_One.f k a0 a1 a2 a3 a4 a5 a6 a7) (deckleref10_One.f (k + 1) a0 a1 a2 a3 a4 a5 a6 a7) := by
  intro a0 a1 a2 a3 a4 a5 a6 a7 k
  have ih0 := deckleref10_One.mono_l k
  unfold deckleref10_One.f
  have im0 := @deckleref01_Same.mono
  exact mz3
set_option maxHeartbeats 8000000 in
set_option maxRecDepth 100000 in
theorem deckleref10_One.calls (k : Nat) (a0_0 : Int) (A0_1 : Option Addr) (c0_1 : Nat) (l0_1 : List Int) (A0_2 : Option Addr) (c0_2 : Nat) (l0_2 : List Int) (A0_3 : Option Addr) (c0_3 : Nat) (l0_3 : List (S40)) (a1_0 : Int) (A1_1 : Option Addr) (c1_1 : Nat) (l1_1 : List Int) (A1_2 : Option Addr) (c1_2 : Nat) (l1_2 : List Int) (A1_3 : Option Addr) (c1_3 : Nat) (l1_3 : List (S40)) (r : Bool) (w : World) (hr0_1 : Kd.C (Kd.int .i64) w A0_1 l0_1.length l0_1) (hc0_1 : l0_1.length ≤ c0_1) (hr0_2 : Kd.C (Kd.int .i64) w A0_2 l0_2.length l0_2) (hc0_2 : l0_2.length ≤ c0_2) (hr0_3 : Kd.C k40 w A0_3 l0_3.length l0_3) (hc0_3 : l0_3.length ≤ c0_3) (hr1_1 : Kd.C (Kd.int .i64) w A1_1 l1_1.length l1_1) (hc1_1 : l1_1.length ≤ c1_1) (hr1_2 : Kd.C (Kd.int .i64) w A1_2 l1_2.length l1_2) (hc1_2 : l1_2.length ≤ c1_2) (hr1_3 : Kd.C k40 w A1_3 l1_3.length l1_3) (hc1_3 : l1_3.length ≤ c1_3) (h : deckleref10_One.f k a0_0 l0_1 l0_2 l0_3 a1_0 l1_1 l1_2 l1_3 = some r) :
    Calls Tryd.prog 25 #[.agg #[.int .i64 a0_0, .slice A0_1 l0_1.length c0_1, .slice A0_2 l0_2.length c0_2, .slice A0_3 l0_3.length c0_3], .agg #[.int .i64 a1_0, .slice A1_1 l1_1.length c1_1, .slice A1_2 l1_2.length c1_2, .slice A1_3 l1_3.length c1_3]] w fun e w' => e = .returned (.bool r) ∧ Below w.heap.size w w' := by
  have hu32 := Tryd.underlying32
  have hu40 := Tryd.underlying40
  have HR0_1 := zq hr0_1
  have HC0_1 := zq hc0_1
  clear hr0_1 hc0_1
  have HR0_2 := zq hr0_2
  have HC0_2 := zq hc0_2
  clear hr0_2 hc0_2
  have HR0_3 := zq hr0_3
  have HC0_3 := zq hc0_3
  clear hr0_3 hc0_3
  have HR1_1 := zq hr1_1
  have HC1_1 := zq hc1_1
  clear hr1_1 hc1_1
  have HR1_2 := zq hr1_2
  have HC1_2 := zq hc1_2
  clear hr1_2 hc1_2
  have HR1_3 := zq hr1_3
  have HC1_3 := zq hc1_3
  clear hr1_3 hc1_3
  have HB := zq (Below.refl w.heap.size w)
  have H : (if (l0_3.length : Int) = (l1_3.length : Int) then (deckleref10_One.l0 k 0 a0_0 l0_1 l0_2 l0_3 a1_0 l1_1 l1_2 l1_3) else (some false)) = some r := h
  clear h
  by_cases c3 : (l0_3.length : Int) = (l1_3.length : Int)
  rotate_left
  · rw [if_neg c3] at H
    have c3b0 : ((l0_3.length : Int) == (l1_3.length : Int)) = false := beq_eq_false_iff_ne.mpr c3
    have c3b1 : ((l0_3.length : Int) != (l1_3.length : Int)) = true := bne_iff_ne.mpr c3
    have c3b2 : (l0_3.length == l1_3.length) = false := J42
    obtain rfl := Option.some.inj H
    go_enter Tryd.func25, Tryd.ntmps25
    go_wp2_with (first | ((with_reducible refine gate_dst (N := 2) rfl ?_); refine bxw 2 32 #[.int .i64 a0_0, .slice A0_1 l0_1.length c0_1, .slice A0_2 l0_2.length c0_2, .slice A0_3 l0_3.length c0_3] ?_; intro gb530 hg w32 hbox hb; have BK530 := zq (hbox); have GW530 := zq ((J12 : w.heap.size ≤ gb530)); have GE530 := zq ((J12 : w.heap.size ≤ gb530)); replace HB := zq (below_step J0 hb); clear hb hbox hg) | ((with_reducible refine gate_dst (N := 3) rfl ?_); refine bxw 3 32 #[.int .i64 a1_0, .slice A1_1 l1_1.length c1_1, .slice A1_2 l1_2.length c1_2, .slice A1_3 l1_3.length c1_3] ?_; intro gb531 hg w33 hbox hb; have BK531 := zq (hbox); have GW531 := zq ((J63 : w.heap.size ≤ gb531)); have GE531 := zq ((J63 : w.heap.size ≤ gb531)); replace HB := zq (below_step (zs1 GE530.out) hb); have NB530_531 := zq ((J30 : gb530 ≠ gb531)); have NB531_530 := zq ((J31 : gb531 ≠ gb530)); replace BK530 := zq (blk_below (g := gb530) (o := .cells #[.int .i64 a0_0, .slice A0_1 l0_1.length c0_1, .slice A0_2 l0_2.length c0_2, .slice A0_3 l0_3.length c0_3] 32 (0, 0)) (zk BK530.out) hb); clear hb hbox hg; have hnb34 := NB530_531.out; have hnc34 := NB531_530.out; obtain ⟨hcz35_0, hcz35_1, hcz35_2, hcz35_3, hfz35_0, hfz35_1, hfz35_2, hfz35_3⟩ := cz4 BK530.out; obtain ⟨hcz36_0, hcz36_1, hcz36_2, hcz36_3, hfz36_0, hfz36_1, hfz36_2, hfz36_3⟩ := cz4 BK531.out))
    repeat (go_quiet (first | ((with_reducible refine gate_dst (N := 2) rfl ?_); refine box_event ?hg (N := 2) ?hd (cs := #[.int .i64 a0_0, .slice A0_1 l0_1.length c0_1, .slice A0_2 l0_2.length c0_2, .slice A0_3 l0_3.length c0_3]) (t := 32) ?hr ?_; (case hd => rfl); (case hg => rfl); (case hr => first | (go_simp; done) | (go_simp; rfl)); intro gb530 hg w32 hbox hb; have n0_ := zq (below_step J0 hb); have n1_ := zq (hbox); have n2_ := zq ((J12 : w.heap.size ≤ gb530)); have n3_ := zq ((J12 : w.heap.size ≤ gb530)); clear HB; have HB := n0_; have BK530 := n1_; have GW530 := n2_; have GE530 := n3_; clear n0_ n1_ n2_ n3_; clear hb hbox hg) | ((with_reducible refine gate_dst (N := 3) rfl ?_); refine box_event ?hg (N := 3) ?hd (cs := #[.int .i64 a1_0, .slice A1_1 l1_1.length c1_1, .slice A1_2 l1_2.length c1_2, .slice A1_3 l1_3.length c1_3]) (t := 32) ?hr ?_; (case hd => rfl); (case hg => rfl); (case hr => first | (go_simp; done) | (go_simp; rfl)); intro gb531 hg w33 hbox hb; have n0_ := zq (blk_below (g := gb530) (o := .cells #[.int .i64 a0_0, .slice A0_1 l0_1.length c0_1, .slice A0_2 l0_2.length c0_2, .slice A0_3 l0_3.length c0_3] 32 (0, 0)) (zk BK530.out) hb); have n1_ := zq (below_step (zs1 GE530.out) hb); have n2_ := zq (hbox); have n3_ := zq ((J63 : w.heap.size ≤ gb531)); have n4_ := zq ((J63 : w.heap.size ≤ gb531)); have n5_ := zq ((J30 : gb530 ≠ gb531)); have n6_ := zq ((J31 : gb531 ≠ gb530)); clear BK530; clear HB; have BK530 := n0_; have HB := n1_; have BK531 := n2_; have GW531 := n3_; have GE531 := n4_; have NB530_531 := n5_; have NB531_530 := n6_; clear n0_ n1_ n2_ n3_ n4_ n5_ n6_; clear hb hbox hg; have hnb34 := NB530_531.out; have hnc34 := NB531_530.out; have hcz35_0 : w33.cell? ⟨gb530, 0, none⟩ = some (.int .i64 a0_0) := (blk_cell BK530.out 0).trans rfl; have hcz35_1 : w33.cell? ⟨gb530, 1, none⟩ = some (.slice A0_1 l0_1.length c0_1) := (blk_cell BK530.out 1).trans rfl; have hcz35_2 : w33.cell? ⟨gb530, 2, none⟩ = some (.slice A0_2 l0_2.length c0_2) := (blk_cell BK530.out 2).trans rfl; have hcz35_3 : w33.cell? ⟨gb530, 3, none⟩ = some (.slice A0_3 l0_3.length c0_3) := (blk_cell BK530.out 3).trans rfl; have hfz35_0 := blk_frozen BK530.out 0; have hfz35_1 := blk_frozen BK530.out 1; have hfz35_2 := blk_frozen BK530.out 2; have hfz35_3 := blk_frozen BK530.out 3; have hcz36_0 : w33.cell? ⟨gb531, 0, none⟩ = some (.int .i64 a1_0) := (blk_cell BK531.out 0).trans rfl; have hcz36_1 : w33.cell? ⟨gb531, 1, none⟩ = some (.slice A1_1 l1_1.length c1_1) := (blk_cell BK531.out 1).trans rfl; have hcz36_2 : w33.cell? ⟨gb531, 2, none⟩ = some (.slice A1_2 l1_2.length c1_2) := (blk_cell BK531.out 2).trans rfl; have hcz36_3 : w33.cell? ⟨gb531, 3, none⟩ = some (.slice A1_3 l1_3.length c1_3) := (blk_cell BK531.out 3).trans rfl; have hfz36_0 := blk_frozen BK531.out 0; have hfz36_1 := blk_frozen BK531.out 1; have hfz36_2 := blk_frozen BK531.out 2; have hfz36_3 := blk_frozen BK531.out 3)); try go_wp2_with (first | ((with_reducible refine gate_dst (N := 2) rfl ?_); refine box_event ?hg (N := 2) ?hd (cs := #[.int .i64 a0_0, .slice A0_1 l0_1.length c0_1, .slice A0_2 l0_2.length c0_2, .slice A0_3 l0_3.length c0_3]) (t := 32) ?hr ?_; (case hd => rfl); (case hg => rfl); (case hr => first | (go_simp; done) | (go_simp; rfl)); intro gb530 hg w32 hbox hb; have n0_ := zq (below_step J0 hb); have n1_ := zq (hbox); have n2_ := zq ((J12 : w.heap.size ≤ gb530)); have n3_ := zq ((J12 : w.heap.size ≤ gb530)); clear HB; have HB := n0_; have BK530 := n1_; have GW530 := n2_; have GE530 := n3_; clear n0_ n1_ n2_ n3_; clear hb hbox hg) | ((with_reducible refine gate_dst (N := 3) rfl ?_); refine box_event ?hg (N := 3) ?hd (cs := #[.int .i64 a1_0, .slice A1_1 l1_1.length c1_1, .slice A1_2 l1_2.length c1_2, .slice A1_3 l1_3.length c1_3]) (t := 32) ?hr ?_; (case hd => rfl); (case hg => rfl); (case hr => first | (go_simp; done) | (go_simp; rfl)); intro gb531 hg w33 hbox hb; have n0_ := zq (blk_below (g := gb530) (o := .cells #[.int .i64 a0_0, .slice A0_1 l0_1.length c0_1, .slice A0_2 l0_2.length c0_2, .slice A0_3 l0_3.length c0_3] 32 (0, 0)) (zk BK530.out) hb); have n1_ := zq (below_step (zs1 GE530.out) hb); have n2_ := zq (hbox); have n3_ := zq ((J63 : w.heap.size ≤ gb531)); have n4_ := zq ((J63 : w.heap.size ≤ gb531)); have n5_ := zq ((J30 : gb530 ≠ gb531)); have n6_ := zq ((J31 : gb531 ≠ gb530)); clear BK530; clear HB; have BK530 := n0_; have HB := n1_; have BK531 := n2_; have GW531 := n3_; have GE531 := n4_; have NB530_531 := n5_; have NB531_530 := n6_; clear n0_ n1_ n2_ n3_ n4_ n5_ n6_; clear hb hbox hg; have hnb34 := NB530_531.out; have hnc34 := NB531_530.out; have hcz35_0 : w33.cell? ⟨gb530, 0, none⟩ = some (.int .i64 a0_0) := (blk_cell BK530.out 0).trans rfl; have hcz35_1 : w33.cell? ⟨gb530, 1, none⟩ = some (.slice A0_1 l0_1.length c0_1) := (blk_cell BK530.out 1).trans rfl; have hcz35_2 : w33.cell? ⟨gb530, 2, none⟩ = some (.slice A0_2 l0_2.length c0_2) := (blk_cell BK530.out 2).trans rfl; have hcz35_3 : w33.cell? ⟨gb530, 3, none⟩ = some (.slice A0_3 l0_3.length c0_3) := (blk_cell BK530.out 3).trans rfl; have hfz35_0 := blk_frozen BK530.out 0; have hfz35_1 := blk_frozen BK530.out 1; have hfz35_2 := blk_frozen BK530.out 2; have hfz35_3 := blk_frozen BK530.out 3; have hcz36_0 : w33.cell? ⟨gb531, 0, none⟩ = some (.int .i64 a1_0) := (blk_cell BK531.out 0).trans rfl; have hcz36_1 : w33.cell? ⟨gb531, 1, none⟩ = some (.slice A1_1 l1_1.length c1_1) := (blk_cell BK531.out 1).trans rfl; have hcz36_2 : w33.cell? ⟨gb531, 2, none⟩ = some (.slice A1_2 l1_2.length c1_2) := (blk_cell BK531.out 2).trans rfl; have hcz36_3 : w33.cell? ⟨gb531, 3, none⟩ = some (.slice A1_3 l1_3.length c1_3) := (blk_cell BK531.out 3).trans rfl; have hfz36_0 := blk_frozen BK531.out 0; have hfz36_1 := blk_frozen BK531.out 1; have hfz36_2 := blk_frozen BK531.out 2; have hfz36_3 := blk_frozen BK531.out 3)))
    go_ret
    exact ⟨J2, J23⟩
  rw [if_pos c3] at H
  have c3b0 : ((l0_3.length : Int) == (l1_3.length : Int)) = true := beq_iff_eq.mpr c3
  have c3b1 : ((l0_3.length : Int) != (l1_3.length : Int)) = false := bne_eq_false_iff_eq.mpr c3
  have c3b2 : (l0_3.length == l1_3.length) = true := J42
  clear c3
  have H' := zq H
  clear H
  go_enter Tryd.func25, Tryd.ntmps25
  go_wp2_with (first | ((with_reducible refine gate_dst (N := 2) rfl ?_); refine bxw 2 32 #[.int .i64 a0_0, .slice A0_1 l0_1.length c0_1, .slice A0_2 l0_2.length c0_2, .slice A0_3 l0_3.length c0_3] ?_; intro gb530 hg w4 hbox hb; have BK530 := zq (hbox); have GW530 := zq ((J12 : w.heap.size ≤ gb530)); have GE530 := zq ((J12 : w.heap.size ≤ gb530)); replace HB := zq (below_step J0 hb); clear hb hbox hg) | ((with_reducible refine gate_dst (N := 3) rfl ?_); refine bxw 3 32 #[.int .i64 a1_0, .slice A1_1 l1_1.length c1_1, .slice A1_2 l1_2.length c1_2, .slice A1_3 l1_3.length c1_3] ?_; intro gb531 hg w5 hbox hb; have BK531 := zq (hbox); have GW531 := zq ((J63 : w.heap.size ≤ gb531)); have GE531 := zq ((J63 : w.heap.size ≤ gb531)); replace HB := zq (below_step (zs1 GE530.out) hb); have NB530_531 := zq ((J30 : gb530 ≠ gb531)); have NB531_530 := zq ((J31 : gb531 ≠ gb530)); replace BK530 := zq (blk_below (g := gb530) (o := .cells #[.int .i64 a0_0, .slice A0_1 l0_1.length c0_1, .slice A0_2 l0_2.length c0_2, .slice A0_3 l0_3.length c0_3] 32 (0, 0)) (zk BK530.out) hb); clear hb hbox hg; have hnb6 := NB530_531.out; have hnc6 := NB531_530.out; obtain ⟨hcz7_0, hcz7_1, hcz7_2, hcz7_3, hfz7_0, hfz7_1, hfz7_2, hfz7_3⟩ := cz4 BK530.out; obtain ⟨hcz8_0, hcz8_1, hcz8_2, hcz8_3, hfz8_0, hfz8_1, hfz8_2, hfz8_3⟩ := cz4 BK531.out))
  repeat (go_quiet (first | ((with_reducible refine gate_dst (N := 2) rfl ?_); refine box_event ?hg (N := 2) ?hd (cs := #[.int .i64 a0_0, .slice A0_1 l0_1.length c0_1, .slice A0_2 l0_2.length c0_2, .slice A0_3 l0_3.length c0_3]) (t := 32) ?hr ?_; (case hd => rfl); (case hg => rfl); (case hr => first | (go_simp; done) | (go_simp; rfl)); intro gb530 hg w4 hbox hb; have n0_ := zq (below_step J0 hb); have n1_ := zq (hbox); have n2_ := zq ((J12 : w.heap.size ≤ gb530)); have n3_ := zq ((J12 : w.heap.size ≤ gb530)); clear HB; have HB := n0_; have BK530 := n1_; have GW530 := n2_; have GE530 := n3_; clear n0_ n1_ n2_ n3_; clear hb hbox hg) | ((with_reducible refine gate_dst (N := 3) rfl ?_); refine box_event ?hg (N := 3) ?hd (cs := #[.int .i64 a1_0, .slice A1_1 l1_1.length c1_1, .slice A1_2 l1_2.length c1_2, .slice A1_3 l1_3.length c1_3]) (t := 32) ?hr ?_; (case hd => rfl); (case hg => rfl); (case hr => first | (go_simp; done) | (go_simp; rfl)); intro gb531 hg w5 hbox hb; have n0_ := zq (blk_below (g := gb530) (o := .cells #[.int .i64 a0_0, .slice A0_1 l0_1.length c0_1, .slice A0_2 l0_2.length c0_2, .slice A0_3 l0_3.length c0_3] 32 (0, 0)) (zk BK530.out) hb); have n1_ := zq (below_step (zs1 GE530.out) hb); have n2_ := zq (hbox); have n3_ := zq ((J63 : w.heap.size ≤ gb531)); have n4_ := zq ((J63 : w.heap.size ≤ gb531)); have n5_ := zq ((J30 : gb530 ≠ gb531)); have n6_ := zq ((J31 : gb531 ≠ gb530)); clear BK530; clear HB; have BK530 := n0_; have HB := n1_; have BK531 := n2_; have GW531 := n3_; have GE531 := n4_; have NB530_531 := n5_; have NB531_530 := n6_; clear n0_ n1_ n2_ n3_ n4_ n5_ n6_; clear hb hbox hg; have hnb6 := NB530_531.out; have hnc6 := NB531_530.out; have hcz7_0 : w5.cell? ⟨gb530, 0, none⟩ = some (.int .i64 a0_0) := (blk_cell BK530.out 0).trans rfl; have hcz7_1 : w5.cell? ⟨gb530, 1, none⟩ = some (.slice A0_1 l0_1.length c0_1) := (blk_cell BK530.out 1).trans rfl; have hcz7_2 : w5.cell? ⟨gb530, 2, none⟩ = some (.slice A0_2 l0_2.length c0_2) := (blk_cell BK530.out 2).trans rfl; have hcz7_3 : w5.cell? ⟨gb530, 3, none⟩ = some (.slice A0_3 l0_3.length c0_3) := (blk_cell BK530.out 3).trans rfl; have hfz7_0 := blk_frozen BK530.out 0; have hfz7_1 := blk_frozen BK530.out 1; have hfz7_2 := blk_frozen BK530.out 2; have hfz7_3 := blk_frozen BK530.out 3; have hcz8_0 : w5.cell? ⟨gb531, 0, none⟩ = some (.int .i64 a1_0) := (blk_cell BK531.out 0).trans rfl; have hcz8_1 : w5.cell? ⟨gb531, 1, none⟩ = some (.slice A1_1 l1_1.length c1_1) := (blk_cell BK531.out 1).trans rfl; have hcz8_2 : w5.cell? ⟨gb531, 2, none⟩ = some (.slice A1_2 l1_2.length c1_2) := (blk_cell BK531.out 2).trans rfl; have hcz8_3 : w5.cell? ⟨gb531, 3, none⟩ = some (.slice A1_3 l1_3.length c1_3) := (blk_cell BK531.out 3).trans rfl; have hfz8_0 := blk_frozen BK531.out 0; have hfz8_1 := blk_frozen BK531.out 1; have hfz8_2 := blk_frozen BK531.out 2; have hfz8_3 := blk_frozen BK531.out 3)); try go_wp2_with (first | ((with_reducible refine gate_dst (N := 2) rfl ?_); refine box_event ?hg (N := 2) ?hd (cs := #[.int .i64 a0_0, .slice A0_1 l0_1.length c0_1, .slice A0_2 l0_2.length c0_2, .slice A0_3 l0_3.length c0_3]) (t := 32) ?hr ?_; (case hd => rfl); (case hg => rfl); (case hr => first | (go_simp; done) | (go_simp; rfl)); intro gb530 hg w4 hbox hb; have n0_ := zq (below_step J0 hb); have n1_ := zq (hbox); have n2_ := zq ((J12 : w.heap.size ≤ gb530)); have n3_ := zq ((J12 : w.heap.size ≤ gb530)); clear HB; have HB := n0_; have BK530 := n1_; have GW530 := n2_; have GE530 := n3_; clear n0_ n1_ n2_ n3_; clear hb hbox hg) | ((with_reducible refine gate_dst (N := 3) rfl ?_); refine box_event ?hg (N := 3) ?hd (cs := #[.int .i64 a1_0, .slice A1_1 l1_1.length c1_1, .slice A1_2 l1_2.length c1_2, .slice A1_3 l1_3.length c1_3]) (t := 32) ?hr ?_; (case hd => rfl); (case hg => rfl); (case hr => first | (go_simp; done) | (go_simp; rfl)); intro gb531 hg w5 hbox hb; have n0_ := zq (blk_below (g := gb530) (o := .cells #[.int .i64 a0_0, .slice A0_1 l0_1.length c0_1, .slice A0_2 l0_2.length c0_2, .slice A0_3 l0_3.length c0_3] 32 (0, 0)) (zk BK530.out) hb); have n1_ := zq (below_step (zs1 GE530.out) hb); have n2_ := zq (hbox); have n3_ := zq ((J63 : w.heap.size ≤ gb531)); have n4_ := zq ((J63 : w.heap.size ≤ gb531)); have n5_ := zq ((J30 : gb530 ≠ gb531)); have n6_ := zq ((J31 : gb531 ≠ gb530)); clear BK530; clear HB; have BK530 := n0_; have HB := n1_; have BK531 := n2_; have GW531 := n3_; have GE531 := n4_; have NB530_531 := n5_; have NB531_530 := n6_; clear n0_ n1_ n2_ n3_ n4_ n5_ n6_; clear hb hbox hg; have hnb6 := NB530_531.out; have hnc6 := NB531_530.out; have hcz7_0 : w5.cell? ⟨gb530, 0, none⟩ = some (.int .i64 a0_0) := (blk_cell BK530.out 0).trans rfl; have hcz7_1 : w5.cell? ⟨gb530, 1, none⟩ = some (.slice A0_1 l0_1.length c0_1) := (blk_cell BK530.out 1).trans rfl; have hcz7_2 : w5.cell? ⟨gb530, 2, none⟩ = some (.slice A0_2 l0_2.length c0_2) := (blk_cell BK530.out 2).trans rfl; have hcz7_3 : w5.cell? ⟨gb530, 3, none⟩ = some (.slice A0_3 l0_3.length c0_3) := (blk_cell BK530.out 3).trans rfl; have hfz7_0 := blk_frozen BK530.out 0; have hfz7_1 := blk_frozen BK530.out 1; have hfz7_2 := blk_frozen BK530.out 2; have hfz7_3 := blk_frozen BK530.out 3; have hcz8_0 : w5.cell? ⟨gb531, 0, none⟩ = some (.int .i64 a1_0) := (blk_cell BK531.out 0).trans rfl; have hcz8_1 : w5.cell? ⟨gb531, 1, none⟩ = some (.slice A1_1 l1_1.length c1_1) := (blk_cell BK531.out 1).trans rfl; have hcz8_2 : w5.cell? ⟨gb531, 2, none⟩ = some (.slice A1_2 l1_2.length c1_2) := (blk_cell BK531.out 2).trans rfl; have hcz8_3 : w5.cell? ⟨gb531, 3, none⟩ = some (.slice A1_3 l1_3.length c1_3) := (blk_cell BK531.out 3).trans rfl; have hfz8_0 := blk_frozen BK531.out 0; have hfz8_1 := blk_frozen BK531.out 1; have hfz8_2 := blk_frozen BK531.out 2; have hfz8_3 := blk_frozen BK531.out 3)))
  go_loopg [5] k (fun kq v5 w' => ∃ (x5_1 : Int), v5 = .int .i64 x5_1 ∧ Aside0 (deckleref10_One.l0 kq x5_1 a0_0 l0_1 l0_2 l0_3 a1_0 l1_1 l1_2 l1_3 = some r) ∧ Aside0 (kq ≤ k) ∧ Aside0 (w'.heap[gb530]? = some (.cells #[.int .i64 a0_0, (.slice A0_1 l0_1.length c0_1), (.slice A0_2 l0_2.length c0_2), (.slice A0_3 l0_3.length c0_3)] 32 (0, 0))) ∧ Aside0 (w'.heap[gb531]? = some (.cells #[.int .i64 a1_0, (.slice A1_1 l1_1.length c1_1), (.slice A1_2 l1_2.length c1_2), (.slice A1_3 l1_3.length c1_3)] 32 (0, 0))) ∧ Aside0 (Below w.heap.size w w'))
  case atStart => exact ⟨(0), J4, H', ⟨Nat.le_refl _⟩, ⟨J136⟩, ⟨J137⟩, ⟨J23⟩⟩
  case round =>
    clear H'
    try clear c1
    try clear c2
    try clear p2
    try clear c3
    try clear c3b0
    try clear c3b1
    try clear c3b2
    try clear c6
    try clear hcz7_0
    try clear hcz7_1
    try clear hcz7_2
    try clear hcz7_3
    try clear hcz8_0
    try clear hcz8_1
    try clear hcz8_2
    try clear hcz8_3
    try clear hfz7_0
    try clear hfz7_1
    try clear hfz7_2
    try clear hfz7_3
    try clear hfz8_0
    try clear hfz8_1
    try clear hfz8_2
    try clear hfz8_3
    obtain ⟨x5_1, rfl, HA, HK1, BK530, BK531, HB⟩ := hrel
    cases gk with
    | zero => exact absurd HA.out (by simp [deckleref10_One.l0])
    | succ k1 =>
      have H := HA.out
      clear HA
      simp only [deckleref10_One.l0] at H
      by_cases c9 : x5_1 < (l0_3.length : Int)
      rotate_left
      · rw [if_neg c9] at H
        have c9b0 := decide_eq_false c9
        clear c9
        by_cases c19 : a0_0 = a1_0
        · rw [if_pos c19] at H
          have c19b0 : (a0_0 == a1_0) = true := beq_iff_eq.mpr c19
          have c19b1 : (a0_0 != a1_0) = false := bne_eq_false_iff_eq.mpr c19
          clear c19
          replace H := Option.bind_eq_some_iff.mp H
          obtain ⟨t534, A200, H⟩ := H
          have A20 := zq A200
          clear A200
          by_cases c21 : t534 = true
          · subst c21
            rw [if_pos rfl] at H
            replace H := Option.bind_eq_some_iff.mp H
            obtain ⟨t535, A220, H⟩ := H
            have A22 := zq A220
            clear A220
            obtain rfl := Option.some.inj H
            have hnb23 := NB530_531.out
            have hnc23 := NB531_530.out
            obtain ⟨hcz24_0, hcz24_1, hcz24_2, hcz24_3, hfz24_0, hfz24_1, hfz24_2, hfz24_3⟩ := cz4 BK530.out
            obtain ⟨hcz25_0, hcz25_1, hcz25_2, hcz25_3, hfz25_0, hfz25_1, hfz25_2, hfz25_3⟩ := cz4 BK531.out
            go_wp2_with (first | (go_at_call 48; (with_reducible refine (deckleref01_Same.calls k1 _ _ l0_1 _ _ l1_1 true _ ?side1 ?side2 ?side3 ?side4 A20.out).mono ?_); (case side1 => exact zc (Kd.C_below HR0_1.out HB.out)); (case side2 => exact HC0_1.out); (case side3 => exact zc (Kd.C_below HR1_1.out HB.out)); (case side4 => exact HC1_1.out); rintro e w' ⟨rfl, ⟨nd, rfl⟩⟩; (try first | exact ⟨rfl, _, World.drewN_drewN _ _ _⟩ | exact ⟨rfl, _, Eq.trans (World.drewN_drewN _ _ _) (congrArg (World.drewN _) (Nat.add_assoc _ _ _))⟩)) | (go_at_call 48; (with_reducible refine (deckleref01_Same.calls k1 _ _ l0_2 _ _ l1_2 t535 _ ?side1 ?side2 ?side3 ?side4 A22.out).mono ?_); (case side1 => repeat (first | exact (Kd.C_below HR0_2.out (zs2 GE530.out GE531.out)) | (with_reducible refine Kd.C_alloc ?_ _) | (with_reducible refine Kd.C_drewN ?_ _) | (with_reducible refine Kd.C_drew ?_))); (case side2 => exact HC0_2.out); (case side3 => repeat (first | exact (Kd.C_below HR1_2.out (zs2 GE530.out GE531.out)) | (with_reducible refine Kd.C_alloc ?_ _) | (with_reducible refine Kd.C_drewN ?_ _) | (with_reducible refine Kd.C_drew ?_))); (case side4 => exact HC1_2.out); rintro e w' ⟨rfl, ⟨nd, rfl⟩⟩; (try first | exact ⟨rfl, _, World.drewN_drewN _ _ _⟩ | exact ⟨rfl, _, Eq.trans (World.drewN_drewN _ _ _) (congrArg (World.drewN _) (Nat.add_assoc _ _ _))⟩)))
            repeat (go_quiet (first | (go_at_call 48; (with_reducible refine (deckleref01_Same.calls k1 _ _ l0_1 _ _ l1_1 true _ ?side1 ?side2 ?side3 ?side4 A20.out).mono ?_); (case side1 => exact zc (Kd.C_below HR0_1.out HB.out)); (case side2 => exact HC0_1.out); (case side3 => exact zc (Kd.C_below HR1_1.out HB.out)); (case side4 => exact HC1_1.out); rintro e w' ⟨rfl, ⟨nd, rfl⟩⟩; (try first | exact ⟨rfl, _, World.drewN_drewN _ _ _⟩ | exact ⟨rfl, _, Eq.trans (World.drewN_drewN _ _ _) (congrArg (World.drewN _) (Nat.add_assoc _ _ _))⟩)) | (go_at_call 48; (with_reducible refine (deckleref01_Same.calls k1 _ _ l0_2 _ _ l1_2 t535 _ ?side1 ?side2 ?side3 ?side4 A22.out).mono ?_); (case side1 => repeat (first | exact (Kd.C_below HR0_2.out (zs2 GE530.out GE531.out)) | (with_reducible refine Kd.C_alloc ?_ _) | (with_reducible refine Kd.C_drewN ?_ _) | (with_reducible refine Kd.C_drew ?_))); (case side2 => exact HC0_2.out); (case side3 => repeat (first | exact (Kd.C_below HR1_2.out (zs2 GE530.out GE531.out)) | (with_reducible refine Kd.C_alloc ?_ _) | (with_reducible refine Kd.C_drewN ?_ _) | (with_reducible refine Kd.C_drew ?_))); (case side4 => exact HC1_2.out); rintro e w' ⟨rfl, ⟨nd, rfl⟩⟩; (try first | exact ⟨rfl, _, World.drewN_drewN _ _ _⟩ | exact ⟨rfl, _, Eq.trans (World.drewN_drewN _ _ _) (congrArg (World.drewN _) (Nat.add_assoc _ _ _))⟩))); try go_wp2_with (first | (go_at_call 48; (with_reducible refine (deckleref01_Same.calls k1 _ _ l0_1 _ _ l1_1 true _ ?side1 ?side2 ?side3 ?side4 A20.out).mono ?_); (case side1 => exact zc (Kd.C_below HR0_1.out HB.out)); (case side2 => exact HC0_1.out); (case side3 => exact zc (Kd.C_below HR1_1.out HB.out)); (case side4 => exact HC1_1.out); rintro e w' ⟨rfl, ⟨nd, rfl⟩⟩; (try first | exact ⟨rfl, _, World.drewN_drewN _ _ _⟩ | exact ⟨rfl, _, Eq.trans (World.drewN_drewN _ _ _) (congrArg (World.drewN _) (Nat.add_assoc _ _ _))⟩)) | (go_at_call 48; (with_reducible refine (deckleref01_Same.calls k1 _ _ l0_2 _ _ l1_2 t535 _ ?side1 ?side2 ?side3 ?side4 A22.out).mono ?_); (case side1 => repeat (first | exact (Kd.C_below HR0_2.out (zs2 GE530.out GE531.out)) | (with_reducible refine Kd.C_alloc ?_ _) | (with_reducible refine Kd.C_drewN ?_ _) | (with_reducible refine Kd.C_drew ?_))); (case side2 => exact HC0_2.out); (case side3 => repeat (first | exact (Kd.C_below HR1_2.out (zs2 GE530.out GE531.out)) | (with_reducible refine Kd.C_alloc ?_ _) | (with_reducible refine Kd.C_drewN ?_ _) | (with_reducible refine Kd.C_drew ?_))); (case side4 => exact HC1_2.out); rintro e w' ⟨rfl, ⟨nd, rfl⟩⟩; (try first | exact ⟨rfl, _, World.drewN_drewN _ _ _⟩ | exact ⟨rfl, _, Eq.trans (World.drewN_drewN _ _ _) (congrArg (World.drewN _) (Nat.add_assoc _ _ _))⟩))))
            go_ret
            exact ⟨J2, J23⟩
          · replace c21 := Bool.eq_false_iff.mpr c21
            subst c21
            rw [if_neg (show ¬ (false = true) by decide)] at H
            obtain rfl := Option.some.inj H
            have hnb26 := NB530_531.out
            have hnc26 := NB531_530.out
            obtain ⟨hcz27_0, hcz27_1, hcz27_2, hcz27_3, hfz27_0, hfz27_1, hfz27_2, hfz27_3⟩ := cz4 BK530.out
            obtain ⟨hcz28_0, hcz28_1, hcz28_2, hcz28_3, hfz28_0, hfz28_1, hfz28_2, hfz28_3⟩ := cz4 BK531.out
            go_wp2_with (first | (go_at_call 48; (with_reducible refine (deckleref01_Same.calls k1 _ _ l0_1 _ _ l1_1 false _ ?side1 ?side2 ?side3 ?side4 A20.out).mono ?_); (case side1 => exact zc (Kd.C_below HR0_1.out HB.out)); (case side2 => exact HC0_1.out); (case side3 => exact zc (Kd.C_below HR1_1.out HB.out)); (case side4 => exact HC1_1.out); rintro e w' ⟨rfl, ⟨nd, rfl⟩⟩; (try first | exact ⟨rfl, _, World.drewN_drewN _ _ _⟩ | exact ⟨rfl, _, Eq.trans (World.drewN_drewN _ _ _) (congrArg (World.drewN _) (Nat.add_assoc _ _ _))⟩)))
            repeat (go_quiet (first | (go_at_call 48; (with_reducible refine (deckleref01_Same.calls k1 _ _ l0_1 _ _ l1_1 false _ ?side1 ?side2 ?side3 ?side4 A20.out).mono ?_); (case side1 => exact zc (Kd.C_below HR0_1.out HB.out)); (case side2 => exact HC0_1.out); (case side3 => exact zc (Kd.C_below HR1_1.out HB.out)); (case side4 => exact HC1_1.out); rintro e w' ⟨rfl, ⟨nd, rfl⟩⟩; (try first | exact ⟨rfl, _, World.drewN_drewN _ _ _⟩ | exact ⟨rfl, _, Eq.trans (World.drewN_drewN _ _ _) (congrArg (World.drewN _) (Nat.add_assoc _ _ _))⟩))); try go_wp2_with (first | (go_at_call 48; (with_reducible refine (deckleref01_Same.calls k1 _ _ l0_1 _ _ l1_1 false _ ?side1 ?side2 ?side3 ?side4 A20.out).mono ?_); (case side1 => exact zc (Kd.C_below HR0_1.out HB.out)); (case side2 => exact HC0_1.out); (case side3 => exact zc (Kd.C_below HR1_1.out HB.out)); (case side4 => exact HC1_1.out); rintro e w' ⟨rfl, ⟨nd, rfl⟩⟩; (try first | exact ⟨rfl, _, World.drewN_drewN _ _ _⟩ | exact ⟨rfl, _, Eq.trans (World.drewN_drewN _ _ _) (congrArg (World.drewN _) (Nat.add_assoc _ _ _))⟩))))
            go_ret
            exact ⟨J2, J23⟩
        · rw [if_neg c19] at H
          have c19b0 : (a0_0 == a1_0) = false := beq_eq_false_iff_ne.mpr c19
          have c19b1 : (a0_0 != a1_0) = true := bne_iff_ne.mpr c19
          obtain rfl := Option.some.inj H
          have hnb29 := NB530_531.out
          have hnc29 := NB531_530.out
          obtain ⟨hcz30_0, hcz30_1, hcz30_2, hcz30_3, hfz30_0, hfz30_1, hfz30_2, hfz30_3⟩ := cz4 BK530.out
          obtain ⟨hcz31_0, hcz31_1, hcz31_2, hcz31_3, hfz31_0, hfz31_1, hfz31_2, hfz31_3⟩ := cz4 BK531.out
          go_wp2
          repeat (go_quiet (fail); try go_wp2)
          go_ret
          exact ⟨J2, J23⟩
      rw [if_pos c9] at H
      have c9b0 := decide_eq_true c9
      clear c9
      by_cases c10 : 0 ≤ x5_1
      rotate_left
      · rw [if_neg c10] at H
        exact absurd H J32
      rw [if_pos c10] at H
      have c10b0 := decide_eq_true c10
      clear c10
      by_cases c11 : x5_1 < (l1_3.length : Int)
      rotate_left
      · rw [if_neg c11] at H
        exact absurd H J32
      rw [if_pos c11] at H
      have c11b0 := decide_eq_true c11
      clear c11
      by_cases c12 : (!(((rd_T40 l0_3 x5_1).f0) == ((rd_T40 l1_3 x5_1).f0)) || (!(((rd_T40 l0_3 x5_1).f1) == ((rd_T40 l1_3 x5_1).f1)))) = true
      · rw [if_pos c12] at H
        have c12b0 : (!(((rd_T40 l0_3 x5_1).f0) == ((rd_T40 l1_3 x5_1).f0)) || (!(((rd_T40 l0_3 x5_1).f1) == ((rd_T40 l1_3 x5_1).f1)))) = true := c12
        clear c12
        obtain rfl := Option.some.inj H
        have hnb13 := NB530_531.out
        have hnc13 := NB531_530.out
        obtain ⟨hcz14_0, hcz14_1, hcz14_2, hcz14_3, hfz14_0, hfz14_1, hfz14_2, hfz14_3⟩ := cz4 BK530.out
        have p532 : 0 ≤ (x5_1 : Int) := of_decide_eq_true J3
        have q532 : x5_1 < (l0_3.length : Int) := of_decide_eq_true J3
        obtain ⟨ad532, e532, hx532_0, hx532_1⟩ := at_T40 HR0_3.out x5_1 p532 q532
        cases e532
        replace hx532_0 := (HB.out.cell (World.block_lt_of_cell? w _ hx532_0)).trans hx532_0
        replace hx532_1 := (HB.out.cell (World.block_lt_of_cell? w _ hx532_1)).trans hx532_1
        replace p532 := eq_true p532
        replace q532 := eq_true q532
        obtain ⟨hcz15_0, hcz15_1, hcz15_2, hcz15_3, hfz15_0, hfz15_1, hfz15_2, hfz15_3⟩ := cz4 BK531.out
        have p533 : 0 ≤ (x5_1 : Int) := of_decide_eq_true J3
        have q533 : x5_1 < (l1_3.length : Int) := of_decide_eq_true J3
        obtain ⟨ad533, e533, hx533_0, hx533_1⟩ := at_T40 HR1_3.out x5_1 p533 q533
        cases e533
        replace hx533_0 := (HB.out.cell (World.block_lt_of_cell? w _ hx533_0)).trans hx533_0
        replace hx533_1 := (HB.out.cell (World.block_lt_of_cell? w _ hx533_1)).trans hx533_1
        replace p533 := eq_true p533
        replace q533 := eq_true q533
        go_wp2
        repeat (go_quiet (fail); try go_wp2)
        go_ret
        exact ⟨J2, J23⟩
      rw [if_neg c12] at H
      have c12b0 : (!(((rd_T40 l0_3 x5_1).f0) == ((rd_T40 l1_3 x5_1).f0)) || (!(((rd_T40 l0_3 x5_1).f1) == ((rd_T40 l1_3 x5_1).f1)))) = false := by simpa using c12
      clear c12
      have H' := zq H
      clear H
      have hnb16 := NB530_531.out
      have hnc16 := NB531_530.out
      obtain ⟨hcz17_0, hcz17_1, hcz17_2, hcz17_3, hfz17_0, hfz17_1, hfz17_2, hfz17_3⟩ := cz4 BK530.out
      have p532 : 0 ≤ (x5_1 : Int) := of_decide_eq_true J3
      have q532 : x5_1 < (l0_3.length : Int) := of_decide_eq_true J3
      obtain ⟨ad532, e532, hx532_0, hx532_1⟩ := at_T40 HR0_3.out x5_1 p532 q532
      cases e532
      replace hx532_0 := (HB.out.cell (World.block_lt_of_cell? w _ hx532_0)).trans hx532_0
      replace hx532_1 := (HB.out.cell (World.block_lt_of_cell? w _ hx532_1)).trans hx532_1
      replace p532 := eq_true p532
      replace q532 := eq_true q532
      obtain ⟨hcz18_0, hcz18_1, hcz18_2, hcz18_3, hfz18_0, hfz18_1, hfz18_2, hfz18_3⟩ := cz4 BK531.out
      have p533 : 0 ≤ (x5_1 : Int) := of_decide_eq_true J3
      have q533 : x5_1 < (l1_3.length : Int) := of_decide_eq_true J3
      obtain ⟨ad533, e533, hx533_0, hx533_1⟩ := at_T40 HR1_3.out x5_1 p533 q533
      cases e533
      replace hx533_0 := (HB.out.cell (World.block_lt_of_cell? w _ hx533_0)).trans hx533_0
      replace hx533_1 := (HB.out.cell (World.block_lt_of_cell? w _ hx533_1)).trans hx533_1
      replace p533 := eq_true p533
      replace q533 := eq_true q533
      go_wp2
      repeat (go_quiet (fail); try go_wp2)
      go_roundg k1
      case measure => have := HK1.out; omega
      case rel => exact ⟨(wrap64 (x5_1 + 1)), J4, H', ⟨J73⟩, ⟨J136⟩, ⟨J137⟩, ⟨J23⟩⟩
end Go.Proofs.YtfjhiiaahbjaiaaDoor.HSystemSigns
