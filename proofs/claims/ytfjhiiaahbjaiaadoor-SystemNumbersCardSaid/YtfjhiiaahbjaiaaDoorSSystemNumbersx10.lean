/- What the Go functions of this claim answer, told as functions of numbers and lists, and that other memory stays as it was: words and walks, shortened by a program. -/
import Derived.Test.YtfjhiiaahbjaiaaDoorSSystemNumbersx0
import Derived.Test.YtfjhiiaahbjaiaaDoorSSystemNumbersx8
import Derived.Test.YtfjhiiaahbjaiaaDoorSSystemNumbersx9
namespace Go.Proofs.YtfjhiiaahbjaiaaDoor.HSystemSigns
open Go.RowKit Go.Proofs.YtfjhiiaahbjaiaaDoorW.PrintWords Go.Proofs.YtfjhiiaahbjaiaaDoorW.PrintLast Go.Proofs.YtfjhiiaahbjaiaaDoorW.PrintMore
attribute [local go_sem] max2_int min2_int max_two min_two max_three min_three max_four min_four
set_option linter.unusedVariables false
set_option linter.unusedSimpArgs false
mutual
def array_items.j1 : Nat → Int → Int → Int → Int → Int → List Int → List Int → List (S40) → Option (Int)
  | 0, _, _, _, _, _, _, _, _ => none
  | k + 1, x3, x5, x6, x17, x237000, x237001, x237002, x237003 => if (x237002.length : Int) = x5 then (if (x237003.length : Int) = x6 then ((array_wrongs_int.f k x237002 x17).bind fun t239 => (if t239 = true then (some (-1)) else ((api_Dec_91.f k x237003).bind fun t240 => (if t240 = true then (some (-1)) else (some x3))))) else (some (-1))) else (some (-1))
def array_items.j0 : Nat → Int → Int → Int → Int → Bool → Int → List Int → List Int → List (S40) → Option (Int)
  | 0, _, _, _, _, _, _, _, _, _ => none
  | k + 1, x3, x5, x6, x17, x18, x237000, x237001, x237002, x237003 => if x18 = true then (array_items.j1 k x3 x3 x6 x17 x237000 x237001 x237002 x237003) else (if x17 = 4 then (array_items.j1 k x3 x5 x3 x17 x237000 x237001 x237002 x237003) else (if x17 = 5 then (array_items.j1 k x3 x5 x6 x17 x237000 x237001 x237002 x237003) else (some (-1))))
end
def array_items.f (k : Nat) (a0_0 : Int) (l0_1 : List Int) (l0_2 : List Int) (l0_3 : List (S40)) : Option (Int) := (shape_Count.f k l0_1).bind fun bt237 => (if bt237.2 = true then (if a0_0 = 1 then (array_items.j0 k bt237.1 0 0 a0_0 (a0_0 == 1) a0_0 l0_1 l0_2 l0_3) else (if a0_0 = 2 then (array_items.j0 k bt237.1 0 0 a0_0 (a0_0 == 2) a0_0 l0_1 l0_2 l0_3) else (array_items.j0 k bt237.1 0 0 a0_0 (a0_0 == 3) a0_0 l0_1 l0_2 l0_3))) else (some (-1)))
theorem array_items.mono_l : ∀ k, (∀ y0 y1 y2 y3 y4 y5 y6 y7, LeO (array_items.j1 k y0 y1 y2 y3 y4 y5 y6 y7) (array_items.j1 (k + 1) y0 y1 y2 y3 y4 y5 y6 y7)) ∧ (∀ y0 y1 y2 y3 y4 y5 y6 y7 y8, LeO (array_items.j0 k y0 y1 y2 y3 y4 y5 y6 y7 y8) (array_items.j0 (k + 1) y0 y1 y2 y3 y4 y5 y6 y7 y8))
  | 0 => ⟨fun _ _ _ _ _ _ _ _ r h => by simp [array_items.j1] at h, fun _ _ _ _ _ _ _ _ _ r h => by simp [array_items.j0] at h⟩
  | k + 1 => by
    obtain ⟨ih0, ih1⟩ := array_items.mono_l k
    refine ⟨?_, ?_⟩
    · intro y0 y1 y2 y3 y4 y5 y6 y7
      unfold array_items.j1
      have im0 := @api_Dec_91.mono
      have im1 := @array_wrongs_int.mono
      have im2 := @shape_Count.mono
      exact mz3
    · intro y0 y1 y2 y3 y4 y5 y6 y7 y8
      unfold array_items.j0
      have im0 := @api_Dec_91.mono
      have im1 := @array_wrongs_int.mono
      have im2 := @shape_Count.mono
      exact mz3
theorem array_items.mono : ∀ a0 a1 a2 a3 k, LeO (array_items.f k a0 a1 a2 a3) (array_items.f (k + 1) a0 a1 a2 a3) := by
  intro a0 a1 a2 a3 k
  obtain ⟨ih0, ih1⟩ := array_items.mono_l k
  unfold array_items.f
  have im0 := @api_Dec_91.mono
  have im1 := @array_wrongs_int.mono
  have im2 := @shape_Count.mono
  exact mz3
set_option maxHeartbeats 8000000 in
set_option maxRecDepth 100000 in
theorem array_items.calls (k : Nat) (a0_0 : Int) (A0_1 : Option Addr) (c0_1 : Nat) (l0_1 : List Int) (A0_2 : Option Addr) (c0_2 : Nat) (l0_2 : List Int) (A0_3 : Option Addr) (c0_3 : Nat) (l0_3 : List (S40)) (r : Int) (w : World) (hr0_1 : Kd.C (Kd.int .i64) w A0_1 l0_1.length l0_1) (hc0_1 : l0_1.length ≤ c0_1) (hr0_2 : Kd.C (Kd.int .i64) w A0_2 l0_2.length l0_2) (hc0_2 : l0_2.length ≤ c0_2) (hr0_3 : Kd.C k40 w A0_3 l0_3.length l0_3) (hc0_3 : l0_3.length ≤ c0_3) (h : array_items.f k a0_0 l0_1 l0_2 l0_3 = some r) :
    Calls Tryd.prog 86 #[.agg #[.int .i64 a0_0, .slice A0_1 l0_1.length c0_1, .slice A0_2 l0_2.length c0_2, .slice A0_3 l0_3.length c0_3]] w fun e w' => e = .returned (.int .i64 r) ∧ Below w.heap.size w w' := by
  have hmf : ∀ (fn : Fn) (first cap : Array Value) (w : World), (Instr.makeFunc fn first cap).run Tryd.prog w = .ok (.func fn first cap) w := fun _ _ _ _ => rfl
  have hu32 := Tryd.underlying32
  have HR0_1 := zq hr0_1
  have HC0_1 := zq hc0_1
  clear hr0_1 hc0_1
  have HR0_2 := zq hr0_2
  have HC0_2 := zq hc0_2
  clear hr0_2 hc0_2
  have HR0_3 := zq hr0_3
  have HC0_3 := zq hc0_3
  clear hr0_3 hc0_3
  have HB := zq (Below.refl w.heap.size w)
  have H : ((shape_Count.f k l0_1).bind fun bt237 => (if bt237.2 = true then (if a0_0 = 1 then (array_items.j0 k bt237.1 0 0 a0_0 (a0_0 == 1) a0_0 l0_1 l0_2 l0_3) else (if a0_0 = 2 then (array_items.j0 k bt237.1 0 0 a0_0 (a0_0 == 2) a0_0 l0_1 l0_2 l0_3) else (array_items.j0 k bt237.1 0 0 a0_0 (a0_0 == 3) a0_0 l0_1 l0_2 l0_3))) else (some (-1)))) = some r := h
  clear h
  replace H := Option.bind_eq_some_iff.mp H
  obtain ⟨⟨t237, t238⟩, A20, H⟩ := H
  dsimp only at H
  have A2 := zq A20
  clear A20
  by_cases c3 : t238 = true
  rotate_left
  · replace c3 := Bool.eq_false_iff.mpr c3
    subst c3
    rw [if_neg (show ¬ (false = true) by decide)] at H
    obtain rfl := Option.some.inj H
    go_enter Tryd.func86, Tryd.ntmps86
    go_wp2_with (first | ((with_reducible refine gate_dst (N := 1) rfl ?_); (try (refine gate_guard J93 ?_; dsimp only)); refine bxw 1 32 #[.int .i64 a0_0, .slice A0_1 l0_1.length c0_1, .slice A0_2 l0_2.length c0_2, .slice A0_3 l0_3.length c0_3] ?_; intro gb236 hg w26 hbox hb; have BK236 := zq (hbox); have GE236 := zq ((J12 : w.heap.size ≤ gb236)); replace HB := zq (below_step J0 hb); clear hb hbox hg; obtain ⟨hcz27_0, hcz27_1, hcz27_2, hcz27_3, hfz27_0, hfz27_1, hfz27_2, hfz27_3⟩ := cz4 BK236.out) | ((with_reducible refine gate_callee (f := 40) rfl ?_); refine goesL_ (some 11) rfl rfl Tryd.func40 J8 rfl #[.slice A0_1 l0_1.length c0_1] rfl J1 ?_; (with_reducible refine (shape_Count.calls k _ _ l0_1 t237 false _ ?side1 ?side2 A2.out).mono ?_); (case side1 => exact zc (Kd.C_below HR0_1.out HB.out)); (case side2 => exact HC0_1.out); rintro e w' ⟨rfl, ⟨nd, rfl⟩⟩; refine ⟨_, rfl, ?_⟩))
    go_ret
    exact ⟨J2, J15⟩
  subst c3
  rw [if_pos rfl] at H
  have HC4 := zq H
  clear H
  go_enter Tryd.func86, Tryd.ntmps86
  go_upto_block 0 with (first | ((with_reducible refine gate_dst (N := 1) rfl ?_); (try (refine gate_guard J93 ?_; dsimp only)); refine box_event ?hg (N := 1) ?hd (cs := #[.int .i64 a0_0, .slice A0_1 l0_1.length c0_1, .slice A0_2 l0_2.length c0_2, .slice A0_3 l0_3.length c0_3]) (t := 32) ?hr ?_; (case hd => rfl); (case hg => rfl); (case hr => first | (go_simp; done) | (go_simp; rfl)); intro gb236 hg w5 hbox hb; have n0_ := zq (below_step J0 hb); have n1_ := zq (hbox); have n2_ := zq ((J12 : w.heap.size ≤ gb236)); have n3_ := zq ((J12 : w.heap.size ≤ gb236)); clear HB; have HB := n0_; have BK236 := n1_; have GW236 := n2_; have GE236 := n3_; clear n0_ n1_ n2_ n3_; clear hb hbox hg; have hcz6_0 : w5.cell? ⟨gb236, 0, none⟩ = some (.int .i64 a0_0) := (blk_cell BK236.out 0).trans rfl; have hcz6_1 : w5.cell? ⟨gb236, 1, none⟩ = some (.slice A0_1 l0_1.length c0_1) := (blk_cell BK236.out 1).trans rfl; have hcz6_2 : w5.cell? ⟨gb236, 2, none⟩ = some (.slice A0_2 l0_2.length c0_2) := (blk_cell BK236.out 2).trans rfl; have hcz6_3 : w5.cell? ⟨gb236, 3, none⟩ = some (.slice A0_3 l0_3.length c0_3) := (blk_cell BK236.out 3).trans rfl; have hfz6_0 := blk_frozen BK236.out 0; have hfz6_1 := blk_frozen BK236.out 1; have hfz6_2 := blk_frozen BK236.out 2; have hfz6_3 := blk_frozen BK236.out 3) | ((with_reducible refine gate_callee (f := 40) rfl ?_); refine goesL_ (some 11) rfl rfl Tryd.func40 J8 rfl #[.slice A0_1 l0_1.length c0_1] rfl J1 ?_; (with_reducible refine (shape_Count.calls k _ _ l0_1 t237 true _ ?side1 ?side2 A2.out).mono ?_); (case side1 => exact zc (Kd.C_below HR0_1.out HB.out)); (case side2 => exact HC0_1.out); rintro e w' ⟨rfl, ⟨nd, rfl⟩⟩; refine ⟨_, rfl, ?_⟩))
  (try simp only [Act.put, List.setIfInBounds_toArray, List.set_cons_zero, List.set_cons_succ])
  go_cut [5, 6] (fun v5 v6 wc => ∃ (kq : Nat) (x5_3 : Int) (x6_3 : Int), v5 = .int .i64 x5_3 ∧ v6 = .int .i64 x6_3 ∧ Aside0 (array_items.j1 kq t237 x5_3 x6_3 a0_0 a0_0 l0_1 l0_2 l0_3 = some r) ∧ Aside0 (kq ≤ k) ∧ Aside0 (wc.heap[gb236]? = some (.cells #[.int .i64 a0_0, (.slice A0_1 l0_1.length c0_1), (.slice A0_2 l0_2.length c0_2), (.slice A0_3 l0_3.length c0_3)] 32 (0, 0))) ∧ Aside0 (Below w.heap.size w wc))
  case first =>
    have H := HC4.out
    clear HC4
    have HC7 := zq H
    clear H
    go_upto_if 18 with (fail)
    go_cut [18] (fun v18 wc => ∃ (kq : Nat) (x18_6 : Bool), v18 = .bool x18_6 ∧ Aside0 (array_items.j0 kq t237 0 0 a0_0 x18_6 a0_0 l0_1 l0_2 l0_3 = some r) ∧ Aside0 (kq ≤ k) ∧ Aside0 (wc.heap[gb236]? = some (.cells #[.int .i64 a0_0, (.slice A0_1 l0_1.length c0_1), (.slice A0_2 l0_2.length c0_2), (.slice A0_3 l0_3.length c0_3)] 32 (0, 0))) ∧ Aside0 (Below w.heap.size w wc))
    case first =>
      have H := HC7.out
      clear HC7
      by_cases c8 : a0_0 = 1
      · rw [if_pos c8] at H
        have c8b0 : (a0_0 == 1) = true := beq_iff_eq.mpr c8
        have c8b1 : (a0_0 != 1) = false := bne_eq_false_iff_eq.mpr c8
        clear c8
        (first | rw [c8b0] | (simp only [i64_w, i32_w]; rw [c8b0]) | skip)
        have H' := zq H
        clear H
        go_wp2
        go_meet
        case rel => exact ⟨_, ((a0_0 == 1)), J4, H', ⟨J33⟩, ⟨J51⟩, ⟨J15⟩⟩
      rw [if_neg c8] at H
      have c8b0 : (a0_0 == 1) = false := beq_eq_false_iff_ne.mpr c8
      have c8b1 : (a0_0 != 1) = true := bne_iff_ne.mpr c8
      (first | rw [c8b0] | (simp only [i64_w, i32_w]; rw [c8b0]) | skip)
      by_cases c9 : a0_0 = 2
      rotate_left
      · rw [if_neg c9] at H
        have c9b0 : (a0_0 == 2) = false := beq_eq_false_iff_ne.mpr c9
        have c9b1 : (a0_0 != 2) = true := bne_iff_ne.mpr c9
        have H' := zq H
        clear H
        go_wp2
        go_meet
        case rel => exact ⟨_, ((a0_0 == 3)), J4, H', ⟨J33⟩, ⟨J51⟩, ⟨J15⟩⟩
      rw [if_pos c9] at H
      have c9b0 : (a0_0 == 2) = true := beq_iff_eq.mpr c9
      have c9b1 : (a0_0 != 2) = false := bne_eq_false_iff_eq.mpr c9
      clear c9
      have H' := zq H
      clear H
      go_wp2
      go_meet
      case rel => exact ⟨_, ((a0_0 == 2)), J4, H', ⟨J33⟩, ⟨J51⟩, ⟨J15⟩⟩
    case rest =>
      clear HC7
      try clear p2
      try clear c3
      try clear c4
      try clear c8
      try clear c8b0
      try clear c8b1
      try clear c9
      try clear c9b0
      try clear c9b1
      try clear hcz6_0
      try clear hcz6_1
      try clear hcz6_2
      try clear hcz6_3
      try clear hfz6_0
      try clear hfz6_1
      try clear hfz6_2
      try clear hfz6_3
      obtain ⟨kq, x18_6, rfl, HA, HJ6, BK236, HB⟩ := hcut
      cases kq with
      | zero => exact absurd HA.out (by simp [array_items.j0])
      | succ kj6 =>
        have H := HA.out
        clear HA
        simp only [array_items.j0] at H
        by_cases c10 : x18_6 = true
        · subst c10
          rw [if_pos rfl] at H
          have H' := zq H
          clear H
          go_wp2
          go_meet
          case rel => exact ⟨_, (t237), (0), J4, J4, H', ⟨J140⟩, ⟨J51⟩, ⟨J15⟩⟩
        replace c10 := Bool.eq_false_iff.mpr c10
        subst c10
        rw [if_neg (show ¬ (false = true) by decide)] at H
        by_cases c11 : a0_0 = 4
        · rw [if_pos c11] at H
          have c11b0 : (a0_0 == 4) = true := beq_iff_eq.mpr c11
          have c11b1 : (a0_0 != 4) = false := bne_eq_false_iff_eq.mpr c11
          clear c11
          have H' := zq H
          clear H
          go_wp2
          go_meet
          case rel => exact ⟨_, (0), (t237), J4, J4, H', ⟨J140⟩, ⟨J51⟩, ⟨J15⟩⟩
        rw [if_neg c11] at H
        have c11b0 : (a0_0 == 4) = false := beq_eq_false_iff_ne.mpr c11
        have c11b1 : (a0_0 != 4) = true := bne_iff_ne.mpr c11
        by_cases c12 : a0_0 = 5
        rotate_left
        · rw [if_neg c12] at H
          have c12b0 : (a0_0 == 5) = false := beq_eq_false_iff_ne.mpr c12
          have c12b1 : (a0_0 != 5) = true := bne_iff_ne.mpr c12
          obtain rfl := Option.some.inj H
          go_wp2
          go_ret
          exact ⟨J2, J15⟩
        rw [if_pos c12] at H
        have c12b0 : (a0_0 == 5) = true := beq_iff_eq.mpr c12
        have c12b1 : (a0_0 != 5) = false := bne_eq_false_iff_eq.mpr c12
        clear c12
        have H' := zq H
        clear H
        go_wp2
        go_meet
        case rel => exact ⟨_, (0), (0), J4, J4, H', ⟨J140⟩, ⟨J51⟩, ⟨J15⟩⟩
  case rest =>
    clear HC4
    try clear c1
    try clear p2
    try clear c3
    try clear c4
    try clear c8
    try clear c8b0
    try clear c8b1
    try clear c9
    try clear c9b0
    try clear c9b1
    try clear c10
    try clear c11
    try clear c11b0
    try clear c11b1
    try clear c12
    try clear c12b0
    try clear c12b1
    try clear hcz6_0
    try clear hcz6_1
    try clear hcz6_2
    try clear hcz6_3
    try clear hfz6_0
    try clear hfz6_1
    try clear hfz6_2
    try clear hfz6_3
    try clear p2
    obtain ⟨kq, x5_3, x6_3, rfl, rfl, HA, HJ3, BK236, HB⟩ := hcut
    cases kq with
    | zero => exact absurd HA.out (by simp [array_items.j1])
    | succ kj3 =>
      have H := HA.out
      clear HA
      simp only [array_items.j1] at H
      by_cases c13 : (l0_2.length : Int) = x5_3
      rotate_left
      · rw [if_neg c13] at H
        have c13b0 : ((l0_2.length : Int) == x5_3) = false := beq_eq_false_iff_ne.mpr c13
        have c13b1 : ((l0_2.length : Int) != x5_3) = true := bne_iff_ne.mpr c13
        obtain rfl := Option.some.inj H
        obtain ⟨hcz25_0, hcz25_1, hcz25_2, hcz25_3, hfz25_0, hfz25_1, hfz25_2, hfz25_3⟩ := cz4 BK236.out
        go_wp2
        go_ret
        exact ⟨J2, J15⟩
      rw [if_pos c13] at H
      have c13b0 : ((l0_2.length : Int) == x5_3) = true := beq_iff_eq.mpr c13
      have c13b1 : ((l0_2.length : Int) != x5_3) = false := bne_eq_false_iff_eq.mpr c13
      clear c13
      by_cases c14 : (l0_3.length : Int) = x6_3
      rotate_left
      · rw [if_neg c14] at H
        have c14b0 : ((l0_3.length : Int) == x6_3) = false := beq_eq_false_iff_ne.mpr c14
        have c14b1 : ((l0_3.length : Int) != x6_3) = true := bne_iff_ne.mpr c14
        obtain rfl := Option.some.inj H
        obtain ⟨hcz24_0, hcz24_1, hcz24_2, hcz24_3, hfz24_0, hfz24_1, hfz24_2, hfz24_3⟩ := cz4 BK236.out
        go_wp2
        go_ret
        exact ⟨J2, J15⟩
      rw [if_pos c14] at H
      have c14b0 : ((l0_3.length : Int) == x6_3) = true := beq_iff_eq.mpr c14
      have c14b1 : ((l0_3.length : Int) != x6_3) = false := bne_eq_false_iff_eq.mpr c14
      clear c14
      replace H := Option.bind_eq_some_iff.mp H
      obtain ⟨t239, A150, H⟩ := H
      have A15 := zq A150
      clear A150
      by_cases c16 : t239 = true
      · subst c16
        rw [if_pos rfl] at H
        obtain rfl := Option.some.inj H
        obtain ⟨hcz17_0, hcz17_1, hcz17_2, hcz17_3, hfz17_0, hfz17_1, hfz17_2, hfz17_3⟩ := cz4 BK236.out
        go_wp2_with (first | (go_at_call 90; (with_reducible refine (array_wrongs_int.calls kj3 _ _ l0_2 a0_0 gb236 true _ ((blk_cell (zk BK236.out) 0).trans rfl) ?side1 ?side2 A15.out).mono ?_); (case side1 => exact zc (Kd.C_below HR0_2.out HB.out)); (case side2 => exact HC0_2.out); rintro e w' ⟨rfl, ⟨nd, rfl⟩⟩))
        go_ret
        exact ⟨J2, J15⟩
      replace c16 := Bool.eq_false_iff.mpr c16
      subst c16
      rw [if_neg (show ¬ (false = true) by decide)] at H
      replace H := Option.bind_eq_some_iff.mp H
      obtain ⟨t240, A180, H⟩ := H
      have A18 := zq A180
      clear A180
      by_cases c19 : t240 = true
      · subst c19
        rw [if_pos rfl] at H
        obtain rfl := Option.some.inj H
        obtain ⟨hcz20_0, hcz20_1, hcz20_2, hcz20_3, hfz20_0, hfz20_1, hfz20_2, hfz20_3⟩ := cz4 BK236.out
        go_wp2_with (first | (go_at_call 90; (with_reducible refine (array_wrongs_int.calls kj3 _ _ l0_2 a0_0 gb236 false _ ((blk_cell (zk BK236.out) 0).trans rfl) ?side1 ?side2 A15.out).mono ?_); (case side1 => exact zc (Kd.C_below HR0_2.out HB.out)); (case side2 => exact HC0_2.out); rintro e w' ⟨rfl, ⟨nd, rfl⟩⟩) | (go_at_call 91; (with_reducible refine (api_Dec_91.calls kj3 _ _ l0_3 true _ ?side1 ?side2 A18.out).mono ?_); (case side1 => repeat (first | exact (Kd.C_below HR0_3.out (zs1 GE236.out)) | (with_reducible refine Kd.C_alloc ?_ _) | (with_reducible refine Kd.C_drewN ?_ _) | (with_reducible refine Kd.C_drew ?_))); (case side2 => exact HC0_3.out); rintro e w21 ⟨rfl, hb⟩; replace BK236 := zq (blk_below (g := gb236) (o := .cells #[.int .i64 a0_0, .slice A0_1 l0_1.length c0_1, .slice A0_2 l0_2.length c0_2, .slice A0_3 l0_3.length c0_3] 32 (0, 0)) (zk BK236.out) hb); replace HB := zq (below_step (zs1 GE236.out) hb); (try clear hb)))
        go_ret
        exact ⟨J2, J15⟩
      replace c19 := Bool.eq_false_iff.mpr c19
      subst c19
      rw [if_neg (show ¬ (false = true) by decide)] at H
      obtain rfl := Option.some.inj H
      obtain ⟨hcz22_0, hcz22_1, hcz22_2, hcz22_3, hfz22_0, hfz22_1, hfz22_2, hfz22_3⟩ := cz4 BK236.out
      go_wp2_with (first | (go_at_call 90; (with_reducible refine (array_wrongs_int.calls kj3 _ _ l0_2 a0_0 gb236 false _ ((blk_cell (zk BK236.out) 0).trans rfl) ?side1 ?side2 A15.out).mono ?_); (case side1 => exact zc (Kd.C_below HR0_2.out HB.out)); (case side2 => exact HC0_2.out); rintro e w' ⟨rfl, ⟨nd, rfl⟩⟩) | (go_at_call 91; (with_reducible refine (api_Dec_91.calls kj3 _ _ l0_3 false _ ?side1 ?side2 A18.out).mono ?_); (case side1 => repeat (first | exact (Kd.C_below HR0_3.out (zs1 GE236.out)) | (with_reducible refine Kd.C_alloc ?_ _) | (with_reducible refine Kd.C_drewN ?_ _) | (with_reducible refine Kd.C_drew ?_))); (case side2 => exact HC0_3.out); rintro e w23 ⟨rfl, hb⟩; replace BK236 := zq (blk_below (g := gb236) (o := .cells #[.int .i64 a0_0, .slice A0_1 l0_1.length c0_1, .slice A0_2 l0_2.length c0_2, .slice A0_3 l0_3.length c0_3] 32 (0, 0)) (zk BK236.out) hb); replace HB := zq (below_step (zs1 GE236.out) hb); (try clear hb)))
      go_ret
      exact ⟨J2, J15⟩
end Go.Proofs.YtfjhiiaahbjaiaaDoor.HSystemSigns
