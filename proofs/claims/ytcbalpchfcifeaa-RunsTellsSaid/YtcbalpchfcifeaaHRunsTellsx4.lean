-- Written by the session's program hy.py.
import Derived.Test.YtcbalpchfcifeaaHRunsTellsx0
import Derived.Test.YtcbalpchfcifeaaHRunsTellsx3
namespace Go.Proofs.Ytcbalpchfcifeaa.HRunsTells
open Go.RowKit Go.Proofs.YtcbalpchfcifeaaW.PrintWords Go.Proofs.YtcbalpchfcifeaaW.PrintLast Go.Proofs.YtcbalpchfcifeaaW.PrintMore
attribute [local go_sem] max2_int min2_int max_two min_two max_three min_three max_four min_four   -- for this text's walks alone
set_option linter.unusedVariables false
set_option linter.unusedSimpArgs false

/-! ### cursor_Cursor_number: function 37 -/
mutual
def cursor_Cursor_number.j0 : Nat → Int → Int → Int → Bool → Int → Int → Int → Int → (List Int) → Option (Int × Int × Int × Int × Int × (List Int))
  | 0, _, _, _, _, _, _, _, _, _ => none
  | k + 1, x5, x6, x7, x23, x1000, x1001, x1002, x1003, x1004 => if x23 = true then (cursor_Cursor_number.j1 k x5 x6 3 x1000 x1001 x1002 x1003 x1004) else (cursor_Cursor_number.j1 k x5 x6 x7 x1000 x1001 x1002 x1003 x1004)
def cursor_Cursor_number.j1 : Nat → Int → Int → Int → Int → Int → Int → Int → (List Int) → Option (Int × Int × Int × Int × Int × (List Int))
  | 0, _, _, _, _, _, _, _, _ => none
  | k + 1, x5, x6, x7, x1000, x1001, x1002, x1003, x1004 => if x7 = 0 then ((cursor_Cursor_Take.f x1000 x1001 x1002 x1003 x1004 x6).bind fun bt179 => (some (x5, bt179.2.1, bt179.2.2.1, bt179.2.2.2.1, bt179.2.2.2.2.1, bt179.2.2.2.2.2))) else ((cursor_Cursor_Fail.f x1000 x1001 x1002 x1003 x1004 x7).bind fun bt187 => (some (0, bt187.1, bt187.2.1, bt187.2.2.1, bt187.2.2.2.1, bt187.2.2.2.2)))
end
def cursor_Cursor_number.f (k : Nat) (s0_0 : Int) (s0_1 : Int) (s0_2 : Int) (s0_3 : Int) (s0_4 : (List Int)) (a1 : Int) : Option (Int × Int × Int × Int × Int × (List Int)) := (varint_Take.f k s0_4).bind fun bt176 => (if bt176.2.2 = 0 then (cursor_Cursor_number.j0 k bt176.1 bt176.2.1 bt176.2.2 (decide (bt176.1 > a1)) s0_0 s0_1 s0_2 s0_3 s0_4) else (cursor_Cursor_number.j0 k bt176.1 bt176.2.1 bt176.2.2 false s0_0 s0_1 s0_2 s0_3 s0_4))
theorem cursor_Cursor_number.mono_l : ∀ k, (∀ y0 y1 y2 y3 y4 y5 y6 y7 y8, LeO (cursor_Cursor_number.j0 k y0 y1 y2 y3 y4 y5 y6 y7 y8) (cursor_Cursor_number.j0 (k + 1) y0 y1 y2 y3 y4 y5 y6 y7 y8)) ∧ (∀ y0 y1 y2 y3 y4 y5 y6 y7, LeO (cursor_Cursor_number.j1 k y0 y1 y2 y3 y4 y5 y6 y7) (cursor_Cursor_number.j1 (k + 1) y0 y1 y2 y3 y4 y5 y6 y7))
  | 0 => ⟨fun _ _ _ _ _ _ _ _ _ r h => by simp [cursor_Cursor_number.j0] at h, fun _ _ _ _ _ _ _ _ r h => by simp [cursor_Cursor_number.j1] at h⟩
  | k + 1 => by
    obtain ⟨ih0, ih1⟩ := cursor_Cursor_number.mono_l k
    refine ⟨?_, ?_⟩
    · intro y0 y1 y2 y3 y4 y5 y6 y7 y8
      unfold cursor_Cursor_number.j0
      repeat' first
      | (with_reducible exact ih0 _ _ _ _ _ _ _ _ _)
      | (with_reducible exact ih1 _ _ _ _ _ _ _ _)
      | (with_reducible exact varint_Take.mono _ _)
      | (with_reducible exact LeO.refl _)
      | (with_reducible exact LeO.none _)
      | (with_reducible refine LeO.ite ?_ ?_)
      | (with_reducible refine LeO.bind ?_ (fun _ => ?_))
      | exact ih0 _ _ _ _ _ _ _ _ _
      | exact ih1 _ _ _ _ _ _ _ _
      | exact varint_Take.mono _ _
      | exact LeO.none _
      | refine LeO.ite ?_ ?_
      | refine LeO.bind ?_ (fun _ => ?_)
    · intro y0 y1 y2 y3 y4 y5 y6 y7
      unfold cursor_Cursor_number.j1
      repeat' first
      | (with_reducible exact ih0 _ _ _ _ _ _ _ _ _)
      | (with_reducible exact ih1 _ _ _ _ _ _ _ _)
      | (with_reducible exact varint_Take.mono _ _)
      | (with_reducible exact LeO.refl _)
      | (with_reducible exact LeO.none _)
      | (with_reducible refine LeO.ite ?_ ?_)
      | (with_reducible refine LeO.bind ?_ (fun _ => ?_))
      | exact ih0 _ _ _ _ _ _ _ _ _
      | exact ih1 _ _ _ _ _ _ _ _
      | exact varint_Take.mono _ _
      | exact LeO.none _
      | refine LeO.ite ?_ ?_
      | refine LeO.bind ?_ (fun _ => ?_)
theorem cursor_Cursor_number.mono : ∀ a0 a1 a2 a3 a4 a5 k, LeO (cursor_Cursor_number.f k a0 a1 a2 a3 a4 a5) (cursor_Cursor_number.f (k + 1) a0 a1 a2 a3 a4 a5) := by
  intro a0 a1 a2 a3 a4 a5 k
  obtain ⟨ih0, ih1⟩ := cursor_Cursor_number.mono_l k
  unfold cursor_Cursor_number.f
  repeat' first
      | (with_reducible exact ih0 _ _ _ _ _ _ _ _ _)
      | (with_reducible exact ih1 _ _ _ _ _ _ _ _)
      | (with_reducible exact varint_Take.mono _ _)
      | (with_reducible exact LeO.refl _)
      | (with_reducible exact LeO.none _)
      | (with_reducible refine LeO.ite ?_ ?_)
      | (with_reducible refine LeO.bind ?_ (fun _ => ?_))
      | exact ih0 _ _ _ _ _ _ _ _ _
      | exact ih1 _ _ _ _ _ _ _ _
      | exact varint_Take.mono _ _
      | exact LeO.none _
      | refine LeO.ite ?_ ?_
      | refine LeO.bind ?_ (fun _ => ?_)
set_option maxHeartbeats 8000000 in
set_option maxRecDepth 100000 in
theorem cursor_Cursor_number.calls (k : Nat) (g : Nat) (s0_0 : Int) (s0_1 : Int) (s0_2 : Int) (s0_3 : Int) (s0_4 : (List Int)) (a1 : Int) (r1 : Int) (r2 : Int) (r3 : Int) (r4 : Int) (r5 : Int) (r6 : (List Int)) (w0 w : World) (hI : IsS49 w0 w g s0_0 s0_1 s0_2 s0_3 s0_4) (hB : Below w0.heap.size w0 w) (h : cursor_Cursor_number.f k s0_0 s0_1 s0_2 s0_3 s0_4 a1 = some (r1, r2, r3, r4, r5, r6)) :
    Calls Try.prog 37 #[.pointer (some ⟨g, 0, none⟩), .int .u64 a1] w fun e w' => e = .returned (.int .u64 r1) ∧ IsS49 w0 w' g r2 r3 r4 r5 r6 ∧ Below w0.heap.size w0 w' ∧ KeepBut w w' g none := by
  have HI0 := Aside0.mk hI
  have HK := Aside0.mk (KeepBut.refl w g none)
  have HL := Aside0.mk hB.size
  clear hI
  have HW0 := Aside0.mk hB.size
  have HB := Aside0.mk hB
  clear hB
  have H : ((varint_Take.f k s0_4).bind fun bt176 => (if bt176.2.2 = 0 then (cursor_Cursor_number.j0 k bt176.1 bt176.2.1 bt176.2.2 (decide (bt176.1 > a1)) s0_0 s0_1 s0_2 s0_3 s0_4) else (cursor_Cursor_number.j0 k bt176.1 bt176.2.1 bt176.2.2 false s0_0 s0_1 s0_2 s0_3 s0_4))) = some (r1, r2, r3, r4, r5, r6) := h
  clear h
  replace H := Option.bind_eq_some_iff.mp H
  obtain ⟨⟨t176, t177, t178⟩, A30, H⟩ := H
  replace H : (if t178 = 0 then (cursor_Cursor_number.j0 k t176 t177 t178 (decide (t176 > a1)) s0_0 s0_1 s0_2 s0_3 s0_4) else (cursor_Cursor_number.j0 k t176 t177 t178 false s0_0 s0_1 s0_2 s0_3 s0_4)) = some (r1, r2, r3, r4, r5, r6) := H
  have A3 := Aside0.mk A30
  clear A30
  have HC4 := Aside0.mk H
  clear H
  obtain ⟨⟨A_, c_, HGz5, hcapz5, HRz5⟩, hgz5⟩ := HI0.out
  have HCz5 := HRz5.1
  have hcz5_0 := cellS49_0 HGz5
  have hcz5_1 := cellS49_1 HGz5
  have hcz5_2 := cellS49_2 HGz5
  have hcz5_3 := cellS49_3 HGz5
  have hcz5_4 := cellS49_4 HGz5
  have hfz5_0 := blk_frozen HGz5 0
  have hfz5_1 := blk_frozen HGz5 1
  have hfz5_2 := blk_frozen HGz5 2
  have hfz5_3 := blk_frozen HGz5 3
  have hfz5_4 := blk_frozen HGz5 4
  clear HGz5 hgz5
  go_enter Try.func37, Try.ntmps37
  go_upto_region 2 with (first | ((with_reducible refine gate_callee (f := 38) rfl ?_); refine goesL_ (some 13) rfl rfl Try.func38 (by kernel_rfl) rfl #[.slice A_ (s0_4).length c_] rfl (by (try simp only [List.map_toArray, List.map_cons, List.map_nil]); first | done | rfl | (simp only [List.length_drop, List.length_take]; rfl)) ?_; (with_reducible refine (varint_Take.calls k _ _ s0_4 t176 t177 t178 _ ?side1 ?side2 A3.out).mono ?_); (case side1 => assumption); (case side2 => assumption); rintro e w' ⟨rfl, ⟨nd, rfl⟩⟩; refine ⟨_, rfl, ?_⟩))
  (try simp only [Act.put, List.setIfInBounds_toArray, List.set_cons_zero, List.set_cons_succ])
  go_cut [23] (fun v23 wc => ∃ (kq : Nat) (x23_3 : Bool), v23 = .bool x23_3 ∧ Aside0 (cursor_Cursor_number.j0 kq t176 t177 t178 x23_3 s0_0 s0_1 s0_2 s0_3 s0_4 = some (r1, r2, r3, r4, r5, r6)) ∧ Aside0 (kq ≤ k) ∧ Aside0 (IsS49 w0 wc g s0_0 s0_1 s0_2 s0_3 s0_4) ∧ Aside0 (KeepBut w wc g none) ∧ Aside0 (Below w0.heap.size w0 wc))
  case first =>
    have H := HC4.out
    clear HC4
    by_cases c6 : t178 = 0
    · rw [if_pos c6] at H
      have c6b0 : (t178 == 0) = true := beq_iff_eq.mpr c6
      have c6b1 : (t178 != 0) = false := bne_eq_false_iff_eq.mpr c6
      clear c6
      (first | rw [c6b0] | (simp only [i64_w, i32_w]; rw [c6b0]) | skip)
      have H' := Aside0.mk H
      clear H
      go_wp2
      go_meet
      case rel => exact ⟨_, (decide (t176 > a1)), (by first | rfl | (simp; done) | (simp [*]; done)), H', ⟨by first | omega | exact Nat.le_refl _⟩, ⟨by repeat (first | (with_reducible first | exact HI0.out | apply IsS49.alloc | apply IsS49.drewN | apply IsS49.drew | apply IsS49.set_0 | apply IsS49.set_1 | apply IsS49.set_2 | apply IsS49.set_3 | apply IsS49.set_4) | exact HI0.out)⟩, ⟨by repeat (first | (with_reducible first | exact HK.out | apply KeepBut.set_ | apply keep_drewN | apply keep_drew | apply keep_alloc) | exact HK.out)⟩, ⟨by repeat (first | (with_reducible first | exact HB.out | apply below_alloc | apply pw_below_drewN | apply below_drew1 | refine below_set ?_ (IsS49.ge HI0.out)) | exact HB.out)⟩⟩
    · rw [if_neg c6] at H
      have c6b0 : (t178 == 0) = false := beq_eq_false_iff_ne.mpr c6
      have c6b1 : (t178 != 0) = true := bne_iff_ne.mpr c6
      (first | rw [c6b0] | (simp only [i64_w, i32_w]; rw [c6b0]) | skip)
      have H' := Aside0.mk H
      clear H
      go_wp2
      go_meet
      case rel => exact ⟨_, (false), (by first | rfl | (simp; done) | (simp [*]; done)), H', ⟨by first | omega | exact Nat.le_refl _⟩, ⟨by repeat (first | (with_reducible first | exact HI0.out | apply IsS49.alloc | apply IsS49.drewN | apply IsS49.drew | apply IsS49.set_0 | apply IsS49.set_1 | apply IsS49.set_2 | apply IsS49.set_3 | apply IsS49.set_4) | exact HI0.out)⟩, ⟨by repeat (first | (with_reducible first | exact HK.out | apply KeepBut.set_ | apply keep_drewN | apply keep_drew | apply keep_alloc) | exact HK.out)⟩, ⟨by repeat (first | (with_reducible first | exact HB.out | apply below_alloc | apply pw_below_drewN | apply below_drew1 | refine below_set ?_ (IsS49.ge HI0.out)) | exact HB.out)⟩⟩
  case rest =>
    clear HC4
    try clear p2
    try clear c3
    try clear c6
    try clear c6b0
    try clear c6b1
    try clear hcz5_0
    try clear hcz5_1
    try clear hcz5_2
    try clear hcz5_3
    try clear hcz5_4
    try clear hfz5_0
    try clear hfz5_1
    try clear hfz5_2
    try clear hfz5_3
    try clear hfz5_4
    obtain ⟨kq, x23_3, rfl, HA, HJ3, HI0, HK, HB⟩ := hcut
    cases kq with
    | zero => exact absurd HA.out (by simp [cursor_Cursor_number.j0])
    | succ kj3 =>
      have H := HA.out
      clear HA
      simp only [cursor_Cursor_number.j0] at H
      have HC7 := Aside0.mk H
      clear H
      go_upto_if 23 with (fail)
      go_cut [7] (fun v7 wc => ∃ (kq : Nat) (x7_6 : Int), v7 = .int .i64 x7_6 ∧ Aside0 (cursor_Cursor_number.j1 kq t176 t177 x7_6 s0_0 s0_1 s0_2 s0_3 s0_4 = some (r1, r2, r3, r4, r5, r6)) ∧ Aside0 (kq ≤ kj3) ∧ Aside0 (IsS49 w0 wc g s0_0 s0_1 s0_2 s0_3 s0_4) ∧ Aside0 (KeepBut w wc g none) ∧ Aside0 (Below w0.heap.size w0 wc))
      case first =>
        have H := HC7.out
        clear HC7
        by_cases c8 : x23_3 = true
        · subst c8
          have H1 : (cursor_Cursor_number.j1 kj3 t176 t177 3 s0_0 s0_1 s0_2 s0_3 s0_4) = some (r1, r2, r3, r4, r5, r6) := by rw [if_pos rfl] at H; exact H
          clear H
          have H := H1
          clear H1
          have H' := Aside0.mk H
          clear H
          go_wp2
          go_meet
          case rel => exact ⟨_, (3), (by first | rfl | (simp; done) | (simp [*]; done)), H', ⟨by have := HJ3.out; first | omega | exact Nat.le_refl _⟩, ⟨by repeat (first | (with_reducible first | exact HI0.out | apply IsS49.alloc | apply IsS49.drewN | apply IsS49.drew | apply IsS49.set_0 | apply IsS49.set_1 | apply IsS49.set_2 | apply IsS49.set_3 | apply IsS49.set_4) | exact HI0.out)⟩, ⟨by repeat (first | (with_reducible first | exact HK.out | apply KeepBut.set_ | apply keep_drewN | apply keep_drew | apply keep_alloc) | exact HK.out)⟩, ⟨by repeat (first | (with_reducible first | exact HB.out | apply below_alloc | apply pw_below_drewN | apply below_drew1 | refine below_set ?_ (IsS49.ge HI0.out)) | exact HB.out)⟩⟩
        · replace c8 := Bool.eq_false_iff.mpr c8
          subst c8
          have H1 : (cursor_Cursor_number.j1 kj3 t176 t177 t178 s0_0 s0_1 s0_2 s0_3 s0_4) = some (r1, r2, r3, r4, r5, r6) := by rw [if_neg (show ¬ (false = true) by decide)] at H; exact H
          clear H
          have H := H1
          clear H1
          have H' := Aside0.mk H
          clear H
          go_wp2
          go_meet
          case rel => exact ⟨_, (t178), (by first | rfl | (simp; done) | (simp [*]; done)), H', ⟨by have := HJ3.out; first | omega | exact Nat.le_refl _⟩, ⟨by repeat (first | (with_reducible first | exact HI0.out | apply IsS49.alloc | apply IsS49.drewN | apply IsS49.drew | apply IsS49.set_0 | apply IsS49.set_1 | apply IsS49.set_2 | apply IsS49.set_3 | apply IsS49.set_4) | exact HI0.out)⟩, ⟨by repeat (first | (with_reducible first | exact HK.out | apply KeepBut.set_ | apply keep_drewN | apply keep_drew | apply keep_alloc) | exact HK.out)⟩, ⟨by repeat (first | (with_reducible first | exact HB.out | apply below_alloc | apply pw_below_drewN | apply below_drew1 | refine below_set ?_ (IsS49.ge HI0.out)) | exact HB.out)⟩⟩
      case rest =>
        clear HC7
        try clear p2
        try clear c3
        try clear c6
        try clear c6b0
        try clear c6b1
        try clear c8
        try clear hcz5_0
        try clear hcz5_1
        try clear hcz5_2
        try clear hcz5_3
        try clear hcz5_4
        try clear hfz5_0
        try clear hfz5_1
        try clear hfz5_2
        try clear hfz5_3
        try clear hfz5_4
        try clear p2
        obtain ⟨kq, x7_6, rfl, HA, HJ6, HI0, HK, HB⟩ := hcut
        cases kq with
        | zero => exact absurd HA.out (by simp [cursor_Cursor_number.j1])
        | succ kj6 =>
          have H := HA.out
          clear HA
          simp only [cursor_Cursor_number.j1] at H
          by_cases c9 : x7_6 = 0
          · rw [if_pos c9] at H
            have c9b0 : (x7_6 == 0) = true := beq_iff_eq.mpr c9
            have c9b1 : (x7_6 != 0) = false := bne_eq_false_iff_eq.mpr c9
            clear c9
            replace H := Option.bind_eq_some_iff.mp H
            obtain ⟨⟨t179, t182, t183, t184, t185, t186⟩, A100, H⟩ := H
            replace H : (some (t176, t182, t183, t184, t185, t186)) = some (r1, r2, r3, r4, r5, r6) := H
            have A10 := Aside0.mk A100
            clear A100
            simp only [Option.some.injEq, Prod.mk.injEq] at H
            obtain ⟨rfl, rfl, rfl, rfl, rfl, rfl⟩ := H
            go_wp2_with (first | ((with_reducible refine gate_callee (f := 27) rfl ?_); refine goesL_ (some 31) rfl rfl Try.func27 (by kernel_rfl) rfl #[.pointer (some ⟨g, 0, none⟩), .int .i64 t177] rfl (by (try simp only [List.map_toArray, List.map_cons, List.map_nil]); first | done | rfl | (simp only [List.length_drop, List.length_take]; rfl)) ?_; (with_reducible refine (cursor_Cursor_Take.calls g s0_0 s0_1 s0_2 s0_3 s0_4 t177 t179 t182 t183 t184 t185 t186 w0 _ ?side1 ?side2 A10.out).mono ?_); (case side1 => repeat (first | (with_reducible first | exact HI0.out | apply IsS49.alloc | apply IsS49.drewN | apply IsS49.drew | apply IsS49.set_0 | apply IsS49.set_1 | apply IsS49.set_2 | apply IsS49.set_3 | apply IsS49.set_4) | exact HI0.out)); (case side2 => repeat (first | (with_reducible first | exact HB.out | apply below_alloc | apply pw_below_drewN | apply below_drew1 | refine below_set ?_ (IsS49.ge HI0.out)) | exact HB.out)); rintro e w11 ⟨v180, rfl, ho0, hi, hb, hk⟩; refine ⟨_, rfl, ?_⟩; have n0_ := Aside0.mk (Kd.R_lower ho0 (keep_size (w := w) (g := g) (row := none) (by repeat (first | (with_reducible first | exact HK.out | apply KeepBut.set_ | apply keep_drewN | apply keep_drew | apply keep_alloc) | exact HK.out)))); have n1_ := Aside0.mk (KeepBut.trans (by repeat (first | (with_reducible first | exact HK.out | apply KeepBut.set_ | apply keep_drewN | apply keep_drew | apply keep_alloc) | exact HK.out)) hk (.inl rfl)); have n2_ := Aside0.mk (hb); have n3_ := Aside0.mk (hi); clear HK; clear HB; clear HI0; have HO181 := n0_; have HK := n1_; have HB := n2_; have HI0 := n3_; clear n0_ n1_ n2_ n3_; (try clear hb); (try clear hb2); (try clear hk); (try clear hi); (try clear ho0)))
            go_ret
            exact ⟨by first | rfl | (simp [errW_none, errW_some] <;> rfl) | (simp [*, errW_none, errW_some] <;> rfl), by repeat (first | (with_reducible first | exact HI0.out | apply IsS49.alloc | apply IsS49.drewN | apply IsS49.drew | apply IsS49.set_0 | apply IsS49.set_1 | apply IsS49.set_2 | apply IsS49.set_3 | apply IsS49.set_4) | exact HI0.out), by repeat (first | (with_reducible first | exact HB.out | apply below_alloc | apply pw_below_drewN | apply below_drew1 | refine below_set ?_ (IsS49.ge HI0.out)) | exact HB.out), by repeat (first | (with_reducible first | exact HK.out | apply KeepBut.set_ | apply keep_drewN | apply keep_drew | apply keep_alloc) | exact HK.out)⟩
          · rw [if_neg c9] at H
            have c9b0 : (x7_6 == 0) = false := beq_eq_false_iff_ne.mpr c9
            have c9b1 : (x7_6 != 0) = true := bne_iff_ne.mpr c9
            replace H := Option.bind_eq_some_iff.mp H
            obtain ⟨⟨t187, t188, t189, t190, t191⟩, A120, H⟩ := H
            replace H : (some (0, t187, t188, t189, t190, t191)) = some (r1, r2, r3, r4, r5, r6) := H
            have A12 := Aside0.mk A120
            clear A120
            simp only [Option.some.injEq, Prod.mk.injEq] at H
            obtain ⟨rfl, rfl, rfl, rfl, rfl, rfl⟩ := H
            go_wp2_with (first | ((with_reducible refine gate_callee (f := 39) rfl ?_); refine goesL_ (some 28) rfl rfl Try.func39 (by kernel_rfl) rfl #[.pointer (some ⟨g, 0, none⟩), .int .i64 x7_6] rfl (by (try simp only [List.map_toArray, List.map_cons, List.map_nil]); first | done | rfl | (simp only [List.length_drop, List.length_take]; rfl)) ?_; (with_reducible refine (cursor_Cursor_Fail.calls g s0_0 s0_1 s0_2 s0_3 s0_4 x7_6 t187 t188 t189 t190 t191 w0 _ ?side1 ?side2 A12.out).mono ?_); (case side1 => repeat (first | (with_reducible first | exact HI0.out | apply IsS49.alloc | apply IsS49.drewN | apply IsS49.drew | apply IsS49.set_0 | apply IsS49.set_1 | apply IsS49.set_2 | apply IsS49.set_3 | apply IsS49.set_4) | exact HI0.out)); (case side2 => repeat (first | (with_reducible first | exact HB.out | apply below_alloc | apply pw_below_drewN | apply below_drew1 | refine below_set ?_ (IsS49.ge HI0.out)) | exact HB.out)); rintro e w13 ⟨rfl, hi, hb, hk⟩; refine ⟨_, rfl, ?_⟩; have n0_ := Aside0.mk (KeepBut.trans (by repeat (first | (with_reducible first | exact HK.out | apply KeepBut.set_ | apply keep_drewN | apply keep_drew | apply keep_alloc) | exact HK.out)) hk (.inl rfl)); have n1_ := Aside0.mk (hb); have n2_ := Aside0.mk (hi); clear HK; clear HB; clear HI0; have HK := n0_; have HB := n1_; have HI0 := n2_; clear n0_ n1_ n2_; (try clear hb); (try clear hb2); (try clear hk); (try clear hi)))
            go_ret
            exact ⟨by first | rfl | (simp [errW_none, errW_some] <;> rfl) | (simp [*, errW_none, errW_some] <;> rfl), by repeat (first | (with_reducible first | exact HI0.out | apply IsS49.alloc | apply IsS49.drewN | apply IsS49.drew | apply IsS49.set_0 | apply IsS49.set_1 | apply IsS49.set_2 | apply IsS49.set_3 | apply IsS49.set_4) | exact HI0.out), by repeat (first | (with_reducible first | exact HB.out | apply below_alloc | apply pw_below_drewN | apply below_drew1 | refine below_set ?_ (IsS49.ge HI0.out)) | exact HB.out), by repeat (first | (with_reducible first | exact HK.out | apply KeepBut.set_ | apply keep_drewN | apply keep_drew | apply keep_alloc) | exact HK.out)⟩

/-! ### cursor_Cursor_Num: function 26 -/
def cursor_Cursor_Num.f (k : Nat) (s0_0 : Int) (s0_1 : Int) (s0_2 : Int) (s0_3 : Int) (s0_4 : (List Int)) (a1 : Int) : Option (Int × Int × Int × Int × Int × (List Int)) := if a1 ≥ 0 then ((cursor_Cursor_number.f k s0_0 s0_1 s0_2 s0_3 s0_4 (IntKind.u64.wrap (a1))).bind fun bt192 => (some (wrap64 (bt192.1), bt192.2.1, bt192.2.2.1, bt192.2.2.2.1, bt192.2.2.2.2.1, bt192.2.2.2.2.2))) else ((varint_Take.f k s0_4).bind fun bt198 => ((cursor_Cursor_Fail.f s0_0 s0_1 s0_2 s0_3 s0_4 bt198.2.2).bind fun bt201 => ((cursor_Cursor_Fail.f bt201.1 bt201.2.1 bt201.2.2.1 bt201.2.2.2.1 bt201.2.2.2.2 3).bind fun bt206 => (some (0, bt206.1, bt206.2.1, bt206.2.2.1, bt206.2.2.2.1, bt206.2.2.2.2)))))
theorem cursor_Cursor_Num.mono : ∀ a0 a1 a2 a3 a4 a5 k, LeO (cursor_Cursor_Num.f k a0 a1 a2 a3 a4 a5) (cursor_Cursor_Num.f (k + 1) a0 a1 a2 a3 a4 a5) := by
  intro a0 a1 a2 a3 a4 a5 k
  unfold cursor_Cursor_Num.f
  repeat' first
      | (with_reducible exact cursor_Cursor_number.mono _ _ _ _ _ _ _)
      | (with_reducible exact varint_Take.mono _ _)
      | (with_reducible exact LeO.refl _)
      | (with_reducible exact LeO.none _)
      | (with_reducible refine LeO.ite ?_ ?_)
      | (with_reducible refine LeO.bind ?_ (fun _ => ?_))
      | exact cursor_Cursor_number.mono _ _ _ _ _ _ _
      | exact varint_Take.mono _ _
      | exact LeO.none _
      | refine LeO.ite ?_ ?_
      | refine LeO.bind ?_ (fun _ => ?_)
set_option maxHeartbeats 8000000 in
set_option maxRecDepth 100000 in
theorem cursor_Cursor_Num.calls (k : Nat) (g : Nat) (s0_0 : Int) (s0_1 : Int) (s0_2 : Int) (s0_3 : Int) (s0_4 : (List Int)) (a1 : Int) (r1 : Int) (r2 : Int) (r3 : Int) (r4 : Int) (r5 : Int) (r6 : (List Int)) (w0 w : World) (hI : IsS49 w0 w g s0_0 s0_1 s0_2 s0_3 s0_4) (hB : Below w0.heap.size w0 w) (h : cursor_Cursor_Num.f k s0_0 s0_1 s0_2 s0_3 s0_4 a1 = some (r1, r2, r3, r4, r5, r6)) :
    Calls Try.prog 26 #[.pointer (some ⟨g, 0, none⟩), .int .i64 a1] w fun e w' => e = .returned (.int .i64 r1) ∧ IsS49 w0 w' g r2 r3 r4 r5 r6 ∧ Below w0.heap.size w0 w' ∧ KeepBut w w' g none := by
  have HI0 := Aside0.mk hI
  have HK := Aside0.mk (KeepBut.refl w g none)
  have HL := Aside0.mk hB.size
  clear hI
  have HW0 := Aside0.mk hB.size
  have HB := Aside0.mk hB
  clear hB
  have H : (if a1 ≥ 0 then ((cursor_Cursor_number.f k s0_0 s0_1 s0_2 s0_3 s0_4 (IntKind.u64.wrap (a1))).bind fun bt192 => (some (wrap64 (bt192.1), bt192.2.1, bt192.2.2.1, bt192.2.2.2.1, bt192.2.2.2.2.1, bt192.2.2.2.2.2))) else ((varint_Take.f k s0_4).bind fun bt198 => ((cursor_Cursor_Fail.f s0_0 s0_1 s0_2 s0_3 s0_4 bt198.2.2).bind fun bt201 => ((cursor_Cursor_Fail.f bt201.1 bt201.2.1 bt201.2.2.1 bt201.2.2.2.1 bt201.2.2.2.2 3).bind fun bt206 => (some (0, bt206.1, bt206.2.1, bt206.2.2.1, bt206.2.2.2.1, bt206.2.2.2.2)))))) = some (r1, r2, r3, r4, r5, r6) := h
  clear h
  by_cases c3 : a1 ≥ 0
  · rw [if_pos c3] at H
    have c3b0 : decide (0 ≤ a1) = true := decide_eq_true c3
    clear c3
    replace H := Option.bind_eq_some_iff.mp H
    obtain ⟨⟨t192, t193, t194, t195, t196, t197⟩, A40, H⟩ := H
    replace H : (some (wrap64 (t192), t193, t194, t195, t196, t197)) = some (r1, r2, r3, r4, r5, r6) := H
    have A4 := Aside0.mk A40
    clear A40
    simp only [Option.some.injEq, Prod.mk.injEq] at H
    obtain ⟨rfl, rfl, rfl, rfl, rfl, rfl⟩ := H
    go_enter Try.func26, Try.ntmps26
    go_wp2_with (first | ((with_reducible refine gate_callee (f := 37) rfl ?_); refine goesL_ (some 13) rfl rfl Try.func37 (by kernel_rfl) rfl #[.pointer (some ⟨g, 0, none⟩), .int .u64 (IntKind.u64.wrap (a1))] rfl (by (try simp only [List.map_toArray, List.map_cons, List.map_nil]); first | done | rfl | (simp only [List.length_drop, List.length_take]; rfl)) ?_; (with_reducible refine (cursor_Cursor_number.calls k g s0_0 s0_1 s0_2 s0_3 s0_4 (IntKind.u64.wrap (a1)) t192 t193 t194 t195 t196 t197 w0 _ ?side1 ?side2 A4.out).mono ?_); (case side1 => repeat (first | (with_reducible first | exact HI0.out | apply IsS49.alloc | apply IsS49.drewN | apply IsS49.drew | apply IsS49.set_0 | apply IsS49.set_1 | apply IsS49.set_2 | apply IsS49.set_3 | apply IsS49.set_4) | exact HI0.out)); (case side2 => repeat (first | (with_reducible first | exact HB.out | apply below_alloc | apply pw_below_drewN | apply below_drew1 | refine below_set ?_ (IsS49.ge HI0.out)) | exact HB.out)); rintro e w5 ⟨rfl, hi, hb, hk⟩; refine ⟨_, rfl, ?_⟩; have n0_ := Aside0.mk (KeepBut.trans (by repeat (first | (with_reducible first | exact HK.out | apply KeepBut.set_ | apply keep_drewN | apply keep_drew | apply keep_alloc) | exact HK.out)) hk (.inl rfl)); have n1_ := Aside0.mk (hb); have n2_ := Aside0.mk (hi); clear HK; clear HB; clear HI0; have HK := n0_; have HB := n1_; have HI0 := n2_; clear n0_ n1_ n2_; (try clear hb); (try clear hb2); (try clear hk); (try clear hi)))
    go_ret
    exact ⟨by first | rfl | (simp [errW_none, errW_some] <;> rfl) | (simp [*, errW_none, errW_some] <;> rfl), by repeat (first | (with_reducible first | exact HI0.out | apply IsS49.alloc | apply IsS49.drewN | apply IsS49.drew | apply IsS49.set_0 | apply IsS49.set_1 | apply IsS49.set_2 | apply IsS49.set_3 | apply IsS49.set_4) | exact HI0.out), by repeat (first | (with_reducible first | exact HB.out | apply below_alloc | apply pw_below_drewN | apply below_drew1 | refine below_set ?_ (IsS49.ge HI0.out)) | exact HB.out), by repeat (first | (with_reducible first | exact HK.out | apply KeepBut.set_ | apply keep_drewN | apply keep_drew | apply keep_alloc) | exact HK.out)⟩
  · rw [if_neg c3] at H
    have c3b0 : decide (0 ≤ a1) = false := decide_eq_false c3
    clear c3
    replace H := Option.bind_eq_some_iff.mp H
    obtain ⟨⟨t198, t199, t200⟩, A60, H⟩ := H
    replace H : ((cursor_Cursor_Fail.f s0_0 s0_1 s0_2 s0_3 s0_4 t200).bind fun bt201 => ((cursor_Cursor_Fail.f bt201.1 bt201.2.1 bt201.2.2.1 bt201.2.2.2.1 bt201.2.2.2.2 3).bind fun bt206 => (some (0, bt206.1, bt206.2.1, bt206.2.2.1, bt206.2.2.2.1, bt206.2.2.2.2)))) = some (r1, r2, r3, r4, r5, r6) := H
    have A6 := Aside0.mk A60
    clear A60
    replace H := Option.bind_eq_some_iff.mp H
    obtain ⟨⟨t201, t202, t203, t204, t205⟩, A70, H⟩ := H
    replace H : ((cursor_Cursor_Fail.f t201 t202 t203 t204 t205 3).bind fun bt206 => (some (0, bt206.1, bt206.2.1, bt206.2.2.1, bt206.2.2.2.1, bt206.2.2.2.2))) = some (r1, r2, r3, r4, r5, r6) := H
    have A7 := Aside0.mk A70
    clear A70
    replace H := Option.bind_eq_some_iff.mp H
    obtain ⟨⟨t206, t207, t208, t209, t210⟩, A80, H⟩ := H
    replace H : (some (0, t206, t207, t208, t209, t210)) = some (r1, r2, r3, r4, r5, r6) := H
    have A8 := Aside0.mk A80
    clear A80
    simp only [Option.some.injEq, Prod.mk.injEq] at H
    obtain ⟨rfl, rfl, rfl, rfl, rfl, rfl⟩ := H
    obtain ⟨⟨A_, c_, HGz9, hcapz9, HRz9⟩, hgz9⟩ := HI0.out
    have HCz9 := HRz9.1
    have hcz9_0 := cellS49_0 HGz9
    have hcz9_1 := cellS49_1 HGz9
    have hcz9_2 := cellS49_2 HGz9
    have hcz9_3 := cellS49_3 HGz9
    have hcz9_4 := cellS49_4 HGz9
    have hfz9_0 := blk_frozen HGz9 0
    have hfz9_1 := blk_frozen HGz9 1
    have hfz9_2 := blk_frozen HGz9 2
    have hfz9_3 := blk_frozen HGz9 3
    have hfz9_4 := blk_frozen HGz9 4
    clear HGz9 hgz9
    go_enter Try.func26, Try.ntmps26
    go_wp2_with (first | ((with_reducible refine gate_callee (f := 38) rfl ?_); refine goesL_ (some 20) rfl rfl Try.func38 (by kernel_rfl) rfl #[.slice A_ (s0_4).length c_] rfl (by (try simp only [List.map_toArray, List.map_cons, List.map_nil]); first | done | rfl | (simp only [List.length_drop, List.length_take]; rfl)) ?_; (with_reducible refine (varint_Take.calls k _ _ s0_4 t198 t199 t200 _ ?side1 ?side2 A6.out).mono ?_); (case side1 => assumption); (case side2 => assumption); rintro e w' ⟨rfl, ⟨nd, rfl⟩⟩; refine ⟨_, rfl, ?_⟩) | ((with_reducible refine gate_callee (f := 39) rfl ?_); refine goesL_ (some 26) rfl rfl Try.func39 (by kernel_rfl) rfl #[.pointer (some ⟨g, 0, none⟩), .int .i64 t200] rfl (by (try simp only [List.map_toArray, List.map_cons, List.map_nil]); first | done | rfl | (simp only [List.length_drop, List.length_take]; rfl)) ?_; (with_reducible refine (cursor_Cursor_Fail.calls g s0_0 s0_1 s0_2 s0_3 s0_4 t200 t201 t202 t203 t204 t205 w0 _ ?side1 ?side2 A7.out).mono ?_); (case side1 => repeat (first | (with_reducible first | exact HI0.out | apply IsS49.alloc | apply IsS49.drewN | apply IsS49.drew | apply IsS49.set_0 | apply IsS49.set_1 | apply IsS49.set_2 | apply IsS49.set_3 | apply IsS49.set_4) | exact HI0.out)); (case side2 => repeat (first | (with_reducible first | exact HB.out | apply below_alloc | apply pw_below_drewN | apply below_drew1 | refine below_set ?_ (IsS49.ge HI0.out)) | exact HB.out)); rintro e w10 ⟨rfl, hi, hb, hk⟩; refine ⟨_, rfl, ?_⟩; have n0_ := Aside0.mk (KeepBut.trans (by repeat (first | (with_reducible first | exact HK.out | apply KeepBut.set_ | apply keep_drewN | apply keep_drew | apply keep_alloc) | exact HK.out)) hk (.inl rfl)); have n1_ := Aside0.mk (hb); have n2_ := Aside0.mk (hi); clear HK; clear HB; clear HI0; have HK := n0_; have HB := n1_; have HI0 := n2_; clear n0_ n1_ n2_; (try clear hb); (try clear hb2); (try clear hk); (try clear hi)) | ((with_reducible refine gate_callee (f := 39) rfl ?_); refine goesL_ (some 28) rfl rfl Try.func39 (by kernel_rfl) rfl #[.pointer (some ⟨g, 0, none⟩), .int .i64 3] rfl (by (try simp only [List.map_toArray, List.map_cons, List.map_nil]); first | done | rfl | (simp only [List.length_drop, List.length_take]; rfl)) ?_; (with_reducible refine (cursor_Cursor_Fail.calls g t201 t202 t203 t204 t205 3 t206 t207 t208 t209 t210 w0 _ ?side1 ?side2 A8.out).mono ?_); (case side1 => repeat (first | (with_reducible first | exact HI0.out | apply IsS49.alloc | apply IsS49.drewN | apply IsS49.drew | apply IsS49.set_0 | apply IsS49.set_1 | apply IsS49.set_2 | apply IsS49.set_3 | apply IsS49.set_4) | exact HI0.out)); (case side2 => repeat (first | (with_reducible first | exact HB.out | apply below_alloc | apply pw_below_drewN | apply below_drew1 | refine below_set ?_ (IsS49.ge HI0.out)) | exact HB.out)); rintro e w11 ⟨rfl, hi, hb, hk⟩; refine ⟨_, rfl, ?_⟩; have n0_ := Aside0.mk (KeepBut.trans (by repeat (first | (with_reducible first | exact HK.out | apply KeepBut.set_ | apply keep_drewN | apply keep_drew | apply keep_alloc) | exact HK.out)) hk (.inl rfl)); have n1_ := Aside0.mk (hb); have n2_ := Aside0.mk (hi); clear HK; clear HB; clear HI0; have HK := n0_; have HB := n1_; have HI0 := n2_; clear n0_ n1_ n2_; (try clear hb); (try clear hb2); (try clear hk); (try clear hi)))
    go_ret
    exact ⟨by first | rfl | (simp [errW_none, errW_some] <;> rfl) | (simp [*, errW_none, errW_some] <;> rfl), by repeat (first | (with_reducible first | exact HI0.out | apply IsS49.alloc | apply IsS49.drewN | apply IsS49.drew | apply IsS49.set_0 | apply IsS49.set_1 | apply IsS49.set_2 | apply IsS49.set_3 | apply IsS49.set_4) | exact HI0.out), by repeat (first | (with_reducible first | exact HB.out | apply below_alloc | apply pw_below_drewN | apply below_drew1 | refine below_set ?_ (IsS49.ge HI0.out)) | exact HB.out), by repeat (first | (with_reducible first | exact HK.out | apply KeepBut.set_ | apply keep_drewN | apply keep_drew | apply keep_alloc) | exact HK.out)⟩

/-! ### cursor_place_Fault: function 28 -/
def cursor_place_Fault.f (s0_0 : Int) (s0_1 : Int) (s0_2 : Int) (s0_3 : Int) (s0_4 : (List Int)) : Option (Int × Int × Int × Int × Int × Int × Int × (List Int)) := some (s0_1, s0_2, s0_3, s0_0, s0_1, s0_2, s0_3, s0_4)
set_option maxHeartbeats 8000000 in
set_option maxRecDepth 100000 in
theorem cursor_place_Fault.calls (g : Nat) (s0_0 : Int) (s0_1 : Int) (s0_2 : Int) (s0_3 : Int) (s0_4 : (List Int)) (r1 : Int) (r2 : Int) (r3 : Int) (r4 : Int) (r5 : Int) (r6 : Int) (r7 : Int) (r8 : (List Int)) (w0 w : World) (hI : IsS49 w0 w g s0_0 s0_1 s0_2 s0_3 s0_4) (hB : Below w0.heap.size w0 w) (h : cursor_place_Fault.f s0_0 s0_1 s0_2 s0_3 s0_4 = some (r1, r2, r3, r4, r5, r6, r7, r8)) :
    Calls Try.prog 28 #[.pointer (some ⟨g, 0, none⟩)] w fun e w' => e = .returned (.agg #[.int .i64 r1, .int .i64 r2, .int .i64 r3]) ∧ IsS49 w0 w' g r4 r5 r6 r7 r8 ∧ Below w0.heap.size w0 w' ∧ KeepBut w w' g none := by
  have hu45 := Try.underlying45
  have HI0 := Aside0.mk hI
  have HK := Aside0.mk (KeepBut.refl w g none)
  have HL := Aside0.mk hB.size
  clear hI
  have HW0 := Aside0.mk hB.size
  have HB := Aside0.mk hB
  clear hB
  have H : (some (s0_1, s0_2, s0_3, s0_0, s0_1, s0_2, s0_3, s0_4)) = some (r1, r2, r3, r4, r5, r6, r7, r8) := h
  clear h
  simp only [Option.some.injEq, Prod.mk.injEq] at H
  obtain ⟨rfl, rfl, rfl, rfl, rfl, rfl, rfl, rfl⟩ := H
  go_enter Try.func28, Try.ntmps28
  go_wp2_with (first | ((with_reducible refine gate_dst (N := 2) rfl ?_); refine box_event ?hg (N := 2) ?hd (cs := #[.int .i64 0, .int .i64 0, .int .i64 0]) (t := 45) ?hr ?_; (case hd => rfl); (case hg => rfl); (case hr => first | (go_simp; done) | (go_simp; rfl)); intro gb211 hg w2 hbox hb; have n0_ := Aside0.mk (IsS49.below (by repeat (first | (with_reducible first | exact HI0.out | apply IsS49.alloc | apply IsS49.drewN | apply IsS49.drew | apply IsS49.set_0 | apply IsS49.set_1 | apply IsS49.set_2 | apply IsS49.set_3 | apply IsS49.set_4) | exact HI0.out)) hb); have n1_ := Aside0.mk (KeepBut.trans (by repeat (first | (with_reducible first | exact HK.out | apply KeepBut.set_ | apply keep_drewN | apply keep_drew | apply keep_alloc) | exact HK.out)) (KeepBut.of_below hb g none) (.inl rfl)); have n2_ := Aside0.mk (below_step (by repeat (first | (with_reducible first | exact HB.out | apply below_alloc | apply pw_below_drewN | apply below_drew1 | refine below_set ?_ (IsS49.ge HI0.out)) | exact HB.out)) hb); have n3_ := Aside0.mk (hbox); have n4_ := Aside0.mk ((by rw [hg]; exact (keep_size (w := w) (g := g) (row := none) (by repeat (first | (with_reducible first | exact HK.out | apply KeepBut.set_ | apply keep_drewN | apply keep_drew | apply keep_alloc) | exact HK.out))) : w.heap.size ≤ gb211)); have n5_ := Aside0.mk ((Nat.le_trans HW0.out (by rw [hg]; exact (keep_size (w := w) (g := g) (row := none) (by repeat (first | (with_reducible first | exact HK.out | apply KeepBut.set_ | apply keep_drewN | apply keep_drew | apply keep_alloc) | exact HK.out))) : w.heap.size ≤ gb211) : w0.heap.size ≤ gb211)); have n6_ := Aside0.mk ((by rw [hg]; exact Nat.ne_of_lt (IsS49.lt (show IsS49 w0 _ g s0_0 s0_1 s0_2 s0_3 s0_4 from by repeat (first | (with_reducible first | exact HI0.out | apply IsS49.alloc | apply IsS49.drewN | apply IsS49.drew | apply IsS49.set_0 | apply IsS49.set_1 | apply IsS49.set_2 | apply IsS49.set_3 | apply IsS49.set_4) | exact HI0.out))) : g ≠ gb211)); have n7_ := Aside0.mk ((by rw [hg]; exact Nat.ne_of_gt (IsS49.lt (show IsS49 w0 _ g s0_0 s0_1 s0_2 s0_3 s0_4 from by repeat (first | (with_reducible first | exact HI0.out | apply IsS49.alloc | apply IsS49.drewN | apply IsS49.drew | apply IsS49.set_0 | apply IsS49.set_1 | apply IsS49.set_2 | apply IsS49.set_3 | apply IsS49.set_4) | exact HI0.out))) : gb211 ≠ g)); clear HI0; clear HK; clear HB; have HI0 := n0_; have HK := n1_; have HB := n2_; have BK211 := n3_; have GW211 := n4_; have GE211 := n5_; have NB0_211 := n6_; have NB211_0 := n7_; clear n0_ n1_ n2_ n3_ n4_ n5_ n6_ n7_; clear hb hbox hg; obtain ⟨⟨A_, c_, HGz3, hcapz3, HRz3⟩, hgz3⟩ := HI0.out; have HCz3 := HRz3.1; have hcz3_0 := cellS49_0 HGz3; have hcz3_1 := cellS49_1 HGz3; have hcz3_2 := cellS49_2 HGz3; have hcz3_3 := cellS49_3 HGz3; have hcz3_4 := cellS49_4 HGz3; have hfz3_0 := blk_frozen HGz3 0; have hfz3_1 := blk_frozen HGz3 1; have hfz3_2 := blk_frozen HGz3 2; have hfz3_3 := blk_frozen HGz3 3; have hfz3_4 := blk_frozen HGz3 4; clear HGz3 hgz3; have hnb4 := NB211_0.out; have hnc4 := NB0_211.out; have hcz5_0 : w2.cell? ⟨gb211, 0, none⟩ = some (.int .i64 0) := (blk_cell BK211.out 0).trans rfl; have hcz5_1 : w2.cell? ⟨gb211, 1, none⟩ = some (.int .i64 0) := (blk_cell BK211.out 1).trans rfl; have hcz5_2 : w2.cell? ⟨gb211, 2, none⟩ = some (.int .i64 0) := (blk_cell BK211.out 2).trans rfl; have hfz5_0 := blk_frozen BK211.out 0; have hfz5_1 := blk_frozen BK211.out 1; have hfz5_2 := blk_frozen BK211.out 2))
  refine bodyPost_ret (results_cell_row rfl _ _ gb211 45 #[.int .i64 s0_1, .int .i64 s0_2, .int .i64 s0_3] (0, 0) _ rfl (by (with_reducible repeat (first | refine blk_drewN ?_ _ | refine blk_drew ?_ | refine blk_alloc ?_ _)); refine blk_put (cs := #[.int .i64 s0_1, .int .i64 s0_2, .int .i64 0]) ?_ 2 _ rfl; (with_reducible repeat (first | refine blk_drewN ?_ _ | refine blk_drew ?_ | refine blk_alloc ?_ _)); refine blk_put (cs := #[.int .i64 s0_1, .int .i64 0, .int .i64 0]) ?_ 1 _ rfl; (with_reducible repeat (first | refine blk_drewN ?_ _ | refine blk_drew ?_ | refine blk_alloc ?_ _)); refine blk_put (cs := #[.int .i64 0, .int .i64 0, .int .i64 0]) ?_ 0 _ rfl; (with_reducible repeat (first | refine blk_drewN ?_ _ | refine blk_drew ?_ | refine blk_alloc ?_ _)); exact BK211.out) Try.underlying45 rfl (by kernel_rfl)) rfl ?_
  exact ⟨by first | rfl | (simp [errW_none, errW_some] <;> rfl) | (simp [*, errW_none, errW_some] <;> rfl), by repeat (first | (with_reducible first | exact HI0.out | apply IsS49.alloc | apply IsS49.drewN | apply IsS49.drew | apply IsS49.set_0 | apply IsS49.set_1 | apply IsS49.set_2 | apply IsS49.set_3 | apply IsS49.set_4 | refine IsS49.far ?_ NB0_211.out (by repeat (first | exact TypeAt.mk BK211.out | apply TypeAt.set | apply TypeAt.alloc | apply TypeAt.drewN | apply TypeAt.drew)) (by decide) _) | exact HI0.out), by repeat (first | (with_reducible first | exact HB.out | apply below_alloc | apply pw_below_drewN | apply below_drew1 | refine below_set ?_ (IsS49.ge HI0.out) | refine below_set ?_ GE211.out) | exact HB.out), by repeat (first | (with_reducible first | exact HK.out | apply KeepBut.set_ | apply keep_drewN | apply keep_drew | apply keep_alloc | refine keep_far ?_ GW211.out _) | exact HK.out)⟩

/-! ### cursor_Cursor_Byte: function 29 -/
def cursor_Cursor_Byte.f (s0_0 : Int) (s0_1 : Int) (s0_2 : Int) (s0_3 : Int) (s0_4 : (List Int)) : Option (Int × Int × Int × Int × Int × (List Int)) := (cursor_Cursor_Take.f s0_0 s0_1 s0_2 s0_3 s0_4 1).bind fun bt212 => (if (bt212.1.length : Int) = 1 then (if 0 < (bt212.1.length : Int) then (some (rd bt212.1 0, bt212.2.1, bt212.2.2.1, bt212.2.2.2.1, bt212.2.2.2.2.1, bt212.2.2.2.2.2)) else (none)) else (some (0, bt212.2.1, bt212.2.2.1, bt212.2.2.2.1, bt212.2.2.2.2.1, bt212.2.2.2.2.2)))
set_option maxHeartbeats 8000000 in
set_option maxRecDepth 100000 in
theorem cursor_Cursor_Byte.calls (g : Nat) (s0_0 : Int) (s0_1 : Int) (s0_2 : Int) (s0_3 : Int) (s0_4 : (List Int)) (r1 : Int) (r2 : Int) (r3 : Int) (r4 : Int) (r5 : Int) (r6 : (List Int)) (w0 w : World) (hI : IsS49 w0 w g s0_0 s0_1 s0_2 s0_3 s0_4) (hB : Below w0.heap.size w0 w) (h : cursor_Cursor_Byte.f s0_0 s0_1 s0_2 s0_3 s0_4 = some (r1, r2, r3, r4, r5, r6)) :
    Calls Try.prog 29 #[.pointer (some ⟨g, 0, none⟩)] w fun e w' => e = .returned (.int .u8 r1) ∧ IsS49 w0 w' g r2 r3 r4 r5 r6 ∧ Below w0.heap.size w0 w' ∧ KeepBut w w' g none := by
  have HI0 := Aside0.mk hI
  have HK := Aside0.mk (KeepBut.refl w g none)
  have HL := Aside0.mk hB.size
  clear hI
  have HW0 := Aside0.mk hB.size
  have HB := Aside0.mk hB
  clear hB
  have H : ((cursor_Cursor_Take.f s0_0 s0_1 s0_2 s0_3 s0_4 1).bind fun bt212 => (if (bt212.1.length : Int) = 1 then (if 0 < (bt212.1.length : Int) then (some (rd bt212.1 0, bt212.2.1, bt212.2.2.1, bt212.2.2.2.1, bt212.2.2.2.2.1, bt212.2.2.2.2.2)) else (none)) else (some (0, bt212.2.1, bt212.2.2.1, bt212.2.2.2.1, bt212.2.2.2.2.1, bt212.2.2.2.2.2)))) = some (r1, r2, r3, r4, r5, r6) := h
  clear h
  replace H := Option.bind_eq_some_iff.mp H
  obtain ⟨⟨t212, t215, t216, t217, t218, t219⟩, A20, H⟩ := H
  replace H : (if (t212.length : Int) = 1 then (if 0 < (t212.length : Int) then (some (rd t212 0, t215, t216, t217, t218, t219)) else (none)) else (some (0, t215, t216, t217, t218, t219))) = some (r1, r2, r3, r4, r5, r6) := H
  have A2 := Aside0.mk A20
  clear A20
  by_cases c3 : (t212.length : Int) = 1
  · rw [if_pos c3] at H
    have c3b0 : ((t212.length : Int) == 1) = true := beq_iff_eq.mpr c3
    have c3b1 : ((t212.length : Int) != 1) = false := bne_eq_false_iff_eq.mpr c3
    clear c3
    by_cases c4 : 0 < (t212.length : Int)
    · rw [if_pos c4] at H
      have c4b0 : decide (0 < (t212.length : Int)) = true := decide_eq_true c4
      have c4b1 : decide (0 < t212.length) = true := decide_eq_true (by omega)
      clear c4
      simp only [Option.some.injEq, Prod.mk.injEq] at H
      obtain ⟨rfl, rfl, rfl, rfl, rfl, rfl⟩ := H
      go_enter Try.func29, Try.ntmps29
      go_wp2_with (first | ((with_reducible refine gate_callee (f := 27) rfl ?_); refine goesL_ (some 5) rfl rfl Try.func27 (by kernel_rfl) rfl #[.pointer (some ⟨g, 0, none⟩), .int .i64 1] rfl (by (try simp only [List.map_toArray, List.map_cons, List.map_nil]); first | done | rfl | (simp only [List.length_drop, List.length_take]; rfl)) ?_; (with_reducible refine (cursor_Cursor_Take.calls g s0_0 s0_1 s0_2 s0_3 s0_4 1 t212 t215 t216 t217 t218 t219 w0 _ ?side1 ?side2 A2.out).mono ?_); (case side1 => repeat (first | (with_reducible first | exact HI0.out | apply IsS49.alloc | apply IsS49.drewN | apply IsS49.drew | apply IsS49.set_0 | apply IsS49.set_1 | apply IsS49.set_2 | apply IsS49.set_3 | apply IsS49.set_4) | exact HI0.out)); (case side2 => repeat (first | (with_reducible first | exact HB.out | apply below_alloc | apply pw_below_drewN | apply below_drew1 | refine below_set ?_ (IsS49.ge HI0.out)) | exact HB.out)); rintro e w5 ⟨v213, rfl, ho0, hi, hb, hk⟩; refine ⟨_, rfl, ?_⟩; have n0_ := Aside0.mk (Kd.R_lower ho0 (keep_size (w := w) (g := g) (row := none) (by repeat (first | (with_reducible first | exact HK.out | apply KeepBut.set_ | apply keep_drewN | apply keep_drew | apply keep_alloc) | exact HK.out)))); have n1_ := Aside0.mk (KeepBut.trans (by repeat (first | (with_reducible first | exact HK.out | apply KeepBut.set_ | apply keep_drewN | apply keep_drew | apply keep_alloc) | exact HK.out)) hk (.inl rfl)); have n2_ := Aside0.mk (hb); have n3_ := Aside0.mk (hi); clear HK; clear HB; clear HI0; have HO214 := n0_; have HK := n1_; have HB := n2_; have HI0 := n3_; clear n0_ n1_ n2_ n3_; (try clear hb); (try clear hb2); (try clear hk); (try clear hi); (try clear ho0); obtain ⟨Ao6, co6, eo6⟩ := Kd.R_slice HO214.out; subst eo6; have p220 : 0 ≤ (0 : Int) := (by omega); have q220 : 0 < (t212.length : Int) := of_decide_eq_true (by first | (with_reducible assumption) | assumption); obtain ⟨ad220, e220, hx220_0⟩ := Kd.at_int (Kd.R_reads' HO214.out).2.2 0 p220 q220; cases e220; have qi220 : (0 < t212.length) = True := eq_true (by omega); (try rw [show ((0 : Int)).toNat = 0 from rfl] at hx220_0); (try rw [Addr.add_zero'] at hx220_0); replace p220 := eq_true p220; replace q220 := eq_true q220))
      go_ret
      exact ⟨by first | rfl | (simp [errW_none, errW_some] <;> rfl) | (simp [*, errW_none, errW_some] <;> rfl), by repeat (first | (with_reducible first | exact HI0.out | apply IsS49.alloc | apply IsS49.drewN | apply IsS49.drew | apply IsS49.set_0 | apply IsS49.set_1 | apply IsS49.set_2 | apply IsS49.set_3 | apply IsS49.set_4) | exact HI0.out), by repeat (first | (with_reducible first | exact HB.out | apply below_alloc | apply pw_below_drewN | apply below_drew1 | refine below_set ?_ (IsS49.ge HI0.out)) | exact HB.out), by repeat (first | (with_reducible first | exact HK.out | apply KeepBut.set_ | apply keep_drewN | apply keep_drew | apply keep_alloc) | exact HK.out)⟩
    · rw [if_neg c4] at H
      exact absurd H (by simp)
  · rw [if_neg c3] at H
    have c3b0 : ((t212.length : Int) == 1) = false := beq_eq_false_iff_ne.mpr c3
    have c3b1 : ((t212.length : Int) != 1) = true := bne_iff_ne.mpr c3
    simp only [Option.some.injEq, Prod.mk.injEq] at H
    obtain ⟨rfl, rfl, rfl, rfl, rfl, rfl⟩ := H
    go_enter Try.func29, Try.ntmps29
    go_wp2_with (first | ((with_reducible refine gate_callee (f := 27) rfl ?_); refine goesL_ (some 5) rfl rfl Try.func27 (by kernel_rfl) rfl #[.pointer (some ⟨g, 0, none⟩), .int .i64 1] rfl (by (try simp only [List.map_toArray, List.map_cons, List.map_nil]); first | done | rfl | (simp only [List.length_drop, List.length_take]; rfl)) ?_; (with_reducible refine (cursor_Cursor_Take.calls g s0_0 s0_1 s0_2 s0_3 s0_4 1 t212 t215 t216 t217 t218 t219 w0 _ ?side1 ?side2 A2.out).mono ?_); (case side1 => repeat (first | (with_reducible first | exact HI0.out | apply IsS49.alloc | apply IsS49.drewN | apply IsS49.drew | apply IsS49.set_0 | apply IsS49.set_1 | apply IsS49.set_2 | apply IsS49.set_3 | apply IsS49.set_4) | exact HI0.out)); (case side2 => repeat (first | (with_reducible first | exact HB.out | apply below_alloc | apply pw_below_drewN | apply below_drew1 | refine below_set ?_ (IsS49.ge HI0.out)) | exact HB.out)); rintro e w7 ⟨v213, rfl, ho0, hi, hb, hk⟩; refine ⟨_, rfl, ?_⟩; have n0_ := Aside0.mk (Kd.R_lower ho0 (keep_size (w := w) (g := g) (row := none) (by repeat (first | (with_reducible first | exact HK.out | apply KeepBut.set_ | apply keep_drewN | apply keep_drew | apply keep_alloc) | exact HK.out)))); have n1_ := Aside0.mk (KeepBut.trans (by repeat (first | (with_reducible first | exact HK.out | apply KeepBut.set_ | apply keep_drewN | apply keep_drew | apply keep_alloc) | exact HK.out)) hk (.inl rfl)); have n2_ := Aside0.mk (hb); have n3_ := Aside0.mk (hi); clear HK; clear HB; clear HI0; have HO214 := n0_; have HK := n1_; have HB := n2_; have HI0 := n3_; clear n0_ n1_ n2_ n3_; (try clear hb); (try clear hb2); (try clear hk); (try clear hi); (try clear ho0); obtain ⟨Ao8, co8, eo8⟩ := Kd.R_slice HO214.out; subst eo8))
    go_ret
    exact ⟨by first | rfl | (simp [errW_none, errW_some] <;> rfl) | (simp [*, errW_none, errW_some] <;> rfl), by repeat (first | (with_reducible first | exact HI0.out | apply IsS49.alloc | apply IsS49.drewN | apply IsS49.drew | apply IsS49.set_0 | apply IsS49.set_1 | apply IsS49.set_2 | apply IsS49.set_3 | apply IsS49.set_4) | exact HI0.out), by repeat (first | (with_reducible first | exact HB.out | apply below_alloc | apply pw_below_drewN | apply below_drew1 | refine below_set ?_ (IsS49.ge HI0.out)) | exact HB.out), by repeat (first | (with_reducible first | exact HK.out | apply KeepBut.set_ | apply keep_drewN | apply keep_drew | apply keep_alloc) | exact HK.out)⟩

/-! ### bits_Mul32: function 45 -/
def bits_Mul32.f (a0 : Int) (a1 : Int) : Option (Int × Int) := some (((IntKind.u64.wrap ((IntKind.u64.wrap (a0)) * (IntKind.u64.wrap (a1)))) / 4294967296) % 4294967296, (IntKind.u64.wrap ((IntKind.u64.wrap (a0)) * (IntKind.u64.wrap (a1)))) % 4294967296)
set_option maxHeartbeats 8000000 in
set_option maxRecDepth 100000 in
theorem bits_Mul32.calls (a0 : Int) (a1 : Int) (r1 : Int) (r2 : Int) (w : World) (h : bits_Mul32.f a0 a1 = some (r1, r2)) :
    Calls Try.prog 45 #[.int .u32 a0, .int .u32 a1] w fun e w' => e = .returned (.tuple #[.int .u32 r1, .int .u32 r2]) ∧ Drawn0 w w' := by
  have H : (some (((IntKind.u64.wrap ((IntKind.u64.wrap (a0)) * (IntKind.u64.wrap (a1)))) / 4294967296) % 4294967296, (IntKind.u64.wrap ((IntKind.u64.wrap (a0)) * (IntKind.u64.wrap (a1)))) % 4294967296)) = some (r1, r2) := h
  clear h
  simp only [Option.some.injEq, Prod.mk.injEq] at H
  obtain ⟨rfl, rfl⟩ := H
  go_enter Try.func45, Try.ntmps45
  go_wp2
  go_ret2
  exact ⟨by first | rfl | (simp; done) | (simp [*]; done), by repeat (first | exact Drawn0.refl _ | apply Drawn0.step)⟩

/-! ### bits_Mul64: function 46 -/
def bits_Mul64.f (a0 : Int) (a1 : Int) : Option (Int × Int) := some (IntKind.u64.wrap ((IntKind.u64.wrap ((IntKind.u64.wrap ((a0 / 4294967296) * (a1 / 4294967296))) + ((IntKind.u64.wrap ((IntKind.u64.wrap ((a0 / 4294967296) * (Go.bits .and .u64 a1 4294967295))) + ((IntKind.u64.wrap ((Go.bits .and .u64 a0 4294967295) * (Go.bits .and .u64 a1 4294967295))) / 4294967296))) / 4294967296))) + ((IntKind.u64.wrap ((Go.bits .and .u64 (IntKind.u64.wrap ((IntKind.u64.wrap ((a0 / 4294967296) * (Go.bits .and .u64 a1 4294967295))) + ((IntKind.u64.wrap ((Go.bits .and .u64 a0 4294967295) * (Go.bits .and .u64 a1 4294967295))) / 4294967296))) 4294967295) + (IntKind.u64.wrap ((Go.bits .and .u64 a0 4294967295) * (a1 / 4294967296))))) / 4294967296)), IntKind.u64.wrap (a0 * a1))
set_option maxHeartbeats 8000000 in
set_option maxRecDepth 100000 in
theorem bits_Mul64.calls (a0 : Int) (a1 : Int) (r1 : Int) (r2 : Int) (w : World) (h : bits_Mul64.f a0 a1 = some (r1, r2)) :
    Calls Try.prog 46 #[.int .u64 a0, .int .u64 a1] w fun e w' => e = .returned (.tuple #[.int .u64 r1, .int .u64 r2]) ∧ Drawn0 w w' := by
  have H : (some (IntKind.u64.wrap ((IntKind.u64.wrap ((IntKind.u64.wrap ((a0 / 4294967296) * (a1 / 4294967296))) + ((IntKind.u64.wrap ((IntKind.u64.wrap ((a0 / 4294967296) * (Go.bits .and .u64 a1 4294967295))) + ((IntKind.u64.wrap ((Go.bits .and .u64 a0 4294967295) * (Go.bits .and .u64 a1 4294967295))) / 4294967296))) / 4294967296))) + ((IntKind.u64.wrap ((Go.bits .and .u64 (IntKind.u64.wrap ((IntKind.u64.wrap ((a0 / 4294967296) * (Go.bits .and .u64 a1 4294967295))) + ((IntKind.u64.wrap ((Go.bits .and .u64 a0 4294967295) * (Go.bits .and .u64 a1 4294967295))) / 4294967296))) 4294967295) + (IntKind.u64.wrap ((Go.bits .and .u64 a0 4294967295) * (a1 / 4294967296))))) / 4294967296)), IntKind.u64.wrap (a0 * a1))) = some (r1, r2) := h
  clear h
  simp only [Option.some.injEq, Prod.mk.injEq] at H
  obtain ⟨rfl, rfl⟩ := H
  go_enter Try.func46, Try.ntmps46
  go_wp2
  go_ret2
  exact ⟨by first | rfl | (simp; done) | (simp [*]; done), by repeat (first | exact Drawn0.refl _ | apply Drawn0.step)⟩

/-! ### bits_Mul: function 40 -/
def bits_Mul.f (a0 : Int) (a1 : Int) : Option (Int × Int) := (bits_Mul64.f a0 a1).bind fun bt221 => (some (bt221.1, bt221.2))
set_option maxHeartbeats 8000000 in
set_option maxRecDepth 100000 in
theorem bits_Mul.calls (a0 : Int) (a1 : Int) (r1 : Int) (r2 : Int) (w : World) (h : bits_Mul.f a0 a1 = some (r1, r2)) :
    Calls Try.prog 40 #[.int .u64 a0, .int .u64 a1] w fun e w' => e = .returned (.tuple #[.int .u64 r1, .int .u64 r2]) ∧ Drawn0 w w' := by
  have H : ((bits_Mul64.f a0 a1).bind fun bt221 => (some (bt221.1, bt221.2))) = some (r1, r2) := h
  clear h
  replace H := Option.bind_eq_some_iff.mp H
  obtain ⟨⟨t221, t222⟩, A30, H⟩ := H
  replace H : (some (t221, t222)) = some (r1, r2) := H
  have A3 := Aside0.mk A30
  clear A30
  simp only [Option.some.injEq, Prod.mk.injEq] at H
  obtain ⟨rfl, rfl⟩ := H
  go_enter Try.func40, Try.ntmps40
  go_wp2_with (first | ((with_reducible refine gate_callee (f := 46) rfl ?_); refine goesL_ (some 25) rfl rfl Try.func46 (by kernel_rfl) rfl #[.int .u64 a0, .int .u64 a1] rfl (by (try simp only [List.map_toArray, List.map_cons, List.map_nil]); first | done | rfl | (simp only [List.length_drop, List.length_take]; rfl)) ?_; (with_reducible refine (bits_Mul64.calls a0 a1 t221 t222 _ A3.out).mono ?_); rintro e w' ⟨rfl, ⟨nd, rfl⟩⟩; refine ⟨_, rfl, ?_⟩))
  go_ret2
  exact ⟨by first | rfl | (simp; done) | (simp [*]; done), by repeat (first | exact Drawn0.refl _ | apply Drawn0.step)⟩

-- NOT PRINTED: function 41 (bytealg_MakeNoZero)

/-! ### bytes_Repeat: function 30 -/
theorem tailV_pos (h N bp : Nat) (hlt : bp < N) : Lib.tailV h N bp = .slice (some ⟨h, bp, none⟩) (N - bp) (N - bp) := by
  unfold Lib.tailV
  rw [if_neg (by omega)]
/-- 'copy(b[bp:], b[:m])' of a buffer that bears one byte bp times. -/
theorem copy_self {P : Program} (w0 wr : World) (h N bp m cap : Nat) (x : UInt8) (t ty e : TypeId) (hu : P.underlying t = some (.slice e)) (hs : (P.info? e).map (·.size) = some 1)
    (hb : Lib.Buf w0 wr h N (List.replicate bp x)) (hlt : bp < N) (hm : m ≤ bp) (hm0 : 0 < m) :
    ∃ wr', (Builtin.copy_ #[t, t] ty #[Lib.tailV h N bp, .slice (some ⟨h, 0, none⟩) m cap]).run P wr = .ok (.int .i64 ((min m (N - bp) : Nat) : Int)) wr' ∧ Lib.Buf w0 wr' h N (List.replicate (bp + min m (N - bp)) x) := by
  obtain ⟨c, hc⟩ : ∃ c, min m (N - bp) = c := ⟨_, rfl⟩
  have hfit : bp + c ≤ N := by omega
  have hr := run_copy_cells (P := P) wr t t ty e h bp (N - bp) (N - bp) ⟨h, 0, none⟩ m cap ((List.replicate c x).map fun x => Value.int .u8 (x.toNat : Int)) hu hs (by rw [List.length_map, List.length_replicate, ← hc])
    (fun j u hj => by
      rw [List.getElem?_map] at hj
      obtain ⟨y, hy, rfl⟩ := Option.map_eq_some_iff.1 hj
      have hjc : j < c := by have := (List.getElem?_eq_some_iff.1 hy).1; simpa using this
      have hyx : y = x := by rw [List.getElem?_replicate, if_pos hjc] at hy; exact (Option.some.inj hy).symm
      subst hyx
      have := hb.holds j y (by rw [List.getElem?_replicate, if_pos (by omega)])
      rw [add_plain]
      exact this)
    (fun j hj => by rw [List.length_map, List.length_replicate] at hj; exact hb.there _ (by omega)) (fun j hj => by rw [List.length_map, List.length_replicate] at hj; exact hb.free _ (by omega))
    (fun u hu' => by obtain ⟨x, _, rfl⟩ := List.mem_map.1 hu'; rfl)
  rw [List.length_map, List.length_replicate] at hr
  refine ⟨_, by rw [tailV_pos h N bp hlt, hc]; exact hr, ?_⟩
  rw [hc]
  have hin := World.cell?_setCells_in h ((List.replicate c x).map fun x => Value.int .u8 (x.toNat : Int)) bp wr (fun j hj => by rw [List.length_map, List.length_replicate] at hj; exact hb.there _ (by omega))
  have hout := World.cell?_setCells_out h ((List.replicate c x).map fun x => Value.int .u8 (x.toNat : Int)) bp wr
  refine ⟨?_, ?_, ?_, ?_, by rw [List.length_replicate]; exact hfit⟩
  · exact Lib.below_setCells h (Nat.le_refl _) _ _ hb.below
  · intro j hj
    by_cases h1 : bp ≤ j ∧ j < bp + c
    · obtain ⟨d, rfl⟩ : ∃ d, j = bp + d := ⟨j - bp, by omega⟩
      rw [hin d (by rw [List.length_map, List.length_replicate]; omega)]
      rfl
    · rw [hout ⟨h, j, none⟩ (fun _ _ => by rw [List.length_map, List.length_replicate]; show j < _ ∨ _ ≤ j; omega)]
      exact hb.there j hj
  · intro j hj
    rw [World.frozen?_setCells]
    exact hb.free j hj
  · intro j y hy
    have hjc : j < bp + c := by have := (List.getElem?_eq_some_iff.1 hy).1; simpa using this
    have hyx : y = x := by rw [List.getElem?_replicate, if_pos hjc] at hy; exact (Option.some.inj hy).symm
    subst hyx
    by_cases h1 : j < bp
    · rw [hout ⟨h, j, none⟩ (fun _ _ => Or.inl h1)]
      exact hb.holds j y (by rw [List.getElem?_replicate, if_pos h1])
    · obtain ⟨d, rfl⟩ : ∃ d, j = bp + d := ⟨j - bp, by omega⟩
      rw [hin d (by rw [List.length_map, List.length_replicate]; omega)]
      simp
set_option maxHeartbeats 8000000 in
set_option maxRecDepth 100000 in
theorem repeat_walk (A : Option Addr) (c : Nat) (x : UInt8) (N : Nat) (w : World) (hx : Lib.HoldsBytes w (.slice A 1 c) [x]) (h1 : 1 ≤ N) (h2 : N ≤ 140737488355328)
    (hmul : ∀ w : World, Calls Try.prog 40 #[.int .u64 1, .int .u64 (N : Int)] w fun e w' => e = .returned (.tuple #[.int .u64 0, .int .u64 (N : Int)]) ∧ Drawn0 w w') :
    Calls Try.prog 30 #[.slice A 1 c, .int .i64 (N : Int)] w fun e w' => e = .returned (.slice (some ⟨w.heap.size, 0, none⟩) N N) ∧ Lib.Buf w w' w.heap.size N (List.replicate N x) := by
  have f0 : ((N : Int) == 0) = false := beq_eq_false_iff_ne.2 (by omega)
  have f1 : decide ((N : Int) < 0) = false := decide_eq_false (by omega)
  have e1 : IntKind.u64.wrap (1 : Int) = 1 := by decide
  have e2 : IntKind.u64.wrap (N : Int) = (N : Int) := by rw [IntKind.wrap_u64]; omega
  have e3 : wrap64 (N : Int) = (N : Int) := by unfold wrap64; omega
  have e4 : decide ((9223372036854775807 : Int) < (N : Int)) = false := decide_eq_false (by omega)
  have HMUL := Aside0.mk hmul
  clear hmul
  have t22 := Try.underlying22
  have z5 : ∀ w, (Go.sizeOf 5).run Try.prog w = .ok 1 w := fun w => by
    obtain ⟨i0, hi, hzz⟩ := Option.map_eq_some_iff.1 info5
    simp only [Prod.mk.injEq] at hzz
    simp [Go.sizeOf, hi]
    first | exact hzz.2.1 | kernel_rfl
  have hs5 : (Try.prog.info? 5).map (·.size) = some 1 := by
    obtain ⟨i0, hi, hzz⟩ := Option.map_eq_some_iff.1 info5
    simp only [Prod.mk.injEq] at hzz
    rw [hi]; simp [hzz.2.1]
  have HX := Aside0.mk hx
  clear hx
  by_cases hM : 8192 < N
  · have fM : decide ((8192 : Int) < (N : Int)) = true := decide_eq_true (by omega)
    have fM2 : (8192 : Int) < (N : Int) := by omega
    go_enter Try.func30, Try.ntmps30
    have hprep : ∀ W : World, Lib.HoldsBytes W (.slice A 1 c) [x] → ∃ (cs : Array Value) (w1 : World), (N : Int) ≤ (cs.size : Int) ∧ (callFunc 41 #[.int .i64 (N : Int)]).run Try.prog W = .ok (.value (.slice (some ⟨W.heap.size, 0, none⟩) N cs.size)) ((W.alloc (.cells cs 5)).drewN 2) ∧
        (Builtin.copy_ #[22, 22] 3 #[.slice (some ⟨W.heap.size, 0, none⟩) N N, .slice A 1 c]).run Try.prog ((W.alloc (.cells cs 5)).drewN 2) = .ok (.int .i64 1) w1 ∧ Aside0 (Lib.Buf W w1 W.heap.size N (List.replicate 1 x)) := fun W hX => by
      obtain ⟨cs, hrunM, hle, _⟩ := Lib.run_makeNoZero (P := Try.prog) W #[3] 22 5 t22 N (by omega)
      have B0 := Lib.Buf.start W cs 5 N 2 hle
      obtain ⟨w1, hr1, B1⟩ := Lib.copy_part (P := Try.prog) W _ W.heap.size N [] [x] (.slice A 1 c) 22 3 5 t22 hs5 (Nat.le_refl _) B0 hX (by simpa using h1)
      rw [List.length_nil, Lib.tailV_zero] at hr1
      rw [List.nil_append] at B1
      refine ⟨cs, w1, by omega, ?_, hr1, ⟨B1⟩⟩
      rw [run_callFunc_extern Try.func41 (by kernel_rfl) (by kernel_rfl) (by kernel_rfl) (e := Extern.BytealgMakeNoZero.makeNoZero #[3] #[22]) (by kernel_rfl), hrunM]
      rfl
    go_wp2_with (first | (go_at_call 40; refine (HMUL.out _).mono ?_; rintro e w' ⟨rfl, ⟨nd, rfl⟩⟩; obtain ⟨cs, w1, i1, hcall, hr1, HB1⟩ := hprep (w.drewN nd) HX.out; rw [show (w.drewN nd).heap.size = w.heap.size from rfl] at hr1 hcall HB1) | (at_builtin; refine Lib.wpList_copy_run _ rfl _ _ 22 22 rfl _ _ rfl rfl hr1 ?_))
    go_loopg [10] N (fun g v10 wr => ∃ bp : Nat, v10 = .int .i64 (bp : Int) ∧ 1 ≤ bp ∧ bp ≤ N ∧ N - bp ≤ g ∧ Aside0 (Lib.Buf (w.drewN nd) wr w.heap.size N (List.replicate bp x)))
    case atStart => exact ⟨1, rfl, Nat.le_refl _, h1, by omega, HB1⟩
    case round =>
      obtain ⟨bp, rfl, hb1, hb2, hg, HB⟩ := hrel
      by_cases hlt : bp < N
      · have hltb : decide ((bp : Int) < (N : Int)) = true := decide_eq_true (by omega)
        have hsl : ∀ W', (Instr.slice 22 (.slice (some ⟨w.heap.size, 0, none⟩) N N) (some (.int .i64 (bp : Int))) none none).run Try.prog W' = .ok (Lib.tailV w.heap.size N bp) W' := fun W' => Lib.run_slice_tailV W' 22 5 t22 z5 _ N bp (by omega)
        rcases Nat.lt_or_ge 8192 bp with h8 | h8
        · have h8b : (8192 : Int) < (bp : Int) := by omega
          have h8c : decide ((8192 : Int) < (bp : Int)) = true := decide_eq_true h8b
          have i7 : (8192 : Int) ≤ (N : Int) := by omega
          have HBd : Lib.Buf (w.drewN nd) wr.drew w.heap.size N (List.replicate bp x) := ⟨below_drew HB.out.below, HB.out.there, HB.out.free, HB.out.holds, HB.out.fits⟩
          obtain ⟨w2, hr2, B2⟩ := copy_self (P := Try.prog) (w.drewN nd) wr.drew w.heap.size N bp 8192 N x 22 3 5 t22 hs5 HBd hlt (by omega) (by omega)
          have HB2 : Aside0 (Lib.Buf (w.drewN nd) w2 w.heap.size N (List.replicate (bp + min 8192 (N - bp)) x)) := ⟨B2⟩
          clear B2 HBd
          have i3 : (0 : Int) ≤ (bp : Int) := by omega
          have i4 : (bp : Int) ≤ (N : Int) := by omega
          go_wp2
          go_region
          all_goals go_wp2
          go_roundg (N - (bp + min 8192 (N - bp)))
          case measure => omega
          case rel => exact ⟨bp + min 8192 (N - bp), congrArg (Value.int .i64) (by omega), by omega, by omega, Nat.le_refl _, HB2⟩
        · have h8b : ¬ (8192 : Int) < (bp : Int) := by omega
          have h8c : decide ((8192 : Int) < (bp : Int)) = false := decide_eq_false h8b
          have HBd : Lib.Buf (w.drewN nd) wr.drew w.heap.size N (List.replicate bp x) := ⟨below_drew HB.out.below, HB.out.there, HB.out.free, HB.out.holds, HB.out.fits⟩
          obtain ⟨w2, hr2, B2⟩ := copy_self (P := Try.prog) (w.drewN nd) wr.drew w.heap.size N bp bp N x 22 3 5 t22 hs5 HBd hlt (by omega) (by omega)
          have HB2 : Aside0 (Lib.Buf (w.drewN nd) w2 w.heap.size N (List.replicate (bp + min bp (N - bp)) x)) := ⟨B2⟩
          clear B2 HBd
          have i3 : (0 : Int) ≤ (bp : Int) := by omega
          have i4 : (bp : Int) ≤ (N : Int) := by omega
          go_wp2
          go_region
          all_goals go_wp2
          go_roundg (N - (bp + min bp (N - bp)))
          case measure => omega
          case rel => exact ⟨bp + min bp (N - bp), congrArg (Value.int .i64) (by omega), by omega, by omega, Nat.le_refl _, HB2⟩
      · have hltb : decide ((bp : Int) < (N : Int)) = false := decide_eq_false (by omega)
        obtain rfl : bp = N := by omega
        go_wp2
        go_ret
        exact ⟨rfl, below_step (W := w.drewN nd) (pw_below_drewN (Below.refl _ _) nd) HB.out.below, HB.out.there, HB.out.free, HB.out.holds, HB.out.fits⟩
  · have fM : decide ((8192 : Int) < (N : Int)) = false := decide_eq_false (by omega)
    have fM2 : ¬ (8192 : Int) < (N : Int) := by omega
    go_enter Try.func30, Try.ntmps30
    have hprep : ∀ W : World, Lib.HoldsBytes W (.slice A 1 c) [x] → ∃ (cs : Array Value) (w1 : World), (N : Int) ≤ (cs.size : Int) ∧ (callFunc 41 #[.int .i64 (N : Int)]).run Try.prog W = .ok (.value (.slice (some ⟨W.heap.size, 0, none⟩) N cs.size)) ((W.alloc (.cells cs 5)).drewN 2) ∧
        (Builtin.copy_ #[22, 22] 3 #[.slice (some ⟨W.heap.size, 0, none⟩) N N, .slice A 1 c]).run Try.prog ((W.alloc (.cells cs 5)).drewN 2) = .ok (.int .i64 1) w1 ∧ Aside0 (Lib.Buf W w1 W.heap.size N (List.replicate 1 x)) := fun W hX => by
      obtain ⟨cs, hrunM, hle, _⟩ := Lib.run_makeNoZero (P := Try.prog) W #[3] 22 5 t22 N (by omega)
      have B0 := Lib.Buf.start W cs 5 N 2 hle
      obtain ⟨w1, hr1, B1⟩ := Lib.copy_part (P := Try.prog) W _ W.heap.size N [] [x] (.slice A 1 c) 22 3 5 t22 hs5 (Nat.le_refl _) B0 hX (by simpa using h1)
      rw [List.length_nil, Lib.tailV_zero] at hr1
      rw [List.nil_append] at B1
      refine ⟨cs, w1, by omega, ?_, hr1, ⟨B1⟩⟩
      rw [run_callFunc_extern Try.func41 (by kernel_rfl) (by kernel_rfl) (by kernel_rfl) (e := Extern.BytealgMakeNoZero.makeNoZero #[3] #[22]) (by kernel_rfl), hrunM]
      rfl
    go_wp2_with (first | (go_at_call 40; refine (HMUL.out _).mono ?_; rintro e w' ⟨rfl, ⟨nd, rfl⟩⟩; obtain ⟨cs, w1, i1, hcall, hr1, HB1⟩ := hprep (w.drewN nd) HX.out; rw [show (w.drewN nd).heap.size = w.heap.size from rfl] at hr1 hcall HB1) | (at_builtin; refine Lib.wpList_copy_run _ rfl _ _ 22 22 rfl _ _ rfl rfl hr1 ?_))
    go_loopg [10] N (fun g v10 wr => ∃ bp : Nat, v10 = .int .i64 (bp : Int) ∧ 1 ≤ bp ∧ bp ≤ N ∧ N - bp ≤ g ∧ Aside0 (Lib.Buf (w.drewN nd) wr w.heap.size N (List.replicate bp x)))
    case atStart => exact ⟨1, rfl, Nat.le_refl _, h1, by omega, HB1⟩
    case round =>
      obtain ⟨bp, rfl, hb1, hb2, hg, HB⟩ := hrel
      by_cases hlt : bp < N
      · have hltb : decide ((bp : Int) < (N : Int)) = true := decide_eq_true (by omega)
        have hsl : ∀ W', (Instr.slice 22 (.slice (some ⟨w.heap.size, 0, none⟩) N N) (some (.int .i64 (bp : Int))) none none).run Try.prog W' = .ok (Lib.tailV w.heap.size N bp) W' := fun W' => Lib.run_slice_tailV W' 22 5 t22 z5 _ N bp (by omega)
        have hmin : min (bp : Int) (N : Int) = (bp : Int) := by omega
        have HBd : Lib.Buf (w.drewN nd) wr.drew w.heap.size N (List.replicate bp x) := ⟨below_drew HB.out.below, HB.out.there, HB.out.free, HB.out.holds, HB.out.fits⟩
        obtain ⟨w2, hr2, B2⟩ := copy_self (P := Try.prog) (w.drewN nd) wr.drew w.heap.size N bp bp N x 22 3 5 t22 hs5 HBd hlt (Nat.le_refl _) (by omega)
        have HB2 : Aside0 (Lib.Buf (w.drewN nd) w2 w.heap.size N (List.replicate (bp + min bp (N - bp)) x)) := ⟨B2⟩
        clear B2 HBd
        have i3 : (0 : Int) ≤ (bp : Int) := by omega
        have i4 : (bp : Int) ≤ (N : Int) := by omega
        go_wp2
        go_region
        all_goals go_wp2
        go_roundg (N - (bp + min bp (N - bp)))
        case measure => omega
        case rel => exact ⟨bp + min bp (N - bp), congrArg (Value.int .i64) (by omega), by omega, by omega, Nat.le_refl _, HB2⟩
      · have hltb : decide ((bp : Int) < (N : Int)) = false := decide_eq_false (by omega)
        obtain rfl : bp = N := by omega
        go_wp2
        go_ret
        exact ⟨rfl, below_step (W := w.drewN nd) (pw_below_drewN (Below.refl _ _) nd) HB.out.below, HB.out.there, HB.out.free, HB.out.holds, HB.out.fits⟩
def bytes_Repeat.f (l0 : List Int) (a1 : Int) : Option (List Int) := if l0.length = 1 ∧ (1 ≤ a1 ∧ a1 ≤ 140737488355328) ∧ (0 ≤ l0.getD 0 0 ∧ l0.getD 0 0 ≤ 255) then some (List.replicate a1.toNat (l0.getD 0 0)) else none
theorem buf_V {w w' : World} {N : Nat} {x : UInt8} (h : Lib.Buf w w' w.heap.size N (List.replicate N x)) (h1 : 1 ≤ N) (h2 : N ≤ 140737488355328) (y : Int) (hy : (x.toNat : Int) = y) :
    Kd.V (Kd.int .u8) 5 w' w.heap.size (fun k => w.heap.size ≤ k) (.slice (some ⟨w.heap.size, 0, none⟩) N N) (List.replicate N y) := by
  have hl : (List.replicate N y).length = N := List.length_replicate
  have key : ∀ W' : World, W'.heap[w.heap.size]? = w'.heap[w.heap.size]? → Kd.C (Kd.int .u8) W' (some ⟨w.heap.size, 0, none⟩) (List.replicate N y).length (List.replicate N y) := by
    intro W' hW
    refine Kd.C_of_reads (d := (0 : Int)) (h1 := fun _ => rfl) ⟨rfl, by rw [hl]; omega, fun _ => ⟨⟨w.heap.size, 0, none⟩, rfl, fun j hj => ?_⟩⟩
    rw [hl] at hj
    rw [add_plain]
    have hc := h.holds j x (by rw [List.getElem?_replicate, if_pos hj])
    simp only [World.cell?] at hc ⊢
    rw [hW]
    rw [hc]
    simp [List.getD_eq_getElem?_getD, List.getElem?_replicate, hj, hy]
  refine ⟨some ⟨w.heap.size, 0, none⟩, N, by rw [hl], by rw [hl]; exact Nat.le_refl _, fun W' hW => key W' (hW w.heap.size (Nat.le_refl _) (World.block_lt_of_cell? w' _ (h.holds 0 x (by rw [List.getElem?_replicate, if_pos (by omega)]))))⟩
theorem repeat_V (A0 : Option Addr) (c0 : Nat) (l0 : List Int) (a1 : Int) (r : List Int) (w : World) (hr0 : Kd.C (Kd.int .u8) w A0 l0.length l0) (hc0 : l0.length ≤ c0) (h : bytes_Repeat.f l0 a1 = some r)
    (hmul : ∀ (N : Nat) (w : World), N ≤ 140737488355328 → Calls Try.prog 40 #[.int .u64 1, .int .u64 (N : Int)] w fun e w' => e = .returned (.tuple #[.int .u64 0, .int .u64 (N : Int)]) ∧ Drawn0 w w') :
    Calls Try.prog 30 #[.slice A0 l0.length c0, .int .i64 a1] w fun e w' => ∃ v0_ : Value, e = .returned (v0_) ∧ Kd.V (Kd.int .u8) 5 w' w.heap.size (fun k => w.heap.size ≤ k) v0_ r ∧ Below w.heap.size w w' := by
  unfold bytes_Repeat.f at h
  by_cases hc : l0.length = 1 ∧ (1 ≤ a1 ∧ a1 ≤ 140737488355328) ∧ (0 ≤ l0.getD 0 0 ∧ l0.getD 0 0 ≤ 255)
  case neg => rw [if_neg hc] at h; exact absurd h (by simp)
  rw [if_pos hc] at h
  obtain rfl := Option.some.inj h
  obtain ⟨hl, ⟨h1, h2⟩, h3, h4⟩ := hc
  obtain ⟨y, rfl⟩ : ∃ y, l0 = [y] := by
    match l0, hl with
    | [y], _ => exact ⟨y, rfl⟩
  have hy : (([y] : List Int).getD 0 0) = y := rfl
  rw [hy] at h3 h4
  obtain ⟨N, rfl⟩ : ∃ N : Nat, a1 = (N : Int) := ⟨a1.toNat, by omega⟩
  have hx : ((UInt8.ofNat y.toNat).toNat : Int) = y := by rw [UInt8.toNat_ofNat']; omega
  have hH : Lib.HoldsBytes w (.slice A0 1 c0) [UInt8.ofNat y.toNat] := by
    obtain ⟨ad, c, e, hlen, hK, hcell⟩ := Kd.C_get hr0 (0 : Int) 0 (by omega) (by simp)
    refine ⟨A0, c0, rfl, (fun e2 => by rw [e2] at e; cases e), fun a ea i x hix => ?_⟩
    obtain rfl : ad = a := by rw [ea] at e; exact (Option.some.inj e).symm
    have hi : i = 0 := by have := (List.getElem?_eq_some_iff.1 hix).1; simp at this; omega
    subst hi
    have hx2 : UInt8.ofNat y.toNat = x := by simpa using hix
    subst hx2
    rw [hx]
    have := hcell 0 (.int .u8 y) (by rw [show c = [.int .u8 y] from hK]; rfl)
    simpa using this
  refine (repeat_walk A0 c0 (UInt8.ofNat y.toNat) N w hH (by omega) (by omega) (fun w => hmul N w (by omega))).mono ?_
  rintro e w' ⟨rfl, hB⟩
  rw [hy, Int.toNat_natCast]
  exact ⟨_, rfl, buf_V hB (by omega) (by omega) y hx, hB.below⟩
theorem mul_one_eq (N : Nat) (h : N ≤ 140737488355328) : bits_Mul.f 1 (N : Int) = some (0, (N : Int)) := by
  have e1 : Go.bits .and .u64 (1 : Int) 4294967295 = 1 := by decide
  have e2 : Go.bits .and .u64 (N : Int) 4294967295 = (N : Int) % 4294967296 := and_low32 (N : Int) (by omega) (by omega)
  have e0 : (1 : Int) / 4294967296 = 0 := by decide
  have u : ∀ z : Int, 0 ≤ z → z < 18446744073709551616 → IntKind.u64.wrap z = z := fun z h1 h2 => by rw [IntKind.wrap_u64]; omega
  have e3 : Go.bits .and .u64 (0 : Int) 4294967295 = 0 := by decide
  unfold bits_Mul.f bits_Mul64.f
  simp only [Option.bind_some, e0, e1, e2, Int.zero_mul, Int.one_mul]
  rw [u 0 (by omega) (by omega), u ((N : Int) % 4294967296) (by omega) (by omega), show (N : Int) % 4294967296 / 4294967296 = 0 by omega]
  simp only [Int.zero_add, Int.add_zero]
  rw [u 0 (by omega) (by omega), e3, u ((N : Int) / 4294967296) (by omega) (by omega)]
  simp only [Int.zero_add, Int.zero_ediv]
  rw [u 0 (by omega) (by omega), u ((N : Int) / 4294967296) (by omega) (by omega), show (N : Int) / 4294967296 / 4294967296 = 0 by omega, show (0 : Int) + 0 = 0 from rfl, u 0 (by omega) (by omega), u (N : Int) (by omega) (by omega)]
theorem bytes_Repeat.calls (A0 : Option Addr) (c0 : Nat) (l0 : List Int) (a1 : Int) (r : List Int) (w : World) (hr0 : Kd.C (Kd.int .u8) w A0 l0.length l0) (hc0 : l0.length ≤ c0) (h : bytes_Repeat.f l0 a1 = some r) :
    Calls Try.prog 30 #[.slice A0 l0.length c0, .int .i64 a1] w fun e w' => ∃ v0_ : Value, e = .returned (v0_) ∧ Kd.V (Kd.int .u8) 5 w' w.heap.size (fun k_ => w.heap.size ≤ k_) v0_ r ∧ Below w.heap.size w w' :=
  repeat_V A0 c0 l0 a1 r w hr0 hc0 h fun N w hN => bits_Mul.calls 1 (N : Int) 0 (N : Int) w (mul_one_eq N hN)


end Go.Proofs.Ytcbalpchfcifeaa.HRunsTells
