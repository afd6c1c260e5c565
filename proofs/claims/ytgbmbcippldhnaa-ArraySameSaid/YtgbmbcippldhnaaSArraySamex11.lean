/- What the Go functions of this claim answer, told as functions of numbers and lists, and that other memory stays as it was: words and walks, shortened by a program. -/
import Derived.Test.YtgbmbcippldhnaaSArraySamex0
import Derived.Test.YtgbmbcippldhnaaSArraySamex2
import Derived.Test.YtgbmbcippldhnaaSArraySamex7
import Derived.Test.YtgbmbcippldhnaaSArraySamex9
import Derived.Test.YtgbmbcippldhnaaSArraySamex10
namespace Go.Proofs.Ytgbmbcippldhnaa.HArraySame
open Go.RowKit Go.Proofs.YtgbmbcippldhnaaW.PrintWords Go.Proofs.YtgbmbcippldhnaaW.PrintLast Go.Proofs.YtgbmbcippldhnaaW.PrintMore
attribute [local go_sem] max2_int min2_int max_two min_two max_three min_three max_four min_four
set_option linter.unusedVariables false
set_option linter.unusedSimpArgs false
def hysame12.f (l : List S32) (i : Int) : Option (List S32) := if 0 ≤ i ∧ i < (l.length : Int) ∧ (rd_T32 l i).f1.length < 17592186044416 then some (l.set i.toNat ⟨(rd_T32 l i).f0, (rd_T32 l i).f1 ++ [0], (rd_T32 l i).f2, (rd_T32 l i).f3⟩) else none
def hysame13.f (l : List S32) (i : Int) : Option (List S32) := if 0 ≤ i ∧ i < (l.length : Int) ∧ (rd_T32 l i).f2.length < 17592186044416 then some (l.set i.toNat ⟨(rd_T32 l i).f0, (rd_T32 l i).f1, (rd_T32 l i).f2 ++ [0], (rd_T32 l i).f3⟩) else none
mutual
def decklelaw10_ArraySame.j0 : Nat → List (S32) → List (S32) → Int → Bool → Bool → Option (Bool)
  | 0, _, _, _, _, _ => none
  | k + 1, x0, x1, x2, x7, x33 => if x33 = true then (some x7) else ((array_Copy.f x0).bind fun t358 => ((array_Copy.f x0).bind fun t361 => ((array_Copy.f x0).bind fun t364 => (if (t358.length : Int) = (x0.length : Int) then (if (t361.length : Int) = (x0.length : Int) then (decklelaw10_ArraySame.j1 k x0 x1 x2 x7 t358 t361 t364 ((t364.length : Int) != (x0.length : Int))) else (decklelaw10_ArraySame.j1 k x0 x1 x2 x7 t358 t361 t364 true)) else (decklelaw10_ArraySame.j1 k x0 x1 x2 x7 t358 t361 t364 true)))))
def decklelaw10_ArraySame.j1 : Nat → List (S32) → List (S32) → Int → Bool → List (S32) → List (S32) → List (S32) → Bool → Option (Bool)
  | 0, _, _, _, _, _, _, _, _ => none
  | k + 1, x0, x1, x2, x7, x10, x11, x12, x59 => if x59 = true then (none) else (if 0 ≤ x2 then (if x2 < (x10.length : Int) then ((hysame12.f x11 x2).bind fun t369 => ((hysame13.f x12 x2).bind fun t372 => (if x7 = true then ((array_Same.f k x0 x0).bind fun t375 => (if t375 = true then ((array_Copy.f x0).bind fun t376 => ((array_Same.f k x0 t376).bind fun t379 => (if t379 = true then ((array_Same.f k x0 x1).bind fun t380 => ((array_Same.f k x1 x0).bind fun t381 => (if (t380 == t381) = true then ((array_Same.f k x0 (x10.set (x2 : Int).toNat (⟨Go.bits .xor .i64 ((rd_T32 x10 x2).f0) 1, (rd_T32 x10 x2).f1, (rd_T32 x10 x2).f2, (rd_T32 x10 x2).f3⟩ : S32))).bind fun t382 => (if t382 = true then (none) else ((array_Same.f k t369 x0).bind fun t383 => (if t383 = true then (none) else ((array_Same.f k x0 t372).bind fun t384 => (if t384 = true then (none) else (if x2 ≤ (x0.length : Int) then ((array_Same.f k x0 (x0.take (x2 : Int).toNat)).bind fun t389 => (some (!t389))) else (none)))))))) else (none)))) else (none)))) else (none))) else (none)))) else (none)) else (none))
end
def decklelaw10_ArraySame.f (k : Nat) (l0 : List (S32)) (l1 : List (S32)) (a2 : Int) : Option (Bool) := (decklelaw10_small.f k).bind fun t355 => ((decklelaw10_Few.f k l0).bind fun t356 => ((decklelaw10_Few.f k l1).bind fun t357 => (if t356 = true then (if t357 = true then (if a2 < 0 then (decklelaw10_ArraySame.j0 k l0 l1 a2 t355 true) else (decklelaw10_ArraySame.j0 k l0 l1 a2 t355 (decide (a2 ≥ (l0.length : Int))))) else (decklelaw10_ArraySame.j0 k l0 l1 a2 t355 true)) else (decklelaw10_ArraySame.j0 k l0 l1 a2 t355 true))))
set_option maxHeartbeats 8000000 in
set_option maxRecDepth 100000 in
theorem decklelaw10_ArraySame.calls (k : Nat) (A0 : Option Addr) (c0 : Nat) (l0 : List (S32)) (A1 : Option Addr) (c1 : Nat) (l1 : List (S32)) (a2 : Int) (r : Bool) (w : World) (hr0 : Kd.C k32 w A0 l0.length l0) (hc0 : l0.length ≤ c0) (hr1 : Kd.C k32 w A1 l1.length l1) (hc1 : l1.length ≤ c1) (h : decklelaw10_ArraySame.f k l0 l1 a2 = some r) :
    Calls Try.prog 7 #[.slice A0 l0.length c0, .slice A1 l1.length c1, .int .i64 a2] w fun e w' => e = .returned (.bool r) ∧ Below w.heap.size w w' := by
  have HR0 := Aside0.mk hr0
  have HC0 := Aside0.mk hc0
  clear hr0 hc0
  have HR1 := Aside0.mk hr1
  have HC1 := Aside0.mk hc1
  clear hr1 hc1
  have HB := Aside0.mk (Below.refl w.heap.size w)
  have H : ((decklelaw10_small.f k).bind fun t355 => ((decklelaw10_Few.f k l0).bind fun t356 => ((decklelaw10_Few.f k l1).bind fun t357 => (if t356 = true then (if t357 = true then (if a2 < 0 then (decklelaw10_ArraySame.j0 k l0 l1 a2 t355 true) else (decklelaw10_ArraySame.j0 k l0 l1 a2 t355 (decide (a2 ≥ (l0.length : Int))))) else (decklelaw10_ArraySame.j0 k l0 l1 a2 t355 true)) else (decklelaw10_ArraySame.j0 k l0 l1 a2 t355 true))))) = some r := h
  clear h
  replace H := Option.bind_eq_some_iff.mp H
  obtain ⟨t355, A40, H⟩ := H
  have A4 := Aside0.mk A40
  clear A40
  replace H := Option.bind_eq_some_iff.mp H
  obtain ⟨t356, A50, H⟩ := H
  have A5 := Aside0.mk A50
  clear A50
  replace H := Option.bind_eq_some_iff.mp H
  obtain ⟨t357, A60, H⟩ := H
  have A6 := Aside0.mk A60
  clear A60
  have HC7 := Aside0.mk H
  clear H
  go_enter Try.func7, Try.ntmps7
  go_upto_region 4 with (first | ((first | ((with_reducible refine gate_callee (f := 8) rfl ?_); refine goesL_ (some 13) rfl rfl Try.func8 J8 rfl #[] rfl J1 ?_) | go_at_call 8); (with_reducible refine (decklelaw10_small.calls k  t355 _ A4.out).mono ?_); rintro e w8 ⟨rfl, hb⟩; (try refine ⟨_, rfl, ?_⟩); have n0_ := Aside0.mk (below_step J0 hb); clear HB; have HB := n0_; clear n0_; (try clear hb); (try clear hb2); (try clear hk); (try clear hi)) | ((first | ((with_reducible refine gate_callee (f := 9) rfl ?_); refine goesL_ (some 15) rfl rfl Try.func9 J8 rfl #[.slice A0 l0.length c0] rfl J1 ?_) | go_at_call 9); (with_reducible refine (decklelaw10_Few.calls k _ _ l0 t356 _ ?side1 ?side2 A5.out).mono ?_); (case side1 => repeat (first | exact (Kd.C_below HR0.out HB.out) | (with_reducible refine Kd.C_alloc ?_ _) | (with_reducible refine Kd.C_drewN ?_ _) | (with_reducible refine Kd.C_drew ?_))); (case side2 => exact HC0.out); rintro e w' ⟨rfl, ⟨nd, rfl⟩⟩; refine ⟨_, rfl, ?_⟩) | ((first | ((with_reducible refine gate_callee (f := 9) rfl ?_); refine goesL_ (some 17) rfl rfl Try.func9 J8 rfl #[.slice A1 l1.length c1] rfl J1 ?_) | go_at_call 9); (with_reducible refine (decklelaw10_Few.calls k _ _ l1 t357 _ ?side1 ?side2 A6.out).mono ?_); (case side1 => repeat (first | exact (Kd.C_below HR1.out J0) | (with_reducible refine Kd.C_alloc ?_ _) | (with_reducible refine Kd.C_drewN ?_ _) | (with_reducible refine Kd.C_drew ?_))); (case side2 => exact HC1.out); rintro e w' ⟨rfl, ⟨nd, rfl⟩⟩; refine ⟨_, rfl, ?_⟩))
  (try simp only [Act.put, List.setIfInBounds_toArray, List.set_cons_zero, List.set_cons_succ])
  go_cut [33] (fun v33 wc => ∃ (kq : Nat) (x33_6 : Bool), v33 = .bool x33_6 ∧ Aside0 (decklelaw10_ArraySame.j0 kq l0 l1 a2 t355 x33_6 = some r) ∧ Aside0 (kq ≤ k) ∧ Aside0 (Below w.heap.size w wc))
  case first =>
    have H := HC7.out
    clear HC7
    by_cases c9 : t356 = true
    rotate_left
    · replace c9 := Bool.eq_false_iff.mpr c9
      subst c9
      have H1 : (decklelaw10_ArraySame.j0 k l0 l1 a2 t355 true) = some r := J7
      clear H
      have H := H1
      clear H1
      have H' := Aside0.mk H
      clear H
      go_wp2
      go_meet
      case rel => exact ⟨_, (true), J5, H', ⟨J23⟩, ⟨J0⟩⟩
    subst c9
    have H1 : (if t357 = true then (if a2 < 0 then (decklelaw10_ArraySame.j0 k l0 l1 a2 t355 true) else (decklelaw10_ArraySame.j0 k l0 l1 a2 t355 (decide (a2 ≥ (l0.length : Int))))) else (decklelaw10_ArraySame.j0 k l0 l1 a2 t355 true)) = some r := J14
    clear H
    have H := H1
    clear H1
    by_cases c10 : t357 = true
    rotate_left
    · replace c10 := Bool.eq_false_iff.mpr c10
      subst c10
      have H1 : (decklelaw10_ArraySame.j0 k l0 l1 a2 t355 true) = some r := J7
      clear H
      have H := H1
      clear H1
      have H' := Aside0.mk H
      clear H
      go_wp2
      go_meet
      case rel => exact ⟨_, (true), J5, H', ⟨J23⟩, ⟨J0⟩⟩
    subst c10
    have H1 : (if a2 < 0 then (decklelaw10_ArraySame.j0 k l0 l1 a2 t355 true) else (decklelaw10_ArraySame.j0 k l0 l1 a2 t355 (decide (a2 ≥ (l0.length : Int))))) = some r := J14
    clear H
    have H := H1
    clear H1
    by_cases c11 : a2 < 0
    rotate_left
    · rw [if_neg c11] at H
      have c11b0 := decide_eq_false c11
      clear c11
      (first | rw [c11b0] | (simp only [i64_w, i32_w]; rw [c11b0]) | skip)
      have H' := Aside0.mk H
      clear H
      go_wp2
      go_meet
      case rel => exact ⟨_, (decide (a2 ≥ (l0.length : Int))), J5, H', ⟨J23⟩, ⟨J0⟩⟩
    rw [if_pos c11] at H
    have c11b0 := decide_eq_true c11
    clear c11
    (first | rw [c11b0] | (simp only [i64_w, i32_w]; rw [c11b0]) | skip)
    have H' := Aside0.mk H
    clear H
    go_wp2
    go_meet
    case rel => exact ⟨_, (true), J5, H', ⟨J23⟩, ⟨J0⟩⟩
  case rest =>
    clear HC7
    try clear c1
    try clear p2
    try clear c7
    try clear c8
    try clear c9
    try clear c10
    try clear c11
    try clear c11b0
    obtain ⟨kq, x33_6, rfl, HA, HJ6, HB⟩ := hcut
    cases kq with
    | zero => exact absurd HA.out (by simp [decklelaw10_ArraySame.j0])
    | succ kj6 =>
      have H := HA.out
      clear HA
      simp only [decklelaw10_ArraySame.j0] at H
      by_cases c12 : x33_6 = true
      · subst c12
        have H1 : (some t355) = some r := J14
        clear H
        have H := H1
        clear H1
        obtain rfl := Option.some.inj H
        go_wp2
        go_ret
        exact ⟨J4, J0⟩
      replace c12 := Bool.eq_false_iff.mpr c12
      subst c12
      have H1 : ((array_Copy.f l0).bind fun t358 => ((array_Copy.f l0).bind fun t361 => ((array_Copy.f l0).bind fun t364 => (if (t358.length : Int) = (l0.length : Int) then (if (t361.length : Int) = (l0.length : Int) then (decklelaw10_ArraySame.j1 kj6 l0 l1 a2 t355 t358 t361 t364 ((t364.length : Int) != (l0.length : Int))) else (decklelaw10_ArraySame.j1 kj6 l0 l1 a2 t355 t358 t361 t364 true)) else (decklelaw10_ArraySame.j1 kj6 l0 l1 a2 t355 t358 t361 t364 true))))) = some r := J7
      clear H
      have H := H1
      clear H1
      replace H := Option.bind_eq_some_iff.mp H
      obtain ⟨t358, A130, H⟩ := H
      have A13 := Aside0.mk A130
      clear A130
      replace H := Option.bind_eq_some_iff.mp H
      obtain ⟨t361, A140, H⟩ := H
      have A14 := Aside0.mk A140
      clear A140
      replace H := Option.bind_eq_some_iff.mp H
      obtain ⟨t364, A150, H⟩ := H
      have A15 := Aside0.mk A150
      clear A150
      have HC16 := Aside0.mk H
      clear H
      go_upto_region 9 with (first | ((first | ((with_reducible refine gate_callee (f := 13) rfl ?_); refine goesL_ (some 36) rfl rfl Try.func13 J8 rfl #[.slice A0 l0.length c0] rfl J1 ?_) | go_at_call 13); (with_reducible refine (array_Copy.calls _ _ l0 t358 _ ?side1 ?side2 A13.out).mono ?_); (case side1 => repeat (first | exact (Kd.C_below HR0.out HB.out) | (with_reducible refine Kd.C_alloc ?_ _) | (with_reducible refine Kd.C_drewN ?_ _) | (with_reducible refine Kd.C_drew ?_))); (case side2 => exact HC0.out); rintro e w17 ⟨v359, rfl, ho0, hb⟩; (try refine ⟨_, rfl, ?_⟩); have n0_ := Aside0.mk (Kd.S_mono (ok' := fun k_ => k_ < w17.heap.size) (Kd.S_lower (Kd.S_bound ho0) (below_size J0)) (fun k_ hk => hk.2.2.1)); have n1_ := Aside0.mk (below_step J0 hb); clear HB; have HO360 := n0_; have HB := n1_; clear n0_ n1_ hb ho0) | ((first | ((with_reducible refine gate_callee (f := 13) rfl ?_); refine goesL_ (some 38) rfl rfl Try.func13 J8 rfl #[.slice A0 l0.length c0] rfl J1 ?_) | go_at_call 13); (with_reducible refine (array_Copy.callsA _ _ l0 t361 _ ?side1 ?side2 A14.out).mono ?_); (case side1 => repeat (first | exact (Kd.C_below HR0.out HB.out) | (with_reducible refine Kd.C_alloc ?_ _) | (with_reducible refine Kd.C_drewN ?_ _) | (with_reducible refine Kd.C_drew ?_))); (case side2 => exact HC0.out); rintro e w18 ⟨v362, rfl, ho0, hb⟩; (try refine ⟨_, rfl, ?_⟩); have HSZ := Aside0.mk (below_size hb); have n0_ := Aside0.mk (Kd.S_below HO360.out hb); have n1_ := Aside0.mk (Kd.S_mono (ok' := fun k_ => w17.heap.size ≤ k_ ∧ k_ < w18.heap.size) (Kd.S_lower (Kd.S_bound ho0) (below_size J0)) (fun k_ hk => ⟨hk.2.1, hk.2.2.1⟩)); have n2_ := Aside0.mk (below_step J0 hb); clear HO360 HB; have HO360 := n0_; have HO363 := n1_; have HB := n2_; clear n0_ n1_ n2_ hb ho0) | ((first | ((with_reducible refine gate_callee (f := 13) rfl ?_); refine goesL_ (some 40) rfl rfl Try.func13 J8 rfl #[.slice A0 l0.length c0] rfl J1 ?_) | go_at_call 13); (with_reducible refine (array_Copy.callsA _ _ l0 t364 _ ?side1 ?side2 A15.out).mono ?_); (case side1 => repeat (first | exact (Kd.C_below HR0.out HB.out) | (with_reducible refine Kd.C_alloc ?_ _) | (with_reducible refine Kd.C_drewN ?_ _) | (with_reducible refine Kd.C_drew ?_))); (case side2 => exact HC0.out); rintro e w19 ⟨v365, rfl, ho0, hb⟩; (try refine ⟨_, rfl, ?_⟩); have n0_ := Aside0.mk (Kd.S_below HO360.out hb); have n1_ := Aside0.mk (Kd.S_below HO363.out hb); have n2_ := Aside0.mk (Kd.S_mono (ok' := fun k_ => w18.heap.size ≤ k_) (Kd.S_lower (Kd.S_bound ho0) (below_size J0)) (fun k_ hk => hk.2.1)); have n3_ := Aside0.mk (below_step J0 hb); clear HO360 HO363 HB; have HO360 := n0_; have HO363 := n1_; have HO366 := n2_; have HB := n3_; clear n0_ n1_ n2_ n3_ hb ho0))
      (try simp only [Act.put, List.setIfInBounds_toArray, List.set_cons_zero, List.set_cons_succ])
      go_cut [59] (fun v59 wc => ∃ (kq : Nat) (x59_15 : Bool), v59 = .bool x59_15 ∧ Aside0 (decklelaw10_ArraySame.j1 kq l0 l1 a2 t355 t358 t361 t364 x59_15 = some r) ∧ Aside0 (kq ≤ kj6) ∧ Aside0 (Kd.S k32 32 wc w.heap.size (fun k_ => k_ < w17.heap.size) v359 t358) ∧ Aside0 (Kd.S kA 32 wc w.heap.size (fun k_ => w17.heap.size ≤ k_ ∧ k_ < w18.heap.size) v362 t361) ∧ Aside0 (Kd.S kA 32 wc w.heap.size (fun k_ => w18.heap.size ≤ k_) v365 t364) ∧ Aside0 (Below w.heap.size w wc))
      case first =>
        have H := HC16.out
        clear HC16
        by_cases c20 : (t358.length : Int) = (l0.length : Int)
        rotate_left
        · rw [if_neg c20] at H
          have c20b0 : ((t358.length : Int) == (l0.length : Int)) = false := beq_eq_false_iff_ne.mpr c20
          have c20b1 : ((t358.length : Int) != (l0.length : Int)) = true := bne_iff_ne.mpr c20
          have c20b2 : (t358.length == l0.length) = false := by first | simpa using c20 | (simp at c20 ⊢; omega)
          (first | rw [c20b0] | (simp only [i64_w, i32_w]; rw [c20b0]) | skip)
          have H' := Aside0.mk H
          clear H
          obtain ⟨Ao27, co27, eo27⟩ := Kd.S_slice HO360.out
          subst eo27
          go_wp2
          go_meet
          case rel => exact ⟨_, (true), J5, H', ⟨J37⟩, ⟨J43⟩, ⟨J44⟩, ⟨J45⟩, ⟨J0⟩⟩
        rw [if_pos c20] at H
        have c20b0 : ((t358.length : Int) == (l0.length : Int)) = true := beq_iff_eq.mpr c20
        have c20b1 : ((t358.length : Int) != (l0.length : Int)) = false := bne_eq_false_iff_eq.mpr c20
        have c20b2 : (t358.length == l0.length) = true := by first | simpa using c20 | (simp at c20 ⊢; omega)
        clear c20
        (first | rw [c20b0] | (simp only [i64_w, i32_w]; rw [c20b0]) | skip)
        by_cases c21 : (t361.length : Int) = (l0.length : Int)
        rotate_left
        · rw [if_neg c21] at H
          have c21b0 : ((t361.length : Int) == (l0.length : Int)) = false := beq_eq_false_iff_ne.mpr c21
          have c21b1 : ((t361.length : Int) != (l0.length : Int)) = true := bne_iff_ne.mpr c21
          have c21b2 : (t361.length == l0.length) = false := by first | simpa using c21 | (simp at c21 ⊢; omega)
          have H' := Aside0.mk H
          clear H
          obtain ⟨Ao25, co25, eo25⟩ := Kd.S_slice HO360.out
          subst eo25
          obtain ⟨Ao26, co26, eo26⟩ := Kd.S_slice HO363.out
          subst eo26
          go_wp2
          go_meet
          case rel => exact ⟨_, (true), J5, H', ⟨J37⟩, ⟨J43⟩, ⟨J44⟩, ⟨J45⟩, ⟨J0⟩⟩
        rw [if_pos c21] at H
        have c21b0 : ((t361.length : Int) == (l0.length : Int)) = true := beq_iff_eq.mpr c21
        have c21b1 : ((t361.length : Int) != (l0.length : Int)) = false := bne_eq_false_iff_eq.mpr c21
        have c21b2 : (t361.length == l0.length) = true := by first | simpa using c21 | (simp at c21 ⊢; omega)
        clear c21
        have H' := Aside0.mk H
        clear H
        obtain ⟨Ao22, co22, eo22⟩ := Kd.S_slice HO360.out
        subst eo22
        obtain ⟨Ao23, co23, eo23⟩ := Kd.S_slice HO363.out
        subst eo23
        obtain ⟨Ao24, co24, eo24⟩ := Kd.S_slice HO366.out
        subst eo24
        go_wp2
        go_meet
        case rel => exact ⟨_, (((t364.length : Int) != (l0.length : Int))), J5, H', ⟨J37⟩, ⟨J43⟩, ⟨J44⟩, ⟨J45⟩, ⟨J0⟩⟩
      case rest =>
        clear HC16
        try clear c1
        try clear c2
        try clear p2
        try clear c7
        try clear c8
        try clear c9
        try clear c10
        try clear c11
        try clear c11b0
        try clear c12
        try clear c13
        try clear c20
        try clear c20b0
        try clear c20b1
        try clear c20b2
        try clear c21
        try clear c21b0
        try clear c21b1
        try clear c21b2
        try clear p2
        obtain ⟨kq, x59_15, rfl, HA, HJ15, HO_10, HO_11, HO_12, HB⟩ := hcut
        cases kq with
        | zero => exact absurd HA.out (by simp [decklelaw10_ArraySame.j1])
        | succ kj15 =>
          have H := HA.out
          clear HA
          simp only [decklelaw10_ArraySame.j1] at H
          by_cases c28 : x59_15 = true
          · subst c28
            have H1 : (none) = some r := J14
            clear H
            have H := H1
            clear H1
            exact absurd H J21
          replace c28 := Bool.eq_false_iff.mpr c28
          subst c28
          have H1 : (if 0 ≤ a2 then (if a2 < (t358.length : Int) then ((hysame12.f t361 a2).bind fun t369 => ((hysame13.f t364 a2).bind fun t372 => (if t355 = true then ((array_Same.f kj15 l0 l0).bind fun t375 => (if t375 = true then ((array_Copy.f l0).bind fun t376 => ((array_Same.f kj15 l0 t376).bind fun t379 => (if t379 = true then ((array_Same.f kj15 l0 l1).bind fun t380 => ((array_Same.f kj15 l1 l0).bind fun t381 => (if (t380 == t381) = true then ((array_Same.f kj15 l0 (t358.set (a2 : Int).toNat (⟨Go.bits .xor .i64 ((rd_T32 t358 a2).f0) 1, (rd_T32 t358 a2).f1, (rd_T32 t358 a2).f2, (rd_T32 t358 a2).f3⟩ : S32))).bind fun t382 => (if t382 = true then (none) else ((array_Same.f kj15 t369 l0).bind fun t383 => (if t383 = true then (none) else ((array_Same.f kj15 l0 t372).bind fun t384 => (if t384 = true then (none) else (if a2 ≤ (l0.length : Int) then ((array_Same.f kj15 l0 (l0.take (a2 : Int).toNat)).bind fun t389 => (some (!t389))) else (none)))))))) else (none)))) else (none)))) else (none))) else (none)))) else (none)) else (none)) = some r := J7
          clear H
          have H := H1
          clear H1
          by_cases c29 : 0 ≤ a2
          rotate_left
          · rw [if_neg c29] at H
            exact absurd H J21
          rw [if_pos c29] at H
          have c29b0 := decide_eq_true c29
          clear c29
          by_cases c30 : a2 < (t358.length : Int)
          rotate_left
          · rw [if_neg c30] at H
            exact absurd H J21
          rw [if_pos c30] at H
          have c30b0 := decide_eq_true c30
          clear c30
          obtain ⟨y368, hy368⟩ : ∃ y_ : List (S32), y_ = (t358.set (a2 : Int).toNat (⟨Go.bits .xor .i64 ((rd_T32 t358 a2).f0) 1, (rd_T32 t358 a2).f1, (rd_T32 t358 a2).f2, (rd_T32 t358 a2).f3⟩ : S32)) := ⟨_, rfl⟩
          replace H : ((hysame12.f t361 a2).bind fun t369 => ((hysame13.f t364 a2).bind fun t372 => (if t355 = true then ((array_Same.f kj15 l0 l0).bind fun t375 => (if t375 = true then ((array_Copy.f l0).bind fun t376 => ((array_Same.f kj15 l0 t376).bind fun t379 => (if t379 = true then ((array_Same.f kj15 l0 l1).bind fun t380 => ((array_Same.f kj15 l1 l0).bind fun t381 => (if (t380 == t381) = true then ((array_Same.f kj15 l0 y368).bind fun t382 => (if t382 = true then (none) else ((array_Same.f kj15 t369 l0).bind fun t383 => (if t383 = true then (none) else ((array_Same.f kj15 l0 t372).bind fun t384 => (if t384 = true then (none) else (if a2 ≤ (l0.length : Int) then ((array_Same.f kj15 l0 (l0.take (a2 : Int).toNat)).bind fun t389 => (some (!t389))) else (none)))))))) else (none)))) else (none)))) else (none))) else (none)))) = some r := by first | (rw [hy368]; with_reducible exact H) | (have H2_ := (Option.bind_some _ _).symm.trans H; rw [hy368]; with_reducible exact H2_) | (have H2_ := (Option.bind_some _ _).symm.trans H; with_reducible exact H2_) | with_reducible exact H | (rw [hy368]; exact H) | exact H
          have Ny368 := Aside0.mk hy368
          clear hy368
          replace H := Option.bind_eq_some_iff.mp H
          obtain ⟨t369, A320, H⟩ := H
          have A32 := Aside0.mk A320
          clear A320
          replace H := Option.bind_eq_some_iff.mp H
          obtain ⟨t372, A330, H⟩ := H
          have A33 := Aside0.mk A330
          clear A330
          by_cases c34 : t355 = true
          rotate_left
          · replace c34 := Bool.eq_false_iff.mpr c34
            subst c34
            have H1 : (none) = some r := J7
            clear H
            have H := H1
            clear H1
            exact absurd H J21
          subst c34
          have H1 : ((array_Same.f kj15 l0 l0).bind fun t375 => (if t375 = true then ((array_Copy.f l0).bind fun t376 => ((array_Same.f kj15 l0 t376).bind fun t379 => (if t379 = true then ((array_Same.f kj15 l0 l1).bind fun t380 => ((array_Same.f kj15 l1 l0).bind fun t381 => (if (t380 == t381) = true then ((array_Same.f kj15 l0 y368).bind fun t382 => (if t382 = true then (none) else ((array_Same.f kj15 t369 l0).bind fun t383 => (if t383 = true then (none) else ((array_Same.f kj15 l0 t372).bind fun t384 => (if t384 = true then (none) else (if a2 ≤ (l0.length : Int) then ((array_Same.f kj15 l0 (l0.take (a2 : Int).toNat)).bind fun t389 => (some (!t389))) else (none)))))))) else (none)))) else (none)))) else (none))) = some r := J14
          clear H
          have H := H1
          clear H1
          replace H := Option.bind_eq_some_iff.mp H
          obtain ⟨t375, A350, H⟩ := H
          have A35 := Aside0.mk A350
          clear A350
          by_cases c36 : t375 = true
          rotate_left
          · replace c36 := Bool.eq_false_iff.mpr c36
            subst c36
            have H1 : (none) = some r := J7
            clear H
            have H := H1
            clear H1
            exact absurd H J21
          subst c36
          have H1 : ((array_Copy.f l0).bind fun t376 => ((array_Same.f kj15 l0 t376).bind fun t379 => (if t379 = true then ((array_Same.f kj15 l0 l1).bind fun t380 => ((array_Same.f kj15 l1 l0).bind fun t381 => (if (t380 == t381) = true then ((array_Same.f kj15 l0 y368).bind fun t382 => (if t382 = true then (none) else ((array_Same.f kj15 t369 l0).bind fun t383 => (if t383 = true then (none) else ((array_Same.f kj15 l0 t372).bind fun t384 => (if t384 = true then (none) else (if a2 ≤ (l0.length : Int) then ((array_Same.f kj15 l0 (l0.take (a2 : Int).toNat)).bind fun t389 => (some (!t389))) else (none)))))))) else (none)))) else (none)))) = some r := J14
          clear H
          have H := H1
          clear H1
          replace H := Option.bind_eq_some_iff.mp H
          obtain ⟨t376, A370, H⟩ := H
          have A37 := Aside0.mk A370
          clear A370
          replace H := Option.bind_eq_some_iff.mp H
          obtain ⟨t379, A380, H⟩ := H
          have A38 := Aside0.mk A380
          clear A380
          by_cases c39 : t379 = true
          rotate_left
          · replace c39 := Bool.eq_false_iff.mpr c39
            subst c39
            have H1 : (none) = some r := J7
            clear H
            have H := H1
            clear H1
            exact absurd H J21
          subst c39
          have H1 : ((array_Same.f kj15 l0 l1).bind fun t380 => ((array_Same.f kj15 l1 l0).bind fun t381 => (if (t380 == t381) = true then ((array_Same.f kj15 l0 y368).bind fun t382 => (if t382 = true then (none) else ((array_Same.f kj15 t369 l0).bind fun t383 => (if t383 = true then (none) else ((array_Same.f kj15 l0 t372).bind fun t384 => (if t384 = true then (none) else (if a2 ≤ (l0.length : Int) then ((array_Same.f kj15 l0 (l0.take (a2 : Int).toNat)).bind fun t389 => (some (!t389))) else (none)))))))) else (none)))) = some r := J14
          clear H
          have H := H1
          clear H1
          replace H := Option.bind_eq_some_iff.mp H
          obtain ⟨t380, A400, H⟩ := H
          have A40 := Aside0.mk A400
          clear A400
          replace H := Option.bind_eq_some_iff.mp H
          obtain ⟨t381, A410, H⟩ := H
          have A41 := Aside0.mk A410
          clear A410
          by_cases c42 : (t380 == t381) = true
          rotate_left
          · rw [if_neg c42] at H
            exact absurd H J21
          rw [if_pos c42] at H
          have c42b0 : (t380 == t381) = true := c42
          (try (have c42b1 : decide (t380 = t381) = true := by simpa using c42))
          (try (have c42b2 : (t380 == t381) = true := by simpa using c42))
          clear c42
          replace H := Option.bind_eq_some_iff.mp H
          obtain ⟨t382, A430, H⟩ := H
          have A43 := Aside0.mk A430
          clear A430
          by_cases c44 : t382 = true
          · subst c44
            have H1 : (none) = some r := J14
            clear H
            have H := H1
            clear H1
            exact absurd H J21
          replace c44 := Bool.eq_false_iff.mpr c44
          subst c44
          have H1 : ((array_Same.f kj15 t369 l0).bind fun t383 => (if t383 = true then (none) else ((array_Same.f kj15 l0 t372).bind fun t384 => (if t384 = true then (none) else (if a2 ≤ (l0.length : Int) then ((array_Same.f kj15 l0 (l0.take (a2 : Int).toNat)).bind fun t389 => (some (!t389))) else (none)))))) = some r := J7
          clear H
          have H := H1
          clear H1
          replace H := Option.bind_eq_some_iff.mp H
          obtain ⟨t383, A450, H⟩ := H
          have A45 := Aside0.mk A450
          clear A450
          by_cases c46 : t383 = true
          · subst c46
            have H1 : (none) = some r := J14
            clear H
            have H := H1
            clear H1
            exact absurd H J21
          replace c46 := Bool.eq_false_iff.mpr c46
          subst c46
          have H1 : ((array_Same.f kj15 l0 t372).bind fun t384 => (if t384 = true then (none) else (if a2 ≤ (l0.length : Int) then ((array_Same.f kj15 l0 (l0.take (a2 : Int).toNat)).bind fun t389 => (some (!t389))) else (none)))) = some r := J7
          clear H
          have H := H1
          clear H1
          replace H := Option.bind_eq_some_iff.mp H
          obtain ⟨t384, A470, H⟩ := H
          have A47 := Aside0.mk A470
          clear A470
          by_cases c48 : t384 = true
          · subst c48
            have H1 : (none) = some r := J14
            clear H
            have H := H1
            clear H1
            exact absurd H J21
          replace c48 := Bool.eq_false_iff.mpr c48
          subst c48
          have H1 : (if a2 ≤ (l0.length : Int) then ((array_Same.f kj15 l0 (l0.take (a2 : Int).toNat)).bind fun t389 => (some (!t389))) else (none)) = some r := J7
          clear H
          have H := H1
          clear H1
          have c49b0 := eq_true (of_decide_eq_true J2 : 0 ≤ a2)
          by_cases c50 : a2 ≤ (l0.length : Int)
          rotate_left
          · rw [if_neg c50] at H
            exact absurd H J21
          rw [if_pos c50] at H
          have c50b0 := eq_true c50
          have c50b1 := decide_eq_true c50
          clear c50
          obtain ⟨y385, hy385⟩ : ∃ y_ : List (S32), y_ = (l0.take (a2 : Int).toNat) := ⟨_, rfl⟩
          replace H : ((array_Same.f kj15 l0 y385).bind fun t389 => (some (!t389))) = some r := by first | (rw [hy385]; with_reducible exact H) | (have H2_ := (Option.bind_some _ _).symm.trans H; rw [hy385]; with_reducible exact H2_) | (have H2_ := (Option.bind_some _ _).symm.trans H; with_reducible exact H2_) | with_reducible exact H | (rw [hy385]; exact H) | exact H
          have Ny385 := Aside0.mk hy385
          clear hy385
          replace H := Option.bind_eq_some_iff.mp H
          obtain ⟨t389, A510, H⟩ := H
          have A51 := Aside0.mk A510
          clear A510
          obtain rfl := Option.some.inj H
          obtain ⟨Ao52, co52, eo52⟩ := Kd.S_slice HO_10.out
          subst eo52
          have p367 : 0 ≤ (a2 : Int) := of_decide_eq_true J2
          have q367 : a2 < (t358.length : Int) := of_decide_eq_true J2
          obtain ⟨ad367, A367_1, c367_1, A367_2, c367_2, A367_3, c367_3, e367, hx367_0, hx367_1, hx367_2, hx367_3, hl367_1, hi367_1, hl367_2, hi367_2, hl367_3, hi367_3⟩ := at_T32 (Kd.S_reads' HO_10.out).2.2 a2 p367 q367
          cases e367
          obtain ⟨ce367, hce367, hMe367, hcc367⟩ := Kd.S_get HO_10.out z32 a2 p367 (by first | exact q367 | exact of_decide_eq_true J2 | (have e_ := (Kd.S_reads' HO_10.out).1; omega))
          obtain ⟨ve367_1, ve367_2, ve367_3, rfl, ge367_1, ge367_2, ge367_3⟩ := k32_openM hMe367
          have hv367_1 := hcc367 1 _ rfl
          rw [add_field _ _ 1 J28] at hv367_1
          replace hv367_1 := Option.some.inj (hv367_1.symm.trans hx367_1)
          rw [hv367_1] at ge367_1
          have HL367_1 := Aside0.mk (show Kd.R (Kd.int .i64) 3 _ _ _ _ ((rd_T32 t358 a2).f1) from ge367_1)
          clear hv367_1 ge367_1
          have hv367_2 := hcc367 2 _ rfl
          rw [add_field _ _ 2 J28] at hv367_2
          replace hv367_2 := Option.some.inj (hv367_2.symm.trans hx367_2)
          rw [hv367_2] at ge367_2
          have HL367_2 := Aside0.mk (show Kd.R (Kd.int .i64) 3 _ _ _ _ ((rd_T32 t358 a2).f2) from ge367_2)
          clear hv367_2 ge367_2
          have hv367_3 := hcc367 3 _ rfl
          rw [add_field _ _ 3 J28] at hv367_3
          replace hv367_3 := Option.some.inj (hv367_3.symm.trans hx367_3)
          rw [hv367_3] at ge367_3
          have HL367_3 := Aside0.mk (show Kd.R k41 41 _ _ _ _ ((rd_T32 t358 a2).f3) from ge367_3)
          clear hv367_3 ge367_3
          clear hcc367 hce367
          have HR367_1 := Aside0.mk hi367_1
          have HC367_1 := Aside0.mk hl367_1
          clear hi367_1 hl367_1
          have HR367_2 := Aside0.mk hi367_2
          have HC367_2 := Aside0.mk hl367_2
          clear hi367_2 hl367_2
          have HR367_3 := Aside0.mk hi367_3
          have HC367_3 := Aside0.mk hl367_3
          clear hi367_3 hl367_3
          replace p367 := eq_true p367
          replace q367 := eq_true q367
          have p31 : 0 ≤ (a2 : Int) := of_decide_eq_true J2
          have q31 : (a2 : Int) < ((t358.length : Int) : Int) := of_decide_eq_true J2
          obtain ⟨go31, co31, eo31, gb31, gl31, cl31, HG31⟩ := Kd.S_form HO_10.out J28
          (first | cases eo31 | (injection eo31 with ea_ en_ ec_; (first | subst ea_ | (injection ea_ with ea_; subst ea_)); subst ec_; clear en_))
          have GB31 := Aside0.mk gb31
          have GG31 := Aside0.mk HG31
          clear gb31 gl31 HG31
          (first | simp only [add_plain] at hx367_0 | skip)
          (first | simp only [add_plain] at hx367_1 | skip)
          (first | simp only [add_plain] at hx367_2 | skip)
          (first | simp only [add_plain] at hx367_3 | skip)
          obtain ⟨_, ce31, hcl31, hM31, hcc31, hfr31, _, _⟩ := Kd.S_elem HO_10.out z32 (a2 : Int) p31 q31
          obtain ⟨ve31_1, ve31_2, ve31_3, rfl, ge31_1, ge31_2, ge31_3⟩ := k32_openM hM31
          have hx31_0 : wc.cell? ⟨go31, (a2 : Int).toNat * 4, none⟩ = some (.int .i64 ((rd_T32 t358 a2).f0)) := hcc31 0 _ rfl
          have hx31_1 : wc.cell? ⟨go31, (a2 : Int).toNat * 4 + 1, none⟩ = some (ve31_1) := hcc31 1 _ rfl
          have hx31_2 : wc.cell? ⟨go31, (a2 : Int).toNat * 4 + 2, none⟩ = some (ve31_2) := hcc31 2 _ rfl
          have hx31_3 : wc.cell? ⟨go31, (a2 : Int).toNat * 4 + 3, none⟩ = some (ve31_3) := hcc31 3 _ rfl
          have hf31_0 : wc.frozen? ⟨go31, (a2 : Int).toNat * 4, none⟩ = false := hfr31 0
          have hf31_1 : wc.frozen? ⟨go31, (a2 : Int).toNat * 4 + 1, none⟩ = false := hfr31 1
          have hf31_2 : wc.frozen? ⟨go31, (a2 : Int).toNat * 4 + 2, none⟩ = false := hfr31 2
          have hf31_3 : wc.frozen? ⟨go31, (a2 : Int).toNat * 4 + 3, none⟩ = false := hfr31 3
          clear hcl31 hcc31 hfr31 hM31
          replace p31 := eq_true p31
          replace q31 := eq_true q31
          have HX53 := Aside0.mk (show Kd.S k32 32 wc w.heap.size (fun k_ => ((fun k_ => k_ < w17.heap.size)) k_ ∧ ¬ ((fun _ => False)) k_) (.slice (some ⟨go31, 0, none⟩) t358.length co52) t358 from (by (with_reducible repeat (first | apply Kd.S_alloc | apply Kd.S_drewN | apply Kd.S_drew)); exact Kd.S_mono HO_10.out (fun k_ hk => ⟨hk, fun h_ => h_⟩)))
          obtain ⟨oki53, ce53, hcl53, hM53, hcc53, hfr53, hoki53, hH53⟩ := Kd.S_elem HX53.out z32 (a2 : Int) (of_decide_eq_true J2) J55
          obtain ⟨ve53_1, ve53_2, ve53_3, rfl, ge53_1, ge53_2, ge53_3⟩ := k32_openM hM53
          have HP53 := Kd.S_seg hH53 (of_decide_eq_true J2) J55 (seg := [.int .i64 (Go.bits .xor .i64 ((rd_T32 t358 a2).f0) 1)]) (j := 0) (show 1 ≤ 4 from by decide) (x' := (⟨Go.bits .xor .i64 ((rd_T32 t358 a2).f0) 1, (rd_T32 t358 a2).f1, (rd_T32 t358 a2).f2, (rd_T32 t358 a2).f3⟩ : S32)) (k32_mkM _ _ _ (⟨Go.bits .xor .i64 ((rd_T32 t358 a2).f0) 1, (rd_T32 t358 a2).f1, (rd_T32 t358 a2).f2, (rd_T32 t358 a2).f3⟩ : S32) (Kd.R_mono ge53_1 (fun _ h_ => Or.inl h_)) (Kd.R_mono ge53_2 (fun _ h_ => Or.inl h_)) (Kd.R_mono ge53_3 (fun _ h_ => Or.inl h_))) (fun _ hk => hk) (fun k_ hk_ => hk_.elim)
          have hx53_0 := hcc53 0 _ rfl
          (try simp only [show (k32).sz = 4 from rfl, Nat.mul_one, Nat.add_zero] at hx53_0)
          have hf53_0 := hfr53 0
          (try simp only [show (k32).sz = 4 from rfl, Nat.mul_one, Nat.add_zero] at hf53_0)
          clear hcl53 hcc53 hfr53 hM53 hoki53 hH53
          have GX := Aside0.mk ((Kd.S_R HO_10.out).1 go31 (by simp [Value.ownBlock]))
          go_upto_region 12 with (first | ((with_reducible refine gate_store (t := 3) (p := 69) rfl ?_); refine store_event (t := 3) (p := 69) (v := ?vo_w54) (w1 := (wc.setCell ⟨go31, (a2 : Int).toNat * 4, none⟩ (.int .i64 (Go.bits .xor .i64 ((rd_T32 t358 a2).f0) 1)))) ?hg ?ho ?hn ?hr ?_; (case ho => rfl); (case hg => rfl); (case hn => rfl); (case hr => first | (go_simp; done) | (go_simp; rfl)); intro w54 hw; have hg : wc.grownBy w54 (some go31) := (by rw [hw]; exact HP53.2); have hp_ : Kd.S k32 32 w54 w.heap.size (fun k_ => k_ < w17.heap.size) (.slice (some ⟨go31, 0, none⟩) t358.length co52) y368 := (by rw [hw, Ny368.out]; exact HP53.1); clear HP53; have n0_ := Aside0.mk (hp_); have n1_ := Aside0.mk (Kd.S_grown HO_11.out hg (fun k_ hk_ e_ => by have h_ := Option.some.inj e_; have l_ := GX.out; have m_ := hk_.1; omega)); have n2_ := Aside0.mk (Kd.S_grown HO_12.out hg (fun k_ hk_ e_ => by have h_ := Option.some.inj e_; have l_ := GX.out; have m_ := HSZ.out; have o_ : w18.heap.size ≤ k_ := hk_; omega)); have n3_ := Aside0.mk (Kd.R_after (v := (.slice (some ⟨go31, 0, none⟩) t358.length co52)) (v1 := (.slice (some ⟨go31, 0, none⟩) t358.length co52)) (ok := (fun k_ => k_ < w17.heap.size)) (zr HL367_1.out) hg (.inl rfl)); have n4_ := Aside0.mk (Kd.R_after (v := (.slice (some ⟨go31, 0, none⟩) t358.length co52)) (v1 := (.slice (some ⟨go31, 0, none⟩) t358.length co52)) (ok := (fun k_ => k_ < w17.heap.size)) (zr HL367_2.out) hg (.inl rfl)); have n5_ := Aside0.mk (Kd.R_after (v := (.slice (some ⟨go31, 0, none⟩) t358.length co52)) (v1 := (.slice (some ⟨go31, 0, none⟩) t358.length co52)) (ok := (fun k_ => k_ < w17.heap.size)) (zr HL367_3.out) hg (.inl rfl)); have n7_ := Aside0.mk (show w54.heap.size = wc.heap.size from by rw [hw]; simp); have n6_ := Aside0.mk ((by rw [hw]; exact below_set (HB.out) GB31.out : Below w.heap.size w w54)); clear HO_10; clear HO_11; clear HO_12; clear HL367_1; clear HL367_2; clear HL367_3; clear HB; have HO_10 := n0_; have HO_11 := n1_; have HO_12 := n2_; have HL367_1 := n3_; have HL367_2 := n4_; have HL367_3 := n5_; have HB := n6_; have HWS := n7_; clear n0_ n1_ n2_ n3_ n4_ n5_ n6_ n7_; clear hg hw hp_; obtain ⟨Ao55, co55, eo55⟩ := Kd.S_slice HO_11.out; subst eo55))
          have H12 := A32.out
          unfold hysame12.f at H12
          by_cases c12_ : 0 ≤ a2 ∧ a2 < (t361.length : Int) ∧ (rd_T32 t361 a2).f1.length < 17592186044416
          rotate_left
          · rw [if_neg c12_] at H12
            exact absurd H12 J21
          rw [if_pos c12_] at H12
          obtain ⟨h0_, h1_, h2_⟩ := c12_
          have NT12 := Aside0.mk (Option.some.inj H12)
          have LM12 := Aside0.mk h2_
          clear H12
          obtain ⟨gy12, cy12, ey, gb_, gl_, _⟩ := Kd.S_form HO_11.out J28
          injection ey with ea_ _ ec_
          subst ea_
          subst ec_
          obtain ⟨v1, v2, v3, hcc_, hfr_, r_, hro_, hput_⟩ := lend1 HO_11.out h0_ h1_
          obtain ⟨B1, d1, eb_⟩ := Kd.R_slice r_
          subst eb_
          have hx_ : w54.cell? ⟨gy12, a2.toNat * 4 + 1, none⟩ = some (.slice B1 (rd_T32 t361 a2).f1.length d1) := hcc_ 1 _ rfl
          have hf_ : w54.frozen? ⟨gy12, a2.toNat * 4 + 1, none⟩ = false := hfr_ 1
          have HGL := Aside0.mk gl_
          have HGB := Aside0.mk gb_
          have HRO := Aside0.mk hro_
          have HRR := Aside0.mk r_
          have HPUT := Aside0.mk hput_
          have p12 : (0 ≤ a2) = True := eq_true h0_
          have q12 : (a2 < (t361.length : Int)) = True := eq_true h1_
          have HOK := Aside0.mk ((Kd.S_R HO_11.out).1 gy12 rfl)
          clear hcc_ hfr_ r_ hro_ hput_ h0_ h1_ h2_ gb_ gl_
          go_upto_region 13 with (first | ((with_reducible refine gate_builtin (b := .append) (xs := #[.tmp 76, .tmp 77]) rfl ?_); at_builtin; refine Kd.R_append (Kd.int .i64) (w0 := w) w.heap.size rfl (.tmp 76) (.tmp 77) 29 3 (.int .i64 0) 8 rfl Try.underlying29 info3 rfl J17 J28 (.slice B1 (rd_T32 t361 a2).f1.length d1) (rd_T32 t361 a2).f1 0 [.int .i64 0] (fun k_ => some k_ = (Value.slice B1 (rd_T32 t361 a2).f1.length d1).ownBlock ∨ w54.heap.size ≤ k_) (fun _ => False) rfl rfl ?aP (fun _ hk => hk.elim) ?aF ?aO ?aB ?aS ?aL ?_; (case aP => exact rfl); (case aB => exact HB.out); (case aF => exact (fun _ h_ => .inr h_)); (case aO => exact Kd.R_mono (Kd.R_tight rfl HRR.out) (fun _ h_ => .inl h_)); (case aS => exact below_size HB.out); (case aL => have := LM12.out; omega); intro v56_ w56_ ho hb hg hat; obtain ⟨E1, e1, ee_⟩ := Kd.R_slice ho; subst ee_; have sb_ := same_block (hg.block gy12 HGL.out (fun e_ => (HRO.out gy12 e_.symm).2 rfl)); have hx2_ : w56_.cell? ⟨gy12, a2.toNat * 4 + 1, none⟩ = some (.slice B1 (rd_T32 t361 a2).f1.length d1) := (sb_.1 _).trans hx_; have hf2_ : w56_.frozen? ⟨gy12, a2.toNat * 4 + 1, none⟩ = false := (sb_.2 _).trans hf_; have HG1 := Aside0.mk hg; have HRB := Aside0.mk ho; have HB2 := Aside0.mk hb; clear sb_ ho hb hg hat) | ((with_reducible refine gate_store (t := 29) (p := 80) rfl ?_); refine store_event (t := 29) (p := 80) (v := ?vo) (w1 := (w56_.setCell ⟨gy12, a2.toNat * 4 + 1, none⟩ (.slice E1 ((rd_T32 t361 a2).f1 ++ [0]).length e1))) ?hg ?ho ?hn ?hr ?_; (case ho => rfl); (case hg => rfl); (case hn => rfl); (case hr => first | (go_simp; done) | (go_simp; rfl)); intro w56 hw))
          have HPP := HPUT.out w56_ (.slice E1 ((rd_T32 t361 a2).f1 ++ [0]).length e1) _ HG1.out HRB.out
          have hg2_ : w56_.grownBy w56 (some gy12) := (by rw [hw]; exact HPP.2)
          have hS_ : Kd.S kA 32 w56 w.heap.size (fun k_ => (w17.heap.size ≤ k_ ∧ k_ < w18.heap.size) ∨ w54.heap.size ≤ k_) (.slice (some ⟨gy12, 0, none⟩) t361.length co55) t369 := (by rw [hw, ← NT12.out]; exact HPP.1)
          have hk_ := HOK.out
          have n0_ := Aside0.mk (Kd.S_grown (Kd.S_grown HO_10.out HG1.out (fun k_ hk_ e_ => by have h_ := (HRO.out k_ e_.symm).1.1; have l_ : k_ < w17.heap.size := hk_; omega)) hg2_ (fun k_ h_ e_ => by have i_ := Option.some.inj e_; have l_ : k_ < w17.heap.size := h_; omega))
          have n2_ := Aside0.mk (Kd.S_mono (ok' := fun k_ => w18.heap.size ≤ k_ ∧ k_ < wc.heap.size) (Kd.S_grown (Kd.S_grown (Kd.S_bound HO_12.out) HG1.out (fun k_ hk_ e_ => by have h_ := (HRO.out k_ e_.symm).1.2; have l_ : w18.heap.size ≤ k_ := hk_.1; omega)) hg2_ (fun k_ h_ e_ => by have i_ := Option.some.inj e_; have l_ : w18.heap.size ≤ k_ := h_.1; omega)) (fun k_ h_ => ⟨h_.1, by have a_ := h_.2.2.1; have b_ := HWS.out; omega⟩))
          have n3_ := Aside0.mk ((by rw [hw]; exact below_set HB2.out HGB.out) : Below w.heap.size w w56)
          have n4_ := Aside0.mk (show wc.heap.size ≤ w56.heap.size from by rw [hw]; have a_ := HG1.out.size; have b_ := HWS.out; simp; omega)
          have HWV := HWS
          clear HO_10 HO_11 HO_12 HB HB2 HPP hg2_ hk_ HPUT HG1 HRB HRR HRO HOK HGL HGB hw hx_ hf_ hx2_ hf2_ LM12
          have HO_10 := n0_
          have HOY := Aside0.mk hS_
          have HO_12 := n2_
          have HB := n3_
          have HWT := n4_
          clear n0_ n2_ n3_ n4_ hS_
          have HLY := Aside0.mk (show t369.length = t361.length from by rw [← NT12.out, List.length_set])
          obtain ⟨Ao57, co57, eo_⟩ := Kd.S_slice HO_12.out
          subst eo_
          have H13 := A33.out
          unfold hysame13.f at H13
          by_cases c13_ : 0 ≤ a2 ∧ a2 < (t364.length : Int) ∧ (rd_T32 t364 a2).f2.length < 17592186044416
          rotate_left
          · rw [if_neg c13_] at H13
            exact absurd H13 J21
          rw [if_pos c13_] at H13
          obtain ⟨h0_, h1_, h2_⟩ := c13_
          have NT13 := Aside0.mk (Option.some.inj H13)
          have LM13 := Aside0.mk h2_
          clear H13
          obtain ⟨gy13, cy13, ey, gb_, gl_, _⟩ := Kd.S_form HO_12.out J28
          injection ey with ea_ _ ec_
          subst ea_
          subst ec_
          obtain ⟨v1, v2, v3, hcc_, hfr_, r_, hro_, hput_⟩ := lend2 HO_12.out h0_ h1_
          obtain ⟨B1, d1, eb_⟩ := Kd.R_slice r_
          subst eb_
          have hx_ : w56.cell? ⟨gy13, a2.toNat * 4 + 2, none⟩ = some (.slice B1 (rd_T32 t364 a2).f2.length d1) := hcc_ 2 _ rfl
          have hf_ : w56.frozen? ⟨gy13, a2.toNat * 4 + 2, none⟩ = false := hfr_ 2
          have HGL := Aside0.mk gl_
          have HGB := Aside0.mk gb_
          have HRO := Aside0.mk hro_
          have HRR := Aside0.mk r_
          have HPUT := Aside0.mk hput_
          have p13 : (0 ≤ a2) = True := eq_true h0_
          have q13 : (a2 < (t364.length : Int)) = True := eq_true h1_
          have HOK := Aside0.mk ((Kd.S_R HO_12.out).1 gy13 rfl)
          clear hcc_ hfr_ r_ hro_ hput_ h0_ h1_ h2_ gb_ gl_
          go_upto_region 14 with (first | ((with_reducible refine gate_builtin (b := .append) (xs := #[.tmp 87, .tmp 88]) rfl ?_); at_builtin; refine Kd.R_append (Kd.int .i64) (w0 := w) w.heap.size rfl (.tmp 87) (.tmp 88) 29 3 (.int .i64 0) 8 rfl Try.underlying29 info3 rfl J17 J28 (.slice B1 (rd_T32 t364 a2).f2.length d1) (rd_T32 t364 a2).f2 0 [.int .i64 0] (fun k_ => some k_ = (Value.slice B1 (rd_T32 t364 a2).f2.length d1).ownBlock ∨ w56.heap.size ≤ k_) (fun _ => False) rfl rfl ?aP (fun _ hk => hk.elim) ?aF ?aO ?aB ?aS ?aL ?_; (case aP => exact rfl); (case aB => exact HB.out); (case aF => exact (fun _ h_ => .inr h_)); (case aO => exact Kd.R_mono (Kd.R_tight rfl HRR.out) (fun _ h_ => .inl h_)); (case aS => exact below_size HB.out); (case aL => have := LM13.out; omega); intro v58_ w58_ ho hb hg hat; obtain ⟨E1, e1, ee_⟩ := Kd.R_slice ho; subst ee_; have sb_ := same_block (hg.block gy13 HGL.out (fun e_ => (HRO.out gy13 e_.symm).2 rfl)); have hx2_ : w58_.cell? ⟨gy13, a2.toNat * 4 + 2, none⟩ = some (.slice B1 (rd_T32 t364 a2).f2.length d1) := (sb_.1 _).trans hx_; have hf2_ : w58_.frozen? ⟨gy13, a2.toNat * 4 + 2, none⟩ = false := (sb_.2 _).trans hf_; have HG1 := Aside0.mk hg; have HRB := Aside0.mk ho; have HB2 := Aside0.mk hb; clear sb_ ho hb hg hat))
          refine at_world (fun W_ => W_ = w58_.setCell ⟨gy13, a2.toNat * 4 + 2, none⟩ (.slice E1 ((rd_T32 t364 a2).f2 ++ [0]).length e1)) (by rw [List.length_append]; rfl) ?_
          intro w58 hw
          have HPP := HPUT.out w58_ (.slice E1 ((rd_T32 t364 a2).f2 ++ [0]).length e1) _ HG1.out HRB.out
          have hg2_ : w58_.grownBy w58 (some gy13) := (by rw [hw]; exact HPP.2)
          have hS_ : Kd.S kA 32 w58 w.heap.size (fun k_ => (w18.heap.size ≤ k_ ∧ k_ < wc.heap.size) ∨ w56.heap.size ≤ k_) (.slice (some ⟨gy13, 0, none⟩) t364.length co57) t372 := (by rw [hw, ← NT13.out]; exact HPP.1)
          have hk_ := HOK.out
          have n0_ := Aside0.mk (Kd.S_grown (Kd.S_grown HO_10.out HG1.out (fun k_ hk_ e_ => by have h_ := (HRO.out k_ e_.symm).1.1; have l_ : k_ < w17.heap.size := hk_; have m_ := HSZ.out; omega)) hg2_ (fun k_ h_ e_ => by have i_ := Option.some.inj e_; have l_ : k_ < w17.heap.size := h_; have m_ := HSZ.out; omega))
          have n1_ := Aside0.mk (Kd.S_grown (Kd.S_grown HOY.out HG1.out (fun k_ hk_ e_ => by have h_ := (HRO.out k_ e_.symm).1; have a_ := HWV.out; rcases hk_ with l_ | l_ <;> omega)) hg2_ (fun k_ h_ e_ => by have i_ := Option.some.inj e_; have a_ := HWV.out; rcases h_ with l_ | l_ <;> omega))
          have n3_ := Aside0.mk ((by rw [hw]; exact below_set HB2.out HGB.out) : Below w.heap.size w w58)
          have HO371 := Aside0.mk (Kd.R_V (base' := w.heap.size) (Kd.S_R (S_kA n1_.out)))
          have HO374 := Aside0.mk (Kd.R_V (base' := w.heap.size) (Kd.S_R (S_kA hS_)))
          clear HO_10 HOY HO_12 HB HB2 HPP hg2_ hk_ HPUT HG1 HRB HRR HRO HOK HGL HGB hw hx_ hf_ hx2_ hf2_ LM13 HL367_1 HL367_2 HL367_3
          have HO_10 := n0_
          have HB := n3_
          have HO_11 := Aside0.mk (Kd.S_nil k32 32 w58 w.heap.size (fun _ => True))
          have HO_12 := Aside0.mk (Kd.S_nil k32 32 w58 w.heap.size (fun _ => True))
          have HL367_1 := Aside0.mk (Kd.R_nil (Kd.int .i64) 3 w58 w.heap.size (fun _ => True))
          have HL367_2 := Aside0.mk (Kd.R_nil (Kd.int .i64) 3 w58 w.heap.size (fun _ => True))
          have HL367_3 := Aside0.mk (Kd.R_nil k41 41 w58 w.heap.size (fun _ => True))
          have HLZ := Aside0.mk (show t372.length = t364.length from by rw [← NT13.out, List.length_set])
          clear n0_ n1_ n3_ hS_
          go_wp2_with (first | (go_at_call 24; (with_reducible refine (array_Same.calls kj15 _ _ l0 _ _ l0 true _ ?side1 ?side2 ?side3 ?side4 A35.out).mono ?_); (case side1 => repeat (first | exact (Kd.C_below HR0.out HB.out) | (with_reducible refine Kd.C_alloc ?_ _) | (with_reducible refine Kd.C_drewN ?_ _) | (with_reducible refine Kd.C_drew ?_))); (case side2 => exact HC0.out); (case side3 => repeat (first | exact (Kd.C_below HR0.out HB.out) | (with_reducible refine Kd.C_alloc ?_ _) | (with_reducible refine Kd.C_drewN ?_ _) | (with_reducible refine Kd.C_drew ?_))); (case side4 => exact HC0.out); rintro e w59 ⟨rfl, hb⟩; have n0_ := Aside0.mk (Kd.S_below (zs HO_10.out) hb); have n1_ := Aside0.mk (Kd.S_below (zs HO_11.out) hb); have n2_ := Aside0.mk (Kd.S_below (zs HO_12.out) hb); have n3_ := Aside0.mk (Kd.R_below (zr HL367_1.out) hb); have n4_ := Aside0.mk (Kd.R_below (zr HL367_2.out) hb); have n5_ := Aside0.mk (Kd.R_below (zr HL367_3.out) hb); have n6_ := Aside0.mk (Kd.V_below (zv HO371.out) hb); have n7_ := Aside0.mk (Kd.V_below (zv HO374.out) hb); have n8_ := Aside0.mk (below_step J0 hb); clear HO_10; clear HO_11; clear HO_12; clear HL367_1; clear HL367_2; clear HL367_3; clear HO371; clear HO374; clear HB; have HO_10 := n0_; have HO_11 := n1_; have HO_12 := n2_; have HL367_1 := n3_; have HL367_2 := n4_; have HL367_3 := n5_; have HO371 := n6_; have HO374 := n7_; have HB := n8_; clear n0_ n1_ n2_ n3_ n4_ n5_ n6_ n7_ n8_; (try clear hb); (try clear hb2); (try clear hk); (try clear hi)) | (go_at_call 13; (with_reducible refine (array_Copy.calls _ _ l0 t376 _ ?side1 ?side2 A37.out).mono ?_); (case side1 => repeat (first | exact (Kd.C_below HR0.out HB.out) | (with_reducible refine Kd.C_alloc ?_ _) | (with_reducible refine Kd.C_drewN ?_ _) | (with_reducible refine Kd.C_drew ?_))); (case side2 => exact HC0.out); rintro e w60 ⟨v377, rfl, ho0, hb⟩; have n0_ := Aside0.mk (Kd.S_elder' (zs HO_10.out) (Kd.S_base ho0) hb); have n1_ := Aside0.mk (Kd.S_elder' (zs HO_11.out) (Kd.S_base ho0) hb); have n2_ := Aside0.mk (Kd.S_elder' (zs HO_12.out) (Kd.S_base ho0) hb); have n3_ := Aside0.mk (Kd.R_below (zr HL367_1.out) hb); have n4_ := Aside0.mk (Kd.R_below (zr HL367_2.out) hb); have n5_ := Aside0.mk (Kd.R_below (zr HL367_3.out) hb); have n6_ := Aside0.mk (Kd.V_elder' (zv HO371.out) (Kd.S_base ho0) hb); have n7_ := Aside0.mk (Kd.V_elder' (zv HO374.out) (Kd.S_base ho0) hb); have n8_ := Aside0.mk (Kd.S_lower (Kd.S_new' (Kd.S_new' (Kd.S_new' (Kd.S_new' (Kd.S_new' (Kd.S_new' ho0 (Kd.S_lt (zs HO_10.out))) (Kd.S_lt (zs HO_11.out))) (Kd.S_lt (zs HO_12.out))) (Kd.R_lt (zr HL367_1.out))) (Kd.R_lt (zr HL367_2.out))) (Kd.R_lt (zr HL367_3.out))) (below_size J0)); have n9_ := Aside0.mk (below_step J0 hb); clear HO_10; clear HO_11; clear HO_12; clear HL367_1; clear HL367_2; clear HL367_3; clear HO371; clear HO374; clear HB; have HO_10 := n0_; have HO_11 := n1_; have HO_12 := n2_; have HL367_1 := n3_; have HL367_2 := n4_; have HL367_3 := n5_; have HO371 := n6_; have HO374 := n7_; have HO378 := n8_; have HB := n9_; clear n0_ n1_ n2_ n3_ n4_ n5_ n6_ n7_ n8_ n9_; (try clear hb); (try clear hb2); (try clear hk); (try clear hi); (try clear ho0); obtain ⟨Ao61, co61, eo61⟩ := Kd.S_slice HO378.out; subst eo61) | (go_at_call 24; (with_reducible refine (array_Same.calls kj15 _ _ l0 _ _ t376 true _ ?side1 ?side2 ?side3 ?side4 A38.out).mono ?_); (case side1 => repeat (first | exact (Kd.C_below HR0.out HB.out) | (with_reducible refine Kd.C_alloc ?_ _) | (with_reducible refine Kd.C_drewN ?_ _) | (with_reducible refine Kd.C_drew ?_))); (case side2 => exact HC0.out); (case side3 => repeat (first | exact (Kd.S_reads' HO378.out).2.2 | (with_reducible refine Kd.C_alloc ?_ _) | (with_reducible refine Kd.C_drewN ?_ _) | (with_reducible refine Kd.C_drew ?_))); (case side4 => exact (Kd.S_reads' HO378.out).2.1); rintro e w62 ⟨rfl, hb⟩; have n0_ := Aside0.mk (Kd.S_below (zs HO_10.out) hb); have n1_ := Aside0.mk (Kd.S_below (zs HO_11.out) hb); have n2_ := Aside0.mk (Kd.S_below (zs HO_12.out) hb); have n3_ := Aside0.mk (Kd.R_below (zr HL367_1.out) hb); have n4_ := Aside0.mk (Kd.R_below (zr HL367_2.out) hb); have n5_ := Aside0.mk (Kd.R_below (zr HL367_3.out) hb); have n6_ := Aside0.mk (Kd.V_below (zv HO371.out) hb); have n7_ := Aside0.mk (Kd.V_below (zv HO374.out) hb); have n8_ := Aside0.mk (Kd.S_below (zs HO378.out) hb); have n9_ := Aside0.mk (below_step J0 hb); clear HO_10; clear HO_11; clear HO_12; clear HL367_1; clear HL367_2; clear HL367_3; clear HO371; clear HO374; clear HO378; clear HB; have HO_10 := n0_; have HO_11 := n1_; have HO_12 := n2_; have HL367_1 := n3_; have HL367_2 := n4_; have HL367_3 := n5_; have HO371 := n6_; have HO374 := n7_; have HO378 := n8_; have HB := n9_; clear n0_ n1_ n2_ n3_ n4_ n5_ n6_ n7_ n8_ n9_; (try clear hb); (try clear hb2); (try clear hk); (try clear hi)) | (go_at_call 24; (with_reducible refine (array_Same.calls kj15 _ _ l0 _ _ l1 t380 _ ?side1 ?side2 ?side3 ?side4 A40.out).mono ?_); (case side1 => repeat (first | exact (Kd.C_below HR0.out HB.out) | (with_reducible refine Kd.C_alloc ?_ _) | (with_reducible refine Kd.C_drewN ?_ _) | (with_reducible refine Kd.C_drew ?_))); (case side2 => exact HC0.out); (case side3 => repeat (first | exact (Kd.C_below HR1.out HB.out) | (with_reducible refine Kd.C_alloc ?_ _) | (with_reducible refine Kd.C_drewN ?_ _) | (with_reducible refine Kd.C_drew ?_))); (case side4 => exact HC1.out); rintro e w63 ⟨rfl, hb⟩; have n0_ := Aside0.mk (Kd.S_below (zs HO_10.out) hb); have n1_ := Aside0.mk (Kd.S_below (zs HO_11.out) hb); have n2_ := Aside0.mk (Kd.S_below (zs HO_12.out) hb); have n3_ := Aside0.mk (Kd.R_below (zr HL367_1.out) hb); have n4_ := Aside0.mk (Kd.R_below (zr HL367_2.out) hb); have n5_ := Aside0.mk (Kd.R_below (zr HL367_3.out) hb); have n6_ := Aside0.mk (Kd.V_below (zv HO371.out) hb); have n7_ := Aside0.mk (Kd.V_below (zv HO374.out) hb); have n8_ := Aside0.mk (Kd.S_below (zs HO378.out) hb); have n9_ := Aside0.mk (below_step J0 hb); clear HO_10; clear HO_11; clear HO_12; clear HL367_1; clear HL367_2; clear HL367_3; clear HO371; clear HO374; clear HO378; clear HB; have HO_10 := n0_; have HO_11 := n1_; have HO_12 := n2_; have HL367_1 := n3_; have HL367_2 := n4_; have HL367_3 := n5_; have HO371 := n6_; have HO374 := n7_; have HO378 := n8_; have HB := n9_; clear n0_ n1_ n2_ n3_ n4_ n5_ n6_ n7_ n8_ n9_; (try clear hb); (try clear hb2); (try clear hk); (try clear hi)) | (go_at_call 24; (with_reducible refine (array_Same.calls kj15 _ _ l1 _ _ l0 t381 _ ?side1 ?side2 ?side3 ?side4 A41.out).mono ?_); (case side1 => repeat (first | exact (Kd.C_below HR1.out HB.out) | (with_reducible refine Kd.C_alloc ?_ _) | (with_reducible refine Kd.C_drewN ?_ _) | (with_reducible refine Kd.C_drew ?_))); (case side2 => exact HC1.out); (case side3 => repeat (first | exact (Kd.C_below HR0.out HB.out) | (with_reducible refine Kd.C_alloc ?_ _) | (with_reducible refine Kd.C_drewN ?_ _) | (with_reducible refine Kd.C_drew ?_))); (case side4 => exact HC0.out); rintro e w64 ⟨rfl, hb⟩; have n0_ := Aside0.mk (Kd.S_below (zs HO_10.out) hb); have n1_ := Aside0.mk (Kd.S_below (zs HO_11.out) hb); have n2_ := Aside0.mk (Kd.S_below (zs HO_12.out) hb); have n3_ := Aside0.mk (Kd.R_below (zr HL367_1.out) hb); have n4_ := Aside0.mk (Kd.R_below (zr HL367_2.out) hb); have n5_ := Aside0.mk (Kd.R_below (zr HL367_3.out) hb); have n6_ := Aside0.mk (Kd.V_below (zv HO371.out) hb); have n7_ := Aside0.mk (Kd.V_below (zv HO374.out) hb); have n8_ := Aside0.mk (Kd.S_below (zs HO378.out) hb); have n9_ := Aside0.mk (below_step J0 hb); clear HO_10; clear HO_11; clear HO_12; clear HL367_1; clear HL367_2; clear HL367_3; clear HO371; clear HO374; clear HO378; clear HB; have HO_10 := n0_; have HO_11 := n1_; have HO_12 := n2_; have HL367_1 := n3_; have HL367_2 := n4_; have HL367_3 := n5_; have HO371 := n6_; have HO374 := n7_; have HO378 := n8_; have HB := n9_; clear n0_ n1_ n2_ n3_ n4_ n5_ n6_ n7_ n8_ n9_; (try clear hb); (try clear hb2); (try clear hk); (try clear hi)) | (go_at_call 24; refine calls_of_args (args' := #[.slice A0 l0.length c0, .slice (some ⟨go31, 0, none⟩) y368.length co52]) (by first | (rw [show y368.length = t358.length from (Kd.S_reads' HO_10.out).1.symm] <;> rfl) | rfl) ?_; (with_reducible refine (array_Same.calls kj15 _ _ l0 _ _ y368 false _ ?side1 ?side2 ?side3 ?side4 A43.out).mono ?_); (case side1 => repeat (first | exact (Kd.C_below HR0.out HB.out) | (with_reducible refine Kd.C_alloc ?_ _) | (with_reducible refine Kd.C_drewN ?_ _) | (with_reducible refine Kd.C_drew ?_))); (case side2 => exact HC0.out); (case side3 => repeat (first | exact (Kd.S_reads' HO_10.out).2.2 | (with_reducible refine Kd.C_alloc ?_ _) | (with_reducible refine Kd.C_drewN ?_ _) | (with_reducible refine Kd.C_drew ?_))); (case side4 => rw [show y368.length = t358.length from (Kd.S_reads' HO_10.out).1.symm]; exact (Kd.S_reads' HO_10.out).2.1); rintro e w65 ⟨rfl, hb⟩; have n0_ := Aside0.mk (Kd.S_below (zs HO_10.out) hb); have n1_ := Aside0.mk (Kd.S_below (zs HO_11.out) hb); have n2_ := Aside0.mk (Kd.S_below (zs HO_12.out) hb); have n3_ := Aside0.mk (Kd.R_below (zr HL367_1.out) hb); have n4_ := Aside0.mk (Kd.R_below (zr HL367_2.out) hb); have n5_ := Aside0.mk (Kd.R_below (zr HL367_3.out) hb); have n6_ := Aside0.mk (Kd.V_below (zv HO371.out) hb); have n7_ := Aside0.mk (Kd.V_below (zv HO374.out) hb); have n8_ := Aside0.mk (Kd.S_below (zs HO378.out) hb); have n9_ := Aside0.mk (below_step J0 hb); clear HO_10; clear HO_11; clear HO_12; clear HL367_1; clear HL367_2; clear HL367_3; clear HO371; clear HO374; clear HO378; clear HB; have HO_10 := n0_; have HO_11 := n1_; have HO_12 := n2_; have HL367_1 := n3_; have HL367_2 := n4_; have HL367_3 := n5_; have HO371 := n6_; have HO374 := n7_; have HO378 := n8_; have HB := n9_; clear n0_ n1_ n2_ n3_ n4_ n5_ n6_ n7_ n8_ n9_; (try clear hb); (try clear hb2); (try clear hk); (try clear hi)) | (go_at_call 24; refine calls_of_args (args' := #[.slice (some ⟨gy12, 0, none⟩) t369.length co55, .slice A0 l0.length c0]) (by first | (rw [HLY.out] <;> rfl) | rfl) ?_; (with_reducible refine (array_Same.calls kj15 _ _ t369 _ _ l0 false _ ?side1 ?side2 ?side3 ?side4 A45.out).mono ?_); (case side1 => repeat (first | exact (Kd.V_reads' HO371.out).2.2 | (with_reducible refine Kd.C_alloc ?_ _) | (with_reducible refine Kd.C_drewN ?_ _) | (with_reducible refine Kd.C_drew ?_))); (case side2 => rw [HLY.out]; exact (Kd.V_reads' HO371.out).2.1); (case side3 => repeat (first | exact (Kd.C_below HR0.out HB.out) | (with_reducible refine Kd.C_alloc ?_ _) | (with_reducible refine Kd.C_drewN ?_ _) | (with_reducible refine Kd.C_drew ?_))); (case side4 => exact HC0.out); rintro e w67 ⟨rfl, hb⟩; have n0_ := Aside0.mk (Kd.S_below (zs HO_10.out) hb); have n1_ := Aside0.mk (Kd.S_below (zs HO_11.out) hb); have n2_ := Aside0.mk (Kd.S_below (zs HO_12.out) hb); have n3_ := Aside0.mk (Kd.R_below (zr HL367_1.out) hb); have n4_ := Aside0.mk (Kd.R_below (zr HL367_2.out) hb); have n5_ := Aside0.mk (Kd.R_below (zr HL367_3.out) hb); have n6_ := Aside0.mk (Kd.V_below (zv HO371.out) hb); have n7_ := Aside0.mk (Kd.V_below (zv HO374.out) hb); have n8_ := Aside0.mk (Kd.S_below (zs HO378.out) hb); have n9_ := Aside0.mk (below_step J0 hb); clear HO_10; clear HO_11; clear HO_12; clear HL367_1; clear HL367_2; clear HL367_3; clear HO371; clear HO374; clear HO378; clear HB; have HO_10 := n0_; have HO_11 := n1_; have HO_12 := n2_; have HL367_1 := n3_; have HL367_2 := n4_; have HL367_3 := n5_; have HO371 := n6_; have HO374 := n7_; have HO378 := n8_; have HB := n9_; clear n0_ n1_ n2_ n3_ n4_ n5_ n6_ n7_ n8_ n9_; (try clear hb); (try clear hb2); (try clear hk); (try clear hi)) | (go_at_call 24; refine calls_of_args (args' := #[.slice A0 l0.length c0, .slice (some ⟨gy13, 0, none⟩) t372.length co57]) (by first | (rw [HLZ.out] <;> rfl) | rfl) ?_; (with_reducible refine (array_Same.calls kj15 _ _ l0 _ _ t372 false _ ?side1 ?side2 ?side3 ?side4 A47.out).mono ?_); (case side1 => repeat (first | exact (Kd.C_below HR0.out HB.out) | (with_reducible refine Kd.C_alloc ?_ _) | (with_reducible refine Kd.C_drewN ?_ _) | (with_reducible refine Kd.C_drew ?_))); (case side2 => exact HC0.out); (case side3 => repeat (first | exact (Kd.V_reads' HO374.out).2.2 | (with_reducible refine Kd.C_alloc ?_ _) | (with_reducible refine Kd.C_drewN ?_ _) | (with_reducible refine Kd.C_drew ?_))); (case side4 => rw [HLZ.out]; exact (Kd.V_reads' HO374.out).2.1); rintro e w69 ⟨rfl, hb⟩; have n0_ := Aside0.mk (Kd.S_below (zs HO_10.out) hb); have n1_ := Aside0.mk (Kd.S_below (zs HO_11.out) hb); have n2_ := Aside0.mk (Kd.S_below (zs HO_12.out) hb); have n3_ := Aside0.mk (Kd.R_below (zr HL367_1.out) hb); have n4_ := Aside0.mk (Kd.R_below (zr HL367_2.out) hb); have n5_ := Aside0.mk (Kd.R_below (zr HL367_3.out) hb); have n6_ := Aside0.mk (Kd.V_below (zv HO371.out) hb); have n7_ := Aside0.mk (Kd.V_below (zv HO374.out) hb); have n8_ := Aside0.mk (Kd.S_below (zs HO378.out) hb); have n9_ := Aside0.mk (below_step J0 hb); clear HO_10; clear HO_11; clear HO_12; clear HL367_1; clear HL367_2; clear HL367_3; clear HO371; clear HO374; clear HO378; clear HB; have HO_10 := n0_; have HO_11 := n1_; have HO_12 := n2_; have HL367_1 := n3_; have HL367_2 := n4_; have HL367_3 := n5_; have HO371 := n6_; have HO374 := n7_; have HO378 := n8_; have HB := n9_; clear n0_ n1_ n2_ n3_ n4_ n5_ n6_ n7_ n8_ n9_; (try clear hb); (try clear hb2); (try clear hk); (try clear hi); have q70 : (a2 : Int) ≤ ((l0.length : Int) : Int) := of_decide_eq_true J2; obtain ⟨i070, hi070, _, hsz70, _⟩ := info_parts info32; have hroom70 : l0.length ≤ c0 := HC0.out; have hC70 : Kd.C k32 _ A0 l0.length l0 := HR0.out; have hcut70 := cut_to (P := Try.prog) 22 32 .i64 Try.underlying22 hi070 A0 l0.length c0 a2 (of_decide_eq_true J2) q70 hroom70; have hr70 := Kd.C_take (m := (a2 : Int).toNat) hC70 J28; have hy70 : y385.length = (a2 : Int).toNat := (by rw [Ny385.out, List.length_take]; omega); rw [← Ny385.out] at hr70; rw [← hy70] at hcut70; have HR388 := Aside0.mk hr70; have HC388 := Aside0.mk (show y385.length ≤ c0 from by omega); clear hr70 hC70 hroom70 hi070 hsz70; have KY70 := Aside0.mk hy70; clear hy70; replace q70 := eq_true q70) | (go_at_call 24; (with_reducible refine (array_Same.calls kj15 _ _ l0 _ _ y385 t389 _ ?side1 ?side2 ?side3 ?side4 A51.out).mono ?_); (case side1 => repeat (first | exact (Kd.C_below HR0.out HB.out) | (with_reducible refine Kd.C_alloc ?_ _) | (with_reducible refine Kd.C_drewN ?_ _) | (with_reducible refine Kd.C_drew ?_))); (case side2 => exact HC0.out); (case side3 => repeat (first | exact (Kd.C_below HR388.out HB.out) | (with_reducible refine Kd.C_alloc ?_ _) | (with_reducible refine Kd.C_drewN ?_ _) | (with_reducible refine Kd.C_drew ?_))); (case side4 => exact HC388.out); rintro e w71 ⟨rfl, hb⟩; have n0_ := Aside0.mk (Kd.S_below (zs HO_10.out) hb); have n1_ := Aside0.mk (Kd.S_below (zs HO_11.out) hb); have n2_ := Aside0.mk (Kd.S_below (zs HO_12.out) hb); have n3_ := Aside0.mk (Kd.R_below (zr HL367_1.out) hb); have n4_ := Aside0.mk (Kd.R_below (zr HL367_2.out) hb); have n5_ := Aside0.mk (Kd.R_below (zr HL367_3.out) hb); have n6_ := Aside0.mk (Kd.V_below (zv HO371.out) hb); have n7_ := Aside0.mk (Kd.V_below (zv HO374.out) hb); have n8_ := Aside0.mk (Kd.S_below (zs HO378.out) hb); have n9_ := Aside0.mk (below_step J0 hb); clear HO_10; clear HO_11; clear HO_12; clear HL367_1; clear HL367_2; clear HL367_3; clear HO371; clear HO374; clear HO378; clear HB; have HO_10 := n0_; have HO_11 := n1_; have HO_12 := n2_; have HL367_1 := n3_; have HL367_2 := n4_; have HL367_3 := n5_; have HO371 := n6_; have HO374 := n7_; have HO378 := n8_; have HB := n9_; clear n0_ n1_ n2_ n3_ n4_ n5_ n6_ n7_ n8_ n9_; (try clear hb); (try clear hb2); (try clear hk); (try clear hi)))
          go_ret
          exact ⟨J4, J0⟩
end Go.Proofs.Ytgbmbcippldhnaa.HArraySame
