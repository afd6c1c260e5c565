/- What the Go functions of this claim answer, told as functions of numbers and lists, and that other memory stays as it was: words and walks, shortened by a program. -/
import Derived.Test.YtfjhiiaahbjaiaaDoorSSystemSignsx0
import Derived.Test.YtfjhiiaahbjaiaaDoorSSystemSignsx7
import Derived.Test.YtfjhiiaahbjaiaaDoorSSystemSignsx15
import Derived.Test.YtfjhiiaahbjaiaaDoorSSystemSignsx17
import Derived.Test.YtfjhiiaahbjaiaaDoorSSystemSignsx19
namespace Go.Proofs.YtfjhiiaahbjaiaaDoor.HSystemSigns
open Go.RowKit Go.Proofs.YtfjhiiaahbjaiaaDoorW.PrintWords Go.Proofs.YtfjhiiaahbjaiaaDoorW.PrintLast Go.Proofs.YtfjhiiaahbjaiaaDoorW.PrintMore
attribute [local go_sem] max2_int min2_int max_two min_two max_three min_three max_four min_four
set_option linter.unusedVariables false
set_option linter.unusedSimpArgs false
def decklelaw17_small.f (k : Nat)  : Option (Bool) := (system_Default.f k (⟨#[226, 142, 149, 80, 80]⟩ : ByteArray)).bind fun bt544 => ((system_Default.f k (⟨#[80, 80]⟩ : ByteArray)).bind fun bt548 => ((system_Default.f k (⟨#[226, 142, 149, 67, 84]⟩ : ByteArray)).bind fun bt552 => ((some (([(⟨3, ([] : List Int), (([97] : List Int)), ([] : List (S40))⟩ : S32)] : List (S32)) : List (S32))).bind fun y559 => (if bt544.2 = true then ((decklelaw17_of.f k 10).bind fun t562 => ((deckleref10_Same.f k bt544.1 t562).bind fun t565 => (if t565 = true then (if bt548.2 = true then (none) else (if bt552.2 = true then ((deckleref10_Same.f k bt552.1 (([(⟨4, ([] : List Int), ([] : List Int), (([(⟨1, (-13)⟩ : S40)] : List (S40)))⟩ : S32)] : List (S32)))).bind fun t572 => (if t572 = true then ((decklelaw17_of.f k 0).bind fun t573 => ((system_Right.f k (⟨#[226, 142, 149, 73, 79]⟩ : ByteArray) t573).bind fun t576 => (if t576 = true then ((decklelaw17_of.f k 2).bind fun t577 => ((system_Right.f k (⟨#[226, 142, 149, 73, 79]⟩ : ByteArray) t577).bind fun t580 => (if t580 = true then (none) else ((system_Right.f k (⟨#[226, 142, 149, 73, 79]⟩ : ByteArray) (([(⟨2, ([] : List Int), (([1] : List Int)), ([] : List (S40))⟩ : S32)] : List (S32)))).bind fun t587 => (if t587 = true then (none) else ((decklelaw17_of.f k 0).bind fun t588 => ((system_Right.f k (⟨#[226, 142, 149, 67, 84]⟩ : ByteArray) t588).bind fun t591 => (if t591 = true then ((decklelaw17_of.f k 1).bind fun t592 => ((system_Right.f k (⟨#[226, 142, 149, 67, 84]⟩ : ByteArray) t592).bind fun t595 => (if t595 = true then (none) else ((system_Right.f k (⟨#[226, 142, 149, 76, 88]⟩ : ByteArray) y559).bind fun t596 => (if t596 = true then ((system_Right.f k (⟨#[226, 142, 149, 80, 80]⟩ : ByteArray) y559).bind fun t597 => (if t597 = true then (none) else ((decklelaw17_of.f k 29).bind fun t598 => ((system_Right.f k (⟨#[226, 142, 149, 80, 87]⟩ : ByteArray) t598).bind fun t601 => (if t601 = true then (none) else ((decklelaw17_of.f k 2147483646).bind fun t602 => ((system_Right.f k (⟨#[226, 142, 149, 82, 76]⟩ : ByteArray) t602).bind fun t605 => (if t605 = true then ((decklelaw17_of.f k 0).bind fun t606 => ((system_Right.f k (⟨#[226, 142, 149, 82, 76]⟩ : ByteArray) t606).bind fun t609 => (if t609 = true then (none) else ((decklelaw17_of.f k 1).bind fun t610 => ((system_Right.f k (⟨#[65]⟩ : ByteArray) t610).bind fun t613 => (if t613 = true then (none) else ((system_Names.f).bind fun t614 => ((deckleref16_Same.f k t614 (([(⟨#[226, 142, 149, 67, 84]⟩ : ByteArray), (⟨#[226, 142, 149, 73, 79]⟩ : ByteArray), (⟨#[226, 142, 149, 76, 88]⟩ : ByteArray), (⟨#[226, 142, 149, 80, 80]⟩ : ByteArray), (⟨#[226, 142, 149, 80, 87]⟩ : ByteArray), (⟨#[226, 142, 149, 82, 76]⟩ : ByteArray)] : List ByteArray))).bind fun t620 => (some t620))))))))) else (none))))))))) else (none)))))) else (none))))))))) else (none)))) else (none))) else (none))) else (none)))) else (none)))))
theorem decklelaw17_small.mono : ∀ k, LeO (decklelaw17_small.f k ) (decklelaw17_small.f (k + 1) ) := by
  intro  k
  unfold decklelaw17_small.f
  have im0 := @decklelaw17_of.mono
  have im1 := @deckleref10_Same.mono
  have im2 := @deckleref16_Same.mono
  have im3 := @system_Default.mono
  have im4 := @system_Right.mono
  exact mz5
set_option maxHeartbeats 8000000 in
set_option maxRecDepth 100000 in
theorem decklelaw17_small.calls (k : Nat)  (r : Bool) (w : World) (h : decklelaw17_small.f k  = some r) :
    Calls Tryd.prog 6 #[] w fun e w' => e = .returned (.bool r) ∧ Below w.heap.size w w' := by
  have hu32 := Tryd.underlying32
  have hu40 := Tryd.underlying40
  have HB := zq (Below.refl w.heap.size w)
  have H : ((system_Default.f k (⟨#[226, 142, 149, 80, 80]⟩ : ByteArray)).bind fun bt544 => ((system_Default.f k (⟨#[80, 80]⟩ : ByteArray)).bind fun bt548 => ((system_Default.f k (⟨#[226, 142, 149, 67, 84]⟩ : ByteArray)).bind fun bt552 => ((some (([(⟨3, ([] : List Int), (([97] : List Int)), ([] : List (S40))⟩ : S32)] : List (S32)) : List (S32))).bind fun y559 => (if bt544.2 = true then ((decklelaw17_of.f k 10).bind fun t562 => ((deckleref10_Same.f k bt544.1 t562).bind fun t565 => (if t565 = true then (if bt548.2 = true then (none) else (if bt552.2 = true then ((deckleref10_Same.f k bt552.1 (([(⟨4, ([] : List Int), ([] : List Int), (([(⟨1, (-13)⟩ : S40)] : List (S40)))⟩ : S32)] : List (S32)))).bind fun t572 => (if t572 = true then ((decklelaw17_of.f k 0).bind fun t573 => ((system_Right.f k (⟨#[226, 142, 149, 73, 79]⟩ : ByteArray) t573).bind fun t576 => (if t576 = true then ((decklelaw17_of.f k 2).bind fun t577 => ((system_Right.f k (⟨#[226, 142, 149, 73, 79]⟩ : ByteArray) t577).bind fun t580 => (if t580 = true then (none) else ((system_Right.f k (⟨#[226, 142, 149, 73, 79]⟩ : ByteArray) (([(⟨2, ([] : List Int), (([1] : List Int)), ([] : List (S40))⟩ : S32)] : List (S32)))).bind fun t587 => (if t587 = true then (none) else ((decklelaw17_of.f k 0).bind fun t588 => ((system_Right.f k (⟨#[226, 142, 149, 67, 84]⟩ : ByteArray) t588).bind fun t591 => (if t591 = true then ((decklelaw17_of.f k 1).bind fun t592 => ((system_Right.f k (⟨#[226, 142, 149, 67, 84]⟩ : ByteArray) t592).bind fun t595 => (if t595 = true then (none) else ((system_Right.f k (⟨#[226, 142, 149, 76, 88]⟩ : ByteArray) y559).bind fun t596 => (if t596 = true then ((system_Right.f k (⟨#[226, 142, 149, 80, 80]⟩ : ByteArray) y559).bind fun t597 => (if t597 = true then (none) else ((decklelaw17_of.f k 29).bind fun t598 => ((system_Right.f k (⟨#[226, 142, 149, 80, 87]⟩ : ByteArray) t598).bind fun t601 => (if t601 = true then (none) else ((decklelaw17_of.f k 2147483646).bind fun t602 => ((system_Right.f k (⟨#[226, 142, 149, 82, 76]⟩ : ByteArray) t602).bind fun t605 => (if t605 = true then ((decklelaw17_of.f k 0).bind fun t606 => ((system_Right.f k (⟨#[226, 142, 149, 82, 76]⟩ : ByteArray) t606).bind fun t609 => (if t609 = true then (none) else ((decklelaw17_of.f k 1).bind fun t610 => ((system_Right.f k (⟨#[65]⟩ : ByteArray) t610).bind fun t613 => (if t613 = true then (none) else ((system_Names.f).bind fun t614 => ((deckleref16_Same.f k t614 (([(⟨#[226, 142, 149, 67, 84]⟩ : ByteArray), (⟨#[226, 142, 149, 73, 79]⟩ : ByteArray), (⟨#[226, 142, 149, 76, 88]⟩ : ByteArray), (⟨#[226, 142, 149, 80, 80]⟩ : ByteArray), (⟨#[226, 142, 149, 80, 87]⟩ : ByteArray), (⟨#[226, 142, 149, 82, 76]⟩ : ByteArray)] : List ByteArray))).bind fun t620 => (some t620))))))))) else (none))))))))) else (none)))))) else (none))))))))) else (none)))) else (none))) else (none))) else (none)))) else (none)))))) = some r := h
  clear h
  replace H := Option.bind_eq_some_iff.mp H
  obtain ⟨⟨t544, t547⟩, A10, H⟩ := H
  dsimp only at H
  have A1 := zq A10
  clear A10
  replace H := Option.bind_eq_some_iff.mp H
  obtain ⟨⟨t548, t551⟩, A20, H⟩ := H
  dsimp only at H
  have A2 := zq A20
  clear A20
  replace H := Option.bind_eq_some_iff.mp H
  obtain ⟨⟨t552, t555⟩, A30, H⟩ := H
  dsimp only at H
  have A3 := zq A30
  clear A30
  obtain ⟨y556, hy556⟩ : ∃ y_ : List Int, y_ = (([97] : List Int)) := ⟨_, rfl⟩
  rw (occs := .pos [1]) [← hy556] at H
  have Ny556 := zq hy556
  clear hy556
  obtain ⟨y559, hy559⟩ : ∃ y_ : List (S32), y_ = (([(⟨3, ([] : List Int), y556, ([] : List (S40))⟩ : S32)] : List (S32))) := ⟨_, rfl⟩
  replace H : (if t547 = true then ((decklelaw17_of.f k 10).bind fun t562 => ((deckleref10_Same.f k t544 t562).bind fun t565 => (if t565 = true then (if t551 = true then (none) else (if t555 = true then ((deckleref10_Same.f k t552 (([(⟨4, ([] : List Int), ([] : List Int), (([(⟨1, (-13)⟩ : S40)] : List (S40)))⟩ : S32)] : List (S32)))).bind fun t572 => (if t572 = true then ((decklelaw17_of.f k 0).bind fun t573 => ((system_Right.f k (⟨#[226, 142, 149, 73, 79]⟩ : ByteArray) t573).bind fun t576 => (if t576 = true then ((decklelaw17_of.f k 2).bind fun t577 => ((system_Right.f k (⟨#[226, 142, 149, 73, 79]⟩ : ByteArray) t577).bind fun t580 => (if t580 = true then (none) else ((system_Right.f k (⟨#[226, 142, 149, 73, 79]⟩ : ByteArray) (([(⟨2, ([] : List Int), (([1] : List Int)), ([] : List (S40))⟩ : S32)] : List (S32)))).bind fun t587 => (if t587 = true then (none) else ((decklelaw17_of.f k 0).bind fun t588 => ((system_Right.f k (⟨#[226, 142, 149, 67, 84]⟩ : ByteArray) t588).bind fun t591 => (if t591 = true then ((decklelaw17_of.f k 1).bind fun t592 => ((system_Right.f k (⟨#[226, 142, 149, 67, 84]⟩ : ByteArray) t592).bind fun t595 => (if t595 = true then (none) else ((system_Right.f k (⟨#[226, 142, 149, 76, 88]⟩ : ByteArray) y559).bind fun t596 => (if t596 = true then ((system_Right.f k (⟨#[226, 142, 149, 80, 80]⟩ : ByteArray) y559).bind fun t597 => (if t597 = true then (none) else ((decklelaw17_of.f k 29).bind fun t598 => ((system_Right.f k (⟨#[226, 142, 149, 80, 87]⟩ : ByteArray) t598).bind fun t601 => (if t601 = true then (none) else ((decklelaw17_of.f k 2147483646).bind fun t602 => ((system_Right.f k (⟨#[226, 142, 149, 82, 76]⟩ : ByteArray) t602).bind fun t605 => (if t605 = true then ((decklelaw17_of.f k 0).bind fun t606 => ((system_Right.f k (⟨#[226, 142, 149, 82, 76]⟩ : ByteArray) t606).bind fun t609 => (if t609 = true then (none) else ((decklelaw17_of.f k 1).bind fun t610 => ((system_Right.f k (⟨#[65]⟩ : ByteArray) t610).bind fun t613 => (if t613 = true then (none) else ((system_Names.f).bind fun t614 => ((deckleref16_Same.f k t614 (([(⟨#[226, 142, 149, 67, 84]⟩ : ByteArray), (⟨#[226, 142, 149, 73, 79]⟩ : ByteArray), (⟨#[226, 142, 149, 76, 88]⟩ : ByteArray), (⟨#[226, 142, 149, 80, 80]⟩ : ByteArray), (⟨#[226, 142, 149, 80, 87]⟩ : ByteArray), (⟨#[226, 142, 149, 82, 76]⟩ : ByteArray)] : List ByteArray))).bind fun t620 => (some t620))))))))) else (none))))))))) else (none)))))) else (none))))))))) else (none)))) else (none))) else (none))) else (none)))) else (none)) = some r := by first | (rw [hy559]; with_reducible exact H) | (have H2_ := (Option.bind_some _ _).symm.trans H; rw [hy559]; with_reducible exact H2_) | (have H2_ := (Option.bind_some _ _).symm.trans H; with_reducible exact H2_) | with_reducible exact H | (rw [hy559]; exact H) | exact H
  have Ny559 := zq hy559
  clear hy559
  by_cases c4 : t547 = true
  rotate_left
  · replace c4 := Bool.eq_false_iff.mpr c4
    subst c4
    rw [if_neg (show ¬ (false = true) by decide)] at H
    exact absurd H J33
  subst c4
  rw [if_pos rfl] at H
  replace H := Option.bind_eq_some_iff.mp H
  obtain ⟨t562, A50, H⟩ := H
  have A5 := zq A50
  clear A50
  replace H := Option.bind_eq_some_iff.mp H
  obtain ⟨t565, A60, H⟩ := H
  have A6 := zq A60
  clear A60
  by_cases c7 : t565 = true
  rotate_left
  · replace c7 := Bool.eq_false_iff.mpr c7
    subst c7
    rw [if_neg (show ¬ (false = true) by decide)] at H
    exact absurd H J33
  subst c7
  rw [if_pos rfl] at H
  by_cases c8 : t551 = true
  · subst c8
    rw [if_pos rfl] at H
    exact absurd H J33
  replace c8 := Bool.eq_false_iff.mpr c8
  subst c8
  rw [if_neg (show ¬ (false = true) by decide)] at H
  by_cases c9 : t555 = true
  rotate_left
  · replace c9 := Bool.eq_false_iff.mpr c9
    subst c9
    rw [if_neg (show ¬ (false = true) by decide)] at H
    exact absurd H J33
  subst c9
  rw [if_pos rfl] at H
  obtain ⟨y566, hy566⟩ : ∃ y_ : List (S40), y_ = (([(⟨1, (-13)⟩ : S40)] : List (S40))) := ⟨_, rfl⟩
  rw (occs := .pos [1]) [← hy566] at H
  have Ny566 := zq hy566
  clear hy566
  obtain ⟨y569, hy569⟩ : ∃ y_ : List (S32), y_ = (([(⟨4, ([] : List Int), ([] : List Int), y566⟩ : S32)] : List (S32))) := ⟨_, rfl⟩
  rw (occs := .pos [1]) [← hy569] at H
  have Ny569 := zq hy569
  clear hy569
  replace H := Option.bind_eq_some_iff.mp H
  obtain ⟨t572, A100, H⟩ := H
  have A10 := zq A100
  clear A100
  by_cases c11 : t572 = true
  rotate_left
  · replace c11 := Bool.eq_false_iff.mpr c11
    subst c11
    rw [if_neg (show ¬ (false = true) by decide)] at H
    exact absurd H J33
  subst c11
  rw [if_pos rfl] at H
  replace H := Option.bind_eq_some_iff.mp H
  obtain ⟨t573, A120, H⟩ := H
  have A12 := zq A120
  clear A120
  replace H := Option.bind_eq_some_iff.mp H
  obtain ⟨t576, A130, H⟩ := H
  have A13 := zq A130
  clear A130
  by_cases c14 : t576 = true
  rotate_left
  · replace c14 := Bool.eq_false_iff.mpr c14
    subst c14
    rw [if_neg (show ¬ (false = true) by decide)] at H
    exact absurd H J33
  subst c14
  rw [if_pos rfl] at H
  replace H := Option.bind_eq_some_iff.mp H
  obtain ⟨t577, A150, H⟩ := H
  have A15 := zq A150
  clear A150
  replace H := Option.bind_eq_some_iff.mp H
  obtain ⟨t580, A160, H⟩ := H
  have A16 := zq A160
  clear A160
  by_cases c17 : t580 = true
  · subst c17
    rw [if_pos rfl] at H
    exact absurd H J33
  replace c17 := Bool.eq_false_iff.mpr c17
  subst c17
  rw [if_neg (show ¬ (false = true) by decide)] at H
  obtain ⟨y581, hy581⟩ : ∃ y_ : List Int, y_ = (([1] : List Int)) := ⟨_, rfl⟩
  rw (occs := .pos [1]) [← hy581] at H
  have Ny581 := zq hy581
  clear hy581
  obtain ⟨y584, hy584⟩ : ∃ y_ : List (S32), y_ = (([(⟨2, ([] : List Int), y581, ([] : List (S40))⟩ : S32)] : List (S32))) := ⟨_, rfl⟩
  rw (occs := .pos [1]) [← hy584] at H
  have Ny584 := zq hy584
  clear hy584
  replace H := Option.bind_eq_some_iff.mp H
  obtain ⟨t587, A180, H⟩ := H
  have A18 := zq A180
  clear A180
  by_cases c19 : t587 = true
  · subst c19
    rw [if_pos rfl] at H
    exact absurd H J33
  replace c19 := Bool.eq_false_iff.mpr c19
  subst c19
  rw [if_neg (show ¬ (false = true) by decide)] at H
  replace H := Option.bind_eq_some_iff.mp H
  obtain ⟨t588, A200, H⟩ := H
  have A20 := zq A200
  clear A200
  replace H := Option.bind_eq_some_iff.mp H
  obtain ⟨t591, A210, H⟩ := H
  have A21 := zq A210
  clear A210
  by_cases c22 : t591 = true
  rotate_left
  · replace c22 := Bool.eq_false_iff.mpr c22
    subst c22
    rw [if_neg (show ¬ (false = true) by decide)] at H
    exact absurd H J33
  subst c22
  rw [if_pos rfl] at H
  replace H := Option.bind_eq_some_iff.mp H
  obtain ⟨t592, A230, H⟩ := H
  have A23 := zq A230
  clear A230
  replace H := Option.bind_eq_some_iff.mp H
  obtain ⟨t595, A240, H⟩ := H
  have A24 := zq A240
  clear A240
  by_cases c25 : t595 = true
  · subst c25
    rw [if_pos rfl] at H
    exact absurd H J33
  replace c25 := Bool.eq_false_iff.mpr c25
  subst c25
  rw [if_neg (show ¬ (false = true) by decide)] at H
  replace H := Option.bind_eq_some_iff.mp H
  obtain ⟨t596, A260, H⟩ := H
  have A26 := zq A260
  clear A260
  by_cases c27 : t596 = true
  rotate_left
  · replace c27 := Bool.eq_false_iff.mpr c27
    subst c27
    rw [if_neg (show ¬ (false = true) by decide)] at H
    exact absurd H J33
  subst c27
  rw [if_pos rfl] at H
  replace H := Option.bind_eq_some_iff.mp H
  obtain ⟨t597, A280, H⟩ := H
  have A28 := zq A280
  clear A280
  by_cases c29 : t597 = true
  · subst c29
    rw [if_pos rfl] at H
    exact absurd H J33
  replace c29 := Bool.eq_false_iff.mpr c29
  subst c29
  rw [if_neg (show ¬ (false = true) by decide)] at H
  replace H := Option.bind_eq_some_iff.mp H
  obtain ⟨t598, A300, H⟩ := H
  have A30 := zq A300
  clear A300
  replace H := Option.bind_eq_some_iff.mp H
  obtain ⟨t601, A310, H⟩ := H
  have A31 := zq A310
  clear A310
  by_cases c32 : t601 = true
  · subst c32
    rw [if_pos rfl] at H
    exact absurd H J33
  replace c32 := Bool.eq_false_iff.mpr c32
  subst c32
  rw [if_neg (show ¬ (false = true) by decide)] at H
  replace H := Option.bind_eq_some_iff.mp H
  obtain ⟨t602, A330, H⟩ := H
  have A33 := zq A330
  clear A330
  replace H := Option.bind_eq_some_iff.mp H
  obtain ⟨t605, A340, H⟩ := H
  have A34 := zq A340
  clear A340
  by_cases c35 : t605 = true
  rotate_left
  · replace c35 := Bool.eq_false_iff.mpr c35
    subst c35
    rw [if_neg (show ¬ (false = true) by decide)] at H
    exact absurd H J33
  subst c35
  rw [if_pos rfl] at H
  replace H := Option.bind_eq_some_iff.mp H
  obtain ⟨t606, A360, H⟩ := H
  have A36 := zq A360
  clear A360
  replace H := Option.bind_eq_some_iff.mp H
  obtain ⟨t609, A370, H⟩ := H
  have A37 := zq A370
  clear A370
  by_cases c38 : t609 = true
  · subst c38
    rw [if_pos rfl] at H
    exact absurd H J33
  replace c38 := Bool.eq_false_iff.mpr c38
  subst c38
  rw [if_neg (show ¬ (false = true) by decide)] at H
  replace H := Option.bind_eq_some_iff.mp H
  obtain ⟨t610, A390, H⟩ := H
  have A39 := zq A390
  clear A390
  replace H := Option.bind_eq_some_iff.mp H
  obtain ⟨t613, A400, H⟩ := H
  have A40 := zq A400
  clear A400
  by_cases c41 : t613 = true
  · subst c41
    rw [if_pos rfl] at H
    exact absurd H J33
  replace c41 := Bool.eq_false_iff.mpr c41
  subst c41
  rw [if_neg (show ¬ (false = true) by decide)] at H
  replace H := Option.bind_eq_some_iff.mp H
  obtain ⟨t614, A420, H⟩ := H
  have A42 := zq A420
  clear A420
  obtain ⟨y617, hy617⟩ : ∃ y_ : List ByteArray, y_ = (([(⟨#[226, 142, 149, 67, 84]⟩ : ByteArray), (⟨#[226, 142, 149, 73, 79]⟩ : ByteArray), (⟨#[226, 142, 149, 76, 88]⟩ : ByteArray), (⟨#[226, 142, 149, 80, 80]⟩ : ByteArray), (⟨#[226, 142, 149, 80, 87]⟩ : ByteArray), (⟨#[226, 142, 149, 82, 76]⟩ : ByteArray)] : List ByteArray)) := ⟨_, rfl⟩
  rw (occs := .pos [1]) [← hy617] at H
  have Ny617 := zq hy617
  clear hy617
  replace H := Option.bind_eq_some_iff.mp H
  obtain ⟨t620, A430, H⟩ := H
  have A43 := zq A430
  clear A430
  obtain rfl := Option.some.inj H
  go_enter Tryd.func6, Tryd.ntmps6
  go_upto_region 5 with (first | ((with_reducible refine gate_callee (f := 12) rfl ?_); refine goesL_ (some 9) rfl rfl Tryd.func12 J8 rfl #[.string (⟨#[226, 142, 149, 80, 80]⟩ : ByteArray)] rfl J1 ?_; (with_reducible refine (system_Default.calls k (⟨#[226, 142, 149, 80, 80]⟩ : ByteArray) t544 true _ A1.out).mono ?_); rintro e w44 ⟨v545, rfl, ho0, hb⟩; refine ⟨_, rfl, ?_⟩; have HO546 := zq (Kd.N_lower (Kd.N_mono (ok' := fun _ => True) ho0 (fun _ _ => trivial)) (below_size J0)); replace HB := zq (below_step J0 hb); (try clear hb); (try clear hk); (try clear ho0)) | ((with_reducible refine gate_callee (f := 12) rfl ?_); refine goesL_ (some 13) rfl rfl Tryd.func12 J8 rfl #[.string (⟨#[80, 80]⟩ : ByteArray)] rfl J1 ?_; (with_reducible refine (system_Default.calls k (⟨#[80, 80]⟩ : ByteArray) t548 false _ A2.out).mono ?_); rintro e w45 ⟨v549, rfl, ho0, hb⟩; refine ⟨_, rfl, ?_⟩; replace HO546 := zq (Kd.N_elder' (zn HO546.out) (Kd.N_base ho0) hb); replace HB := zq (below_step J0 hb); (try clear hb); (try clear hk); (try clear ho0)) | ((with_reducible refine gate_callee (f := 12) rfl ?_); refine goesL_ (some 17) rfl rfl Tryd.func12 J8 rfl #[.string (⟨#[226, 142, 149, 67, 84]⟩ : ByteArray)] rfl J1 ?_; (with_reducible refine (system_Default.calls k (⟨#[226, 142, 149, 67, 84]⟩ : ByteArray) t552 true _ A3.out).mono ?_); rintro e w46 ⟨v553, rfl, ho0, hb⟩; refine ⟨_, rfl, ?_⟩; replace HO546 := zq (Kd.N_elder' (zn HO546.out) (Kd.N_base ho0) hb); have HO554 := zq (Kd.N_lower (Kd.N_mono (ok' := fun _ => True) ho0 (fun _ _ => trivial)) (below_size J0)); replace HB := zq (below_step J0 hb); (try clear hb); (try clear hk); (try clear ho0)) | ((with_reducible refine gate_dst (N := 20) rfl ?_); (try (refine gate_guard J90 ?_; dsimp only)); refine lwR (Kd.int .i64) 3 20 (xs := ([97] : List Int)) [.int .i64 97] Ny556 (Reps.one (show Kd.M (Kd.int .i64) _ _ _ 97 [.int .i64 97] from rfl) (Reps.none _ _)) ?_; intro v557 w47 ho48 hb; replace HO546 := zq (Kd.N_elder' (zn HO546.out) (Kd.R_base ho48) hb); replace HO554 := zq (Kd.N_elder' (zn HO554.out) (Kd.R_base ho48) hb); have HO558 := zq (Kd.R_lower ho48 (below_size J0)); replace HB := zq (below_step J0 hb); clear hb ho48; obtain ⟨Ao49, co49, eo49⟩ := Kd.R_slice HO558.out; subst eo49) | ((with_reducible refine gate_dst (N := 22) rfl ?_); (try (refine gate_guard J90 ?_; dsimp only)); refine lwN k32 32 22 (xs := ([(⟨3, ([] : List Int), y556, ([] : List (S40))⟩ : S32)] : List (S32))) [.int .i64 3, .slice none 0 0, .slice Ao49 y556.length co49, .slice none 0 0] Ny559 (Reps.c4 (show Kd.FK k32 _ _ (⟨3, ([] : List Int), y556, ([] : List (S40))⟩ : S32) [.int .i64 3, .slice none 0 0, .slice Ao49 y556.length co49, .slice none 0 0] from (k32_mkF _ _ (⟨3, ([] : List Int), y556, ([] : List (S40))⟩ : S32) (Nat.le_refl _) (Kd.F_nil _ _ _) (Kd.R_reads' (Kd.R_mono (ok' := fun _ => True) (HO558.out) (fun _ _ => trivial))).2.1 (Kd.R_F (Kd.R_mono (ok' := fun _ => True) (HO558.out) (fun _ _ => trivial))) (Nat.le_refl _) (Kd.F_nil _ _ _))) (Reps.none _ _)) ?_; intro v560 w50 ho51 hb; replace HO546 := zq (Kd.N_elder' (zn HO546.out) (Kd.N_base ho51) hb); replace HO554 := zq (Kd.N_elder' (zn HO554.out) (Kd.N_base ho51) hb); have HO561 := zq (Kd.N_lower ho51 (below_size J0)); replace HB := zq (below_step J0 hb); clear HO558; clear hb ho51))
  simp only [List.append]
  go_wp2_with (first | (go_at_call 7; (with_reducible refine (decklelaw17_of.calls k 10 t562 _ A5.out).mono ?_); rintro e w52 ⟨v563, rfl, ho0, hb⟩; replace HO546 := zq (Kd.N_elder' (zn HO546.out) (Kd.N_base ho0) hb); replace HO554 := zq (Kd.N_elder' (zn HO554.out) (Kd.N_base ho0) hb); replace HO561 := zq (Kd.N_elder' (zn HO561.out) (Kd.N_base ho0) hb); have HO564 := zq (Kd.N_lower (Kd.N_mono (ok' := fun _ => True) ho0 (fun _ _ => trivial)) (below_size J0)); replace HB := zq (below_step J0 hb); (try clear hb); (try clear hk); (try clear ho0); obtain ⟨Ao53, co53, eo53⟩ := Kd.N_slice HO546.out; subst eo53; obtain ⟨Ao54, co54, eo54⟩ := Kd.N_slice HO564.out; subst eo54; clear A5) | (go_at_call 14; (with_reducible refine (deckleref10_Same.calls k _ _ t544 _ _ t562 true _ ?side1 ?side2 ?side3 ?side4 A6.out).mono ?_); (case side1 => exact zc ((Kd.N_reads' HO546.out).2.2)); (case side2 => exact (Kd.N_reads' HO546.out).2.1); (case side3 => exact zc ((Kd.N_reads' HO564.out).2.2)); (case side4 => exact (Kd.N_reads' HO564.out).2.1); rintro e w55 ⟨rfl, hb⟩; replace HO554 := zq (Kd.N_below (zn HO554.out) hb); replace HO561 := zq (Kd.N_below (zn HO561.out) hb); replace HB := zq (below_step J0 hb); (try clear hb); (try clear hk)) | ((with_reducible refine gate_dst (N := 39) rfl ?_); (try (refine gate_guard J90 ?_; dsimp only)); refine lwR k40 40 39 (xs := ([(⟨1, (-13)⟩ : S40)] : List (S40))) [.int .i64 1, .int .i64 (-13)] Ny566 (Reps.c2 (show Kd.M k40 _ _ _ (⟨1, (-13)⟩ : S40) [.int .i64 1, .int .i64 (-13)] from (k40_mkM _ _ _ (⟨1, (-13)⟩ : S40) )) (Reps.none _ _)) ?_; intro v567 w56 ho57 hb; replace HO554 := zq (Kd.N_elder' (zn HO554.out) (Kd.R_base ho57) hb); replace HO561 := zq (Kd.N_elder' (zn HO561.out) (Kd.R_base ho57) hb); have HO568 := zq (Kd.R_lower ho57 (below_size J0)); replace HB := zq (below_step J0 hb); clear hb ho57; obtain ⟨Ao58, co58, eo58⟩ := Kd.R_slice HO568.out; subst eo58) | ((with_reducible refine gate_dst (N := 41) rfl ?_); (try (refine gate_guard J90 ?_; dsimp only)); refine lwN k32 32 41 (xs := ([(⟨4, ([] : List Int), ([] : List Int), y566⟩ : S32)] : List (S32))) [.int .i64 4, .slice none 0 0, .slice none 0 0, .slice Ao58 y566.length co58] Ny569 (Reps.c4 (show Kd.FK k32 _ _ (⟨4, ([] : List Int), ([] : List Int), y566⟩ : S32) [.int .i64 4, .slice none 0 0, .slice none 0 0, .slice Ao58 y566.length co58] from (k32_mkF _ _ (⟨4, ([] : List Int), ([] : List Int), y566⟩ : S32) (Nat.le_refl _) (Kd.F_nil _ _ _) (Nat.le_refl _) (Kd.F_nil _ _ _) (Kd.R_reads' (Kd.R_mono (ok' := fun _ => True) (HO568.out) (fun _ _ => trivial))).2.1 (Kd.R_F (Kd.R_mono (ok' := fun _ => True) (HO568.out) (fun _ _ => trivial))))) (Reps.none _ _)) ?_; intro v570 w59 ho60 hb; replace HO554 := zq (Kd.N_elder' (zn HO554.out) (Kd.N_base ho60) hb); replace HO561 := zq (Kd.N_elder' (zn HO561.out) (Kd.N_base ho60) hb); have HO571 := zq (Kd.N_lower ho60 (below_size J0)); replace HB := zq (below_step J0 hb); clear HO568; clear hb ho60; obtain ⟨Ao61, co61, eo61⟩ := Kd.N_slice HO554.out; subst eo61; obtain ⟨Ao62, co62, eo62⟩ := Kd.N_slice HO571.out; subst eo62) | (go_at_call 14; (with_reducible refine (deckleref10_Same.calls k _ _ t552 _ _ y569 true _ ?side1 ?side2 ?side3 ?side4 A10.out).mono ?_); (case side1 => exact zc ((Kd.N_reads' HO554.out).2.2)); (case side2 => exact (Kd.N_reads' HO554.out).2.1); (case side3 => exact zc ((Kd.N_reads' HO571.out).2.2)); (case side4 => exact (Kd.N_reads' HO571.out).2.1); rintro e w63 ⟨rfl, hb⟩; replace HO561 := zq (Kd.N_below (zn HO561.out) hb); replace HB := zq (below_step J0 hb); (try clear hb); (try clear hk)) | (go_at_call 7; (with_reducible refine (decklelaw17_of.calls k 0 t573 _ A12.out).mono ?_); rintro e w64 ⟨v574, rfl, ho0, hb⟩; replace HO561 := zq (Kd.N_elder' (zn HO561.out) (Kd.N_base ho0) hb); have HO575 := zq (Kd.N_lower (Kd.N_mono (ok' := fun _ => True) ho0 (fun _ _ => trivial)) (below_size J0)); replace HB := zq (below_step J0 hb); (try clear hb); (try clear hk); (try clear ho0); obtain ⟨Ao65, co65, eo65⟩ := Kd.N_slice HO575.out; subst eo65; clear A12) | (go_at_call 9; (with_reducible refine (system_Right.calls k (⟨#[226, 142, 149, 73, 79]⟩ : ByteArray) _ _ t573 true _ ?side1 ?side2 A13.out).mono ?_); (case side1 => exact zc ((Kd.N_reads' HO575.out).2.2)); (case side2 => exact (Kd.N_reads' HO575.out).2.1); rintro e w66 ⟨rfl, hb⟩; replace HO561 := zq (Kd.N_below (zn HO561.out) hb); replace HB := zq (below_step J0 hb); (try clear hb); (try clear hk)) | (go_at_call 7; (with_reducible refine (decklelaw17_of.calls k 2 t577 _ A15.out).mono ?_); rintro e w67 ⟨v578, rfl, ho0, hb⟩; replace HO561 := zq (Kd.N_elder' (zn HO561.out) (Kd.N_base ho0) hb); have HO579 := zq (Kd.N_lower (Kd.N_mono (ok' := fun _ => True) ho0 (fun _ _ => trivial)) (below_size J0)); replace HB := zq (below_step J0 hb); (try clear hb); (try clear hk); (try clear ho0); obtain ⟨Ao68, co68, eo68⟩ := Kd.N_slice HO579.out; subst eo68; clear A15) | (go_at_call 9; (with_reducible refine (system_Right.calls k (⟨#[226, 142, 149, 73, 79]⟩ : ByteArray) _ _ t577 false _ ?side1 ?side2 A16.out).mono ?_); (case side1 => exact zc ((Kd.N_reads' HO579.out).2.2)); (case side2 => exact (Kd.N_reads' HO579.out).2.1); rintro e w69 ⟨rfl, hb⟩; replace HO561 := zq (Kd.N_below (zn HO561.out) hb); replace HB := zq (below_step J0 hb); (try clear hb); (try clear hk)) | ((with_reducible refine gate_dst (N := 54) rfl ?_); (try (refine gate_guard J90 ?_; dsimp only)); refine lwR (Kd.int .i64) 3 54 (xs := ([1] : List Int)) [.int .i64 1] Ny581 (Reps.one (show Kd.M (Kd.int .i64) _ _ _ 1 [.int .i64 1] from rfl) (Reps.none _ _)) ?_; intro v582 w70 ho71 hb; replace HO561 := zq (Kd.N_elder' (zn HO561.out) (Kd.R_base ho71) hb); have HO583 := zq (Kd.R_lower ho71 (below_size J0)); replace HB := zq (below_step J0 hb); clear hb ho71; obtain ⟨Ao72, co72, eo72⟩ := Kd.R_slice HO583.out; subst eo72) | ((with_reducible refine gate_dst (N := 56) rfl ?_); (try (refine gate_guard J90 ?_; dsimp only)); refine lwN k32 32 56 (xs := ([(⟨2, ([] : List Int), y581, ([] : List (S40))⟩ : S32)] : List (S32))) [.int .i64 2, .slice none 0 0, .slice Ao72 y581.length co72, .slice none 0 0] Ny584 (Reps.c4 (show Kd.FK k32 _ _ (⟨2, ([] : List Int), y581, ([] : List (S40))⟩ : S32) [.int .i64 2, .slice none 0 0, .slice Ao72 y581.length co72, .slice none 0 0] from (k32_mkF _ _ (⟨2, ([] : List Int), y581, ([] : List (S40))⟩ : S32) (Nat.le_refl _) (Kd.F_nil _ _ _) (Kd.R_reads' (Kd.R_mono (ok' := fun _ => True) (HO583.out) (fun _ _ => trivial))).2.1 (Kd.R_F (Kd.R_mono (ok' := fun _ => True) (HO583.out) (fun _ _ => trivial))) (Nat.le_refl _) (Kd.F_nil _ _ _))) (Reps.none _ _)) ?_; intro v585 w73 ho74 hb; replace HO561 := zq (Kd.N_elder' (zn HO561.out) (Kd.N_base ho74) hb); have HO586 := zq (Kd.N_lower ho74 (below_size J0)); replace HB := zq (below_step J0 hb); clear HO583; clear hb ho74; obtain ⟨Ao75, co75, eo75⟩ := Kd.N_slice HO586.out; subst eo75) | (go_at_call 9; (with_reducible refine (system_Right.calls k (⟨#[226, 142, 149, 73, 79]⟩ : ByteArray) _ _ y584 false _ ?side1 ?side2 A18.out).mono ?_); (case side1 => exact zc ((Kd.N_reads' HO586.out).2.2)); (case side2 => exact (Kd.N_reads' HO586.out).2.1); rintro e w76 ⟨rfl, hb⟩; replace HO561 := zq (Kd.N_below (zn HO561.out) hb); replace HB := zq (below_step J0 hb); (try clear hb); (try clear hk)) | (go_at_call 7; (with_reducible refine (decklelaw17_of.calls k 0 t588 _ A20.out).mono ?_); rintro e w77 ⟨v589, rfl, ho0, hb⟩; replace HO561 := zq (Kd.N_elder' (zn HO561.out) (Kd.N_base ho0) hb); have HO590 := zq (Kd.N_lower (Kd.N_mono (ok' := fun _ => True) ho0 (fun _ _ => trivial)) (below_size J0)); replace HB := zq (below_step J0 hb); (try clear hb); (try clear hk); (try clear ho0); obtain ⟨Ao78, co78, eo78⟩ := Kd.N_slice HO590.out; subst eo78; clear A20) | (go_at_call 9; (with_reducible refine (system_Right.calls k (⟨#[226, 142, 149, 67, 84]⟩ : ByteArray) _ _ t588 true _ ?side1 ?side2 A21.out).mono ?_); (case side1 => exact zc ((Kd.N_reads' HO590.out).2.2)); (case side2 => exact (Kd.N_reads' HO590.out).2.1); rintro e w79 ⟨rfl, hb⟩; replace HO561 := zq (Kd.N_below (zn HO561.out) hb); replace HB := zq (below_step J0 hb); (try clear hb); (try clear hk)) | (go_at_call 7; (with_reducible refine (decklelaw17_of.calls k 1 t592 _ A23.out).mono ?_); rintro e w80 ⟨v593, rfl, ho0, hb⟩; replace HO561 := zq (Kd.N_elder' (zn HO561.out) (Kd.N_base ho0) hb); have HO594 := zq (Kd.N_lower (Kd.N_mono (ok' := fun _ => True) ho0 (fun _ _ => trivial)) (below_size J0)); replace HB := zq (below_step J0 hb); (try clear hb); (try clear hk); (try clear ho0); obtain ⟨Ao81, co81, eo81⟩ := Kd.N_slice HO594.out; subst eo81; clear A23) | (go_at_call 9; (with_reducible refine (system_Right.calls k (⟨#[226, 142, 149, 67, 84]⟩ : ByteArray) _ _ t592 false _ ?side1 ?side2 A24.out).mono ?_); (case side1 => exact zc ((Kd.N_reads' HO594.out).2.2)); (case side2 => exact (Kd.N_reads' HO594.out).2.1); rintro e w82 ⟨rfl, hb⟩; replace HO561 := zq (Kd.N_below (zn HO561.out) hb); replace HB := zq (below_step J0 hb); (try clear hb); (try clear hk); obtain ⟨Ao83, co83, eo83⟩ := Kd.N_slice HO561.out; subst eo83) | (go_at_call 9; (with_reducible refine (system_Right.calls k (⟨#[226, 142, 149, 76, 88]⟩ : ByteArray) _ _ y559 true _ ?side1 ?side2 A26.out).mono ?_); (case side1 => exact zc ((Kd.N_reads' HO561.out).2.2)); (case side2 => exact (Kd.N_reads' HO561.out).2.1); rintro e w84 ⟨rfl, hb⟩; replace HO561 := zq (Kd.N_below (zn HO561.out) hb); replace HB := zq (below_step J0 hb); (try clear hb); (try clear hk)) | (go_at_call 9; (with_reducible refine (system_Right.calls k (⟨#[226, 142, 149, 80, 80]⟩ : ByteArray) _ _ y559 false _ ?side1 ?side2 A28.out).mono ?_); (case side1 => exact zc ((Kd.N_reads' HO561.out).2.2)); (case side2 => exact (Kd.N_reads' HO561.out).2.1); rintro e w85 ⟨rfl, hb⟩; replace HB := zq (below_step J0 hb); (try clear hb); (try clear hk)) | (go_at_call 7; (with_reducible refine (decklelaw17_of.calls k 29 t598 _ A30.out).mono ?_); rintro e w86 ⟨v599, rfl, ho0, hb⟩; have HO600 := zq (Kd.N_lower (Kd.N_mono (ok' := fun _ => True) ho0 (fun _ _ => trivial)) (below_size J0)); replace HB := zq (below_step J0 hb); (try clear hb); (try clear hk); (try clear ho0); obtain ⟨Ao87, co87, eo87⟩ := Kd.N_slice HO600.out; subst eo87; clear A30) | (go_at_call 9; (with_reducible refine (system_Right.calls k (⟨#[226, 142, 149, 80, 87]⟩ : ByteArray) _ _ t598 false _ ?side1 ?side2 A31.out).mono ?_); (case side1 => exact zc ((Kd.N_reads' HO600.out).2.2)); (case side2 => exact (Kd.N_reads' HO600.out).2.1); rintro e w88 ⟨rfl, hb⟩; replace HB := zq (below_step J0 hb); (try clear hb); (try clear hk)) | (go_at_call 7; (with_reducible refine (decklelaw17_of.calls k 2147483646 t602 _ A33.out).mono ?_); rintro e w89 ⟨v603, rfl, ho0, hb⟩; have HO604 := zq (Kd.N_lower (Kd.N_mono (ok' := fun _ => True) ho0 (fun _ _ => trivial)) (below_size J0)); replace HB := zq (below_step J0 hb); (try clear hb); (try clear hk); (try clear ho0); obtain ⟨Ao90, co90, eo90⟩ := Kd.N_slice HO604.out; subst eo90; clear A33) | (go_at_call 9; (with_reducible refine (system_Right.calls k (⟨#[226, 142, 149, 82, 76]⟩ : ByteArray) _ _ t602 true _ ?side1 ?side2 A34.out).mono ?_); (case side1 => exact zc ((Kd.N_reads' HO604.out).2.2)); (case side2 => exact (Kd.N_reads' HO604.out).2.1); rintro e w91 ⟨rfl, hb⟩; replace HB := zq (below_step J0 hb); (try clear hb); (try clear hk)) | (go_at_call 7; (with_reducible refine (decklelaw17_of.calls k 0 t606 _ A36.out).mono ?_); rintro e w92 ⟨v607, rfl, ho0, hb⟩; have HO608 := zq (Kd.N_lower (Kd.N_mono (ok' := fun _ => True) ho0 (fun _ _ => trivial)) (below_size J0)); replace HB := zq (below_step J0 hb); (try clear hb); (try clear hk); (try clear ho0); obtain ⟨Ao93, co93, eo93⟩ := Kd.N_slice HO608.out; subst eo93; clear A36) | (go_at_call 9; (with_reducible refine (system_Right.calls k (⟨#[226, 142, 149, 82, 76]⟩ : ByteArray) _ _ t606 false _ ?side1 ?side2 A37.out).mono ?_); (case side1 => exact zc ((Kd.N_reads' HO608.out).2.2)); (case side2 => exact (Kd.N_reads' HO608.out).2.1); rintro e w94 ⟨rfl, hb⟩; replace HB := zq (below_step J0 hb); (try clear hb); (try clear hk)) | (go_at_call 7; (with_reducible refine (decklelaw17_of.calls k 1 t610 _ A39.out).mono ?_); rintro e w95 ⟨v611, rfl, ho0, hb⟩; have HO612 := zq (Kd.N_lower (Kd.N_mono (ok' := fun _ => True) ho0 (fun _ _ => trivial)) (below_size J0)); replace HB := zq (below_step J0 hb); (try clear hb); (try clear hk); (try clear ho0); obtain ⟨Ao96, co96, eo96⟩ := Kd.N_slice HO612.out; subst eo96; clear A39) | (go_at_call 9; (with_reducible refine (system_Right.calls k (⟨#[65]⟩ : ByteArray) _ _ t610 false _ ?side1 ?side2 A40.out).mono ?_); (case side1 => exact zc ((Kd.N_reads' HO612.out).2.2)); (case side2 => exact (Kd.N_reads' HO612.out).2.1); rintro e w97 ⟨rfl, hb⟩; replace HB := zq (below_step J0 hb); (try clear hb); (try clear hk)) | (go_at_call 8; (with_reducible refine (system_Names.calls  t614 _ A42.out).mono ?_); rintro e w98 ⟨v615, rfl, ho0, hb⟩; have HO616 := zq (Kd.R_lower ho0 (below_size J0)); replace HB := zq (below_step J0 hb); (try clear hb); (try clear hk); (try clear ho0)) | ((with_reducible refine gate_dst (N := 99) rfl ?_); (try (refine gate_guard J90 ?_; dsimp only)); refine Kd.R_lit Kd.string _ 9 ?hg (N := 99) ?hd (xs := ([(⟨#[226, 142, 149, 67, 84]⟩ : ByteArray), (⟨#[226, 142, 149, 73, 79]⟩ : ByteArray), (⟨#[226, 142, 149, 76, 88]⟩ : ByteArray), (⟨#[226, 142, 149, 80, 80]⟩ : ByteArray), (⟨#[226, 142, 149, 80, 87]⟩ : ByteArray), (⟨#[226, 142, 149, 82, 76]⟩ : ByteArray)] : List ByteArray)) (inner := [.string (⟨#[226, 142, 149, 67, 84]⟩ : ByteArray), .string (⟨#[226, 142, 149, 73, 79]⟩ : ByteArray), .string (⟨#[226, 142, 149, 76, 88]⟩ : ByteArray), .string (⟨#[226, 142, 149, 80, 80]⟩ : ByteArray), .string (⟨#[226, 142, 149, 80, 87]⟩ : ByteArray), .string (⟨#[226, 142, 149, 82, 76]⟩ : ByteArray)]) (ok := fun _ => True) (okp := fun _ => True) ?hr ?hp (fun _ hk => hk) trivial (Below.refl _ _) (Nat.le_refl _) J33 ?_; (case hd => rfl); (case hg => rfl); (case hr => first | (go_simp; done) | (go_simp; rfl)); (case hp => exact (Reps.one (show Kd.M Kd.string _ _ _ (⟨#[226, 142, 149, 67, 84]⟩ : ByteArray) [.string (⟨#[226, 142, 149, 67, 84]⟩ : ByteArray)] from rfl) (Reps.one (show Kd.M Kd.string _ _ _ (⟨#[226, 142, 149, 73, 79]⟩ : ByteArray) [.string (⟨#[226, 142, 149, 73, 79]⟩ : ByteArray)] from rfl) (Reps.one (show Kd.M Kd.string _ _ _ (⟨#[226, 142, 149, 76, 88]⟩ : ByteArray) [.string (⟨#[226, 142, 149, 76, 88]⟩ : ByteArray)] from rfl) (Reps.one (show Kd.M Kd.string _ _ _ (⟨#[226, 142, 149, 80, 80]⟩ : ByteArray) [.string (⟨#[226, 142, 149, 80, 80]⟩ : ByteArray)] from rfl) (Reps.one (show Kd.M Kd.string _ _ _ (⟨#[226, 142, 149, 80, 87]⟩ : ByteArray) [.string (⟨#[226, 142, 149, 80, 87]⟩ : ByteArray)] from rfl) (Reps.one (show Kd.M Kd.string _ _ _ (⟨#[226, 142, 149, 82, 76]⟩ : ByteArray) [.string (⟨#[226, 142, 149, 82, 76]⟩ : ByteArray)] from rfl) (Reps.none _ _)))))))); intro v618 w99 ho100 hb hg_ hnew_; clear hg_ hnew_; (first | rw [← Ny617.out] at ho100 | (simp only [Int.reduceToNat] at ho100; rw [← Ny617.out] at ho100)); replace HO616 := zq (Kd.R_elder' (zr HO616.out) (Kd.R_base ho100) hb); have HO619 := zq (Kd.R_lower ho100 (below_size J0)); replace HB := zq (below_step J0 hb); clear hb ho100; obtain ⟨Ao101, co101, eo101⟩ := Kd.R_slice HO616.out; subst eo101; obtain ⟨Ao102, co102, eo102⟩ := Kd.R_slice HO619.out; subst eo102) | (go_at_call 15; (with_reducible refine (deckleref16_Same.calls k _ _ t614 _ _ y617 t620 _ ?side1 ?side2 ?side3 ?side4 A43.out).mono ?_); (case side1 => exact zc ((Kd.R_reads' HO616.out).2.2)); (case side2 => exact (Kd.R_reads' HO616.out).2.1); (case side3 => exact zc ((Kd.R_reads' HO619.out).2.2)); (case side4 => exact (Kd.R_reads' HO619.out).2.1); rintro e w' ⟨rfl, ⟨nd, rfl⟩⟩))
  go_ret
  exact ⟨J2, J0⟩
def decklelaw17_SystemSigns.l0 : Nat → List Int → Bool → List (S32) → Bool → List ByteArray → Int → Option (Bool)
  | 0, _, _, _, _, _, _ => none
  | k + 1, x0, x3, x4, x5, x6, x7 => if x7 < (x6.length : Int) then (if 0 ≤ x7 then ((system_Right.f k (rdOf ByteArray.empty x6 x7) x4).bind fun t633 => (if x5 = true then (if (t633 != ((rdOf ByteArray.empty x6 x7).toList == ([226, 142, 149, 76, 88] : List UInt8))) = true then (none) else (decklelaw17_SystemSigns.l0 k x0 x3 x4 x5 x6 (wrap64 (x7 + 1)))) else (if (t633 != false) = true then (none) else (decklelaw17_SystemSigns.l0 k x0 x3 x4 x5 x6 (wrap64 (x7 + 1)))))) else (none)) else (if x3 = true then (if (x6.length : Int) = 6 then ((system_Right.f k (⟨#[226, 142, 149, 76, 88]⟩ : ByteArray) (([(⟨3, (([1, (x0.length : Int)] : List Int)), x0, ([] : List (S40))⟩ : S32)] : List (S32)))).bind fun t641 => (some (!t641))) else (none)) else (none))
def decklelaw17_SystemSigns.f (k : Nat) (l0 : List Int) : Option (Bool) := (decklelaw17_small.f k).bind fun t621 => (if (l0.length : Int) > 100 then (some t621) else ((some (([(⟨3, (([(l0.length : Int)] : List Int)), l0, ([] : List (S40))⟩ : S32)] : List (S32)) : List (S32))).bind fun y625 => ((tight_Right.f k y625).bind fun t628 => ((system_Names.f).bind fun t629 => (decklelaw17_SystemSigns.l0 k l0 t621 y625 t628 t629 0)))))
set_option maxHeartbeats 8000000 in
set_option maxRecDepth 100000 in
theorem decklelaw17_SystemSigns.calls (k : Nat) (P0_ : Nat → Prop) (A0 : Option Addr) (c0 : Nat) (l0 : List Int) (r : Bool) (w : World) (hs0 : Kd.V (Kd.int .i64) 3 w w.heap.size (fun k_ => P0_ k_) (.slice A0 l0.length c0) l0) (h : decklelaw17_SystemSigns.f k l0 = some r) :
    Calls Tryd.prog 4 #[.slice A0 l0.length c0] w fun e w' => e = .returned (.bool r) ∧ Below w.heap.size w w' := by
  have hu32 := Tryd.underlying32
  have HO0 := zq (show Kd.V (Kd.int .i64) 3 w w.heap.size (fun k_ => (P0_ k_ ∨ w.heap.size ≤ k_)) (.slice A0 l0.length c0) l0 from Kd.V_mono hs0 (fun k_ hk => .inl hk))
  have HB := zq (Below.refl w.heap.size w)
  have H : ((decklelaw17_small.f k).bind fun t621 => (if (l0.length : Int) > 100 then (some t621) else ((some (([(⟨3, (([(l0.length : Int)] : List Int)), l0, ([] : List (S40))⟩ : S32)] : List (S32)) : List (S32))).bind fun y625 => ((tight_Right.f k y625).bind fun t628 => ((system_Names.f).bind fun t629 => (decklelaw17_SystemSigns.l0 k l0 t621 y625 t628 t629 0)))))) = some r := h
  clear h
  replace H := Option.bind_eq_some_iff.mp H
  obtain ⟨t621, A20, H⟩ := H
  have A2 := zq A20
  clear A20
  by_cases c3 : (l0.length : Int) > 100
  · rw [if_pos c3] at H
    have c3b0 := decide_eq_true c3
    have c3b1 : decide (100 < l0.length) = true := decide_eq_true J40
    clear c3
    obtain rfl := Option.some.inj H
    go_enter Tryd.func4, Tryd.ntmps4
    go_wp2_with (first | ((with_reducible refine gate_callee (f := 6) rfl ?_); refine goesL_ (some 9) rfl rfl Tryd.func6 J8 rfl #[] rfl J1 ?_; (with_reducible refine (decklelaw17_small.calls k  t621 _ A2.out).mono ?_); rintro e w4 ⟨rfl, hb⟩; refine ⟨_, rfl, ?_⟩; replace HO0 := zq (Kd.V_below (zv HO0.out) hb); replace HB := zq (below_step J0 hb); (try clear hb); (try clear hk)))
    go_ret
    exact ⟨J2, J0⟩
  rw [if_neg c3] at H
  have c3b0 := decide_eq_false c3
  have c3b1 : decide (100 < l0.length) = false := decide_eq_false J40
  clear c3
  obtain ⟨y622, hy622⟩ : ∃ y_ : List Int, y_ = (([(l0.length : Int)] : List Int)) := ⟨_, rfl⟩
  replace H : ((some (([(⟨3, y622, l0, ([] : List (S40))⟩ : S32)] : List (S32)) : List (S32))).bind fun y625 => ((tight_Right.f k y625).bind fun t628 => ((system_Names.f).bind fun t629 => (decklelaw17_SystemSigns.l0 k l0 t621 y625 t628 t629 0)))) = some r := by first | (rw [hy622]; with_reducible exact H) | (have H2_ := (Option.bind_some _ _).symm.trans H; rw [hy622]; with_reducible exact H2_) | (have H2_ := (Option.bind_some _ _).symm.trans H; with_reducible exact H2_) | with_reducible exact H | (rw [hy622]; exact H) | exact H
  have Ny622 := zq hy622
  clear hy622
  obtain ⟨y625, hy625⟩ : ∃ y_ : List (S32), y_ = (([(⟨3, y622, l0, ([] : List (S40))⟩ : S32)] : List (S32))) := ⟨_, rfl⟩
  replace H : ((tight_Right.f k y625).bind fun t628 => ((system_Names.f).bind fun t629 => (decklelaw17_SystemSigns.l0 k l0 t621 y625 t628 t629 0))) = some r := by first | (rw [hy625]; with_reducible exact H) | (have H2_ := (Option.bind_some _ _).symm.trans H; rw [hy625]; with_reducible exact H2_) | (have H2_ := (Option.bind_some _ _).symm.trans H; with_reducible exact H2_) | with_reducible exact H | (rw [hy625]; exact H) | exact H
  have Ny625 := zq hy625
  clear hy625
  replace H := Option.bind_eq_some_iff.mp H
  obtain ⟨t628, A50, H⟩ := H
  have A5 := zq A50
  clear A50
  replace H := Option.bind_eq_some_iff.mp H
  obtain ⟨t629, A60, H⟩ := H
  have A6 := zq A60
  clear A60
  have H' := zq H
  clear H
  go_enter Tryd.func4, Tryd.ntmps4
  go_wp2_with (first | ((with_reducible refine gate_callee (f := 6) rfl ?_); refine goesL_ (some 9) rfl rfl Tryd.func6 J8 rfl #[] rfl J1 ?_; (with_reducible refine (decklelaw17_small.calls k  t621 _ A2.out).mono ?_); rintro e w7 ⟨rfl, hb⟩; refine ⟨_, rfl, ?_⟩; replace HO0 := zq (Kd.V_below (zv HO0.out) hb); replace HB := zq (below_step J0 hb); (try clear hb); (try clear hk)) | ((with_reducible refine gate_dst (N := 16) rfl ?_); (try (refine gate_guard J90 ?_; dsimp only)); refine lwR (Kd.int .i64) 3 16 (xs := ([(l0.length : Int)] : List Int)) [.int .i64 (l0.length : Int)] Ny622 (Reps.one (show Kd.M (Kd.int .i64) _ _ _ (l0.length : Int) [.int .i64 (l0.length : Int)] from rfl) (Reps.none _ _)) ?_; intro v623 w8 ho9 hb; replace HO0 := zq (Kd.V_elder' (zv HO0.out) (Kd.R_base ho9) hb); have HO624 := zq (Kd.R_lower (Kd.R_newM (M := fun k_ => (w.heap.size ≤ k_)) ho9 (below_size J0) (fun k_ h_ => h_)) (below_size J0)); replace HB := zq (below_step J0 hb); clear hb ho9; obtain ⟨Ao10, co10, eo10⟩ := Kd.R_slice HO624.out; subst eo10) | ((with_reducible refine gate_dst (N := 19) rfl ?_); (try (refine gate_guard J90 ?_; dsimp only)); refine Kd.N_lit k32 _ 32 ?hg (N' := 19) ?hd (xs := ([(⟨3, y622, l0, ([] : List (S40))⟩ : S32)] : List (S32))) (inner := [.int .i64 3, .slice Ao10 y622.length co10, .slice A0 l0.length c0, .slice none 0 0]) (ok := (fun k_ => (P0_ k_ ∨ w.heap.size ≤ k_))) (okp := (fun k_ => (P0_ k_ ∨ w.heap.size ≤ k_))) ?hr ?hp (fun _ hk => hk) ((show ∀ k_, w8.heap.size ≤ k_ → (fun k_ => (P0_ k_ ∨ w.heap.size ≤ k_)) k_ from fun k_ hk => (.inr (Nat.le_trans (below_size J0) hk))) _ (Nat.le_refl _)) (Below.refl _ _) (Nat.le_refl _) J33 ?_; (case hd => rfl); (case hg => rfl); (case hr => first | (go_simp; done) | (go_simp; rfl)); (case hp => exact (Reps.c4 (show Kd.FK k32 _ _ (⟨3, y622, l0, ([] : List (S40))⟩ : S32) [.int .i64 3, .slice Ao10 y622.length co10, .slice A0 l0.length c0, .slice none 0 0] from (k32_mkF _ _ (⟨3, y622, l0, ([] : List (S40))⟩ : S32) (Kd.R_reads' (Kd.R_mono (ok' := (fun k_ => (P0_ k_ ∨ w.heap.size ≤ k_))) (HO624.out) (fun k_ hk => (.inr (hk.1))))).2.1 (Kd.R_F (Kd.R_mono (ok' := (fun k_ => (P0_ k_ ∨ w.heap.size ≤ k_))) (HO624.out) (fun k_ hk => (.inr (hk.1))))) (Kd.V_reads' (Kd.V_mono (ok' := (fun k_ => (P0_ k_ ∨ w.heap.size ≤ k_))) (HO0.out) (fun k_ hk => hk.1))).2.1 (Kd.V_F (Kd.V_mono (ok' := (fun k_ => (P0_ k_ ∨ w.heap.size ≤ k_))) (HO0.out) (fun k_ hk => hk.1))) (Nat.le_refl _) (Kd.F_nil _ _ _))) (Reps.none _ _))); intro v626 w11 ho12 hb hg_ hnew_; clear hg_ hnew_; (first | rw [← Ny625.out] at ho12 | (simp only [Int.reduceToNat] at ho12; rw [← Ny625.out] at ho12)); replace HO0 := zq (Kd.V_elder' (zv HO0.out) (Kd.N_base ho12) hb); have HO627 := zq (Kd.N_lower ho12 (below_size J0)); replace HB := zq (below_step J0 hb); clear HO624; clear hb ho12; obtain ⟨Ao13, co13, eo13⟩ := Kd.N_slice HO627.out; subst eo13) | ((with_reducible refine gate_callee (f := 10) rfl ?_); refine goesL_ (some 21) rfl rfl Tryd.func10 J8 rfl #[.slice Ao13 y625.length co13] rfl J1 ?_; (with_reducible refine (tight_Right.calls k _ _ y625 t628 _ ?side1 ?side2 A5.out).mono ?_); (case side1 => exact zc ((Kd.N_reads' HO627.out).2.2)); (case side2 => exact (Kd.N_reads' HO627.out).2.1); rintro e w14 ⟨rfl, hb⟩; refine ⟨_, rfl, ?_⟩; replace HO0 := zq (Kd.V_below (zv HO0.out) hb); replace HO627 := zq (Kd.N_below (zn HO627.out) hb); replace HB := zq (below_step J0 hb); (try clear hb); (try clear hk)) | ((with_reducible refine gate_callee (f := 8) rfl ?_); refine goesL_ (some 22) rfl rfl Tryd.func8 J8 rfl #[] rfl J1 ?_; (with_reducible refine (system_Names.calls  t629 _ A6.out).mono ?_); rintro e w15 ⟨v630, rfl, ho0, hb⟩; refine ⟨_, rfl, ?_⟩; replace HO0 := zq (Kd.V_elder' (zv HO0.out) (Kd.R_base ho0) hb); replace HO627 := zq (Kd.N_elder' (zn HO627.out) (Kd.R_base ho0) hb); have HO631 := zq (Kd.R_lower (Kd.R_newM (M := fun k_ => (w.heap.size ≤ k_)) ho0 (below_size J0) (fun k_ h_ => h_)) (below_size J0)); replace HB := zq (below_step J0 hb); (try clear hb); (try clear hk); (try clear ho0)))
  go_loopg [7] k (fun kq v7 w' => ∃ (x7_1 : Int), v7 = .int .i64 x7_1 ∧ Aside0 (decklelaw17_SystemSigns.l0 kq l0 t621 y625 t628 t629 x7_1 = some r) ∧ Aside0 (kq ≤ k) ∧ Aside0 (Kd.V (Kd.int .i64) 3 w' w.heap.size (fun k_ => (P0_ k_ ∨ w.heap.size ≤ k_) ∧ some k_ ≠ ((.slice Ao13 y625.length co13) : Value).ownBlock ∧ some k_ ≠ (v630 : Value).ownBlock) (.slice A0 l0.length c0) l0) ∧ Aside0 (Kd.N k32 32 w' w.heap.size (fun k_ => (P0_ k_ ∨ w.heap.size ≤ k_) ∧ some k_ ≠ (v630 : Value).ownBlock) (.slice Ao13 y625.length co13) y625) ∧ Aside0 (Kd.R Kd.string 9 w' w.heap.size (fun k_ => (w.heap.size ≤ k_)) v630 t629) ∧ Aside0 (Below w.heap.size w w'))
  case atStart => exact ⟨(0), J4, H', ⟨Nat.le_refl _⟩, ⟨by (with_reducible repeat (first | apply Kd.V_alloc | apply Kd.V_drewN | apply Kd.V_drew)); exact Kd.V_mono HO0.out (fun _ hk => ⟨hk.1.1.1, ⟨hk.1.2, hk.2⟩⟩)⟩, ⟨by (with_reducible repeat (first | apply Kd.N_alloc | apply Kd.N_drewN | apply Kd.N_drew)); exact HO627.out⟩, ⟨by (with_reducible repeat (first | apply Kd.R_alloc | apply Kd.R_drewN | apply Kd.R_drew)); exact Kd.R_mono HO631.out (fun _ hk => hk.1)⟩, ⟨J0⟩⟩
  case round =>
    clear H'
    try clear c1
    try clear p2
    try clear c3
    try clear c3b0
    try clear c3b1
    try clear c4
    try clear c6
    try clear c8
    try clear c10
    obtain ⟨x7_1, rfl, HA, HK1, HO_0, HO_4, HO_6, HB⟩ := hrel
    cases gk with
    | zero => exact absurd HA.out (by simp [decklelaw17_SystemSigns.l0])
    | succ k1 =>
      have H := HA.out
      clear HA
      simp only [decklelaw17_SystemSigns.l0] at H
      by_cases c16 : x7_1 < (t629.length : Int)
      rotate_left
      · rw [if_neg c16] at H
        have c16b0 := decide_eq_false c16
        clear c16
        obtain ⟨y635, hy635⟩ : ∃ y_ : List Int, y_ = (([1, (l0.length : Int)] : List Int)) := ⟨_, rfl⟩
        replace H : (if t621 = true then (if (t629.length : Int) = 6 then ((system_Right.f k1 (⟨#[226, 142, 149, 76, 88]⟩ : ByteArray) (([(⟨3, y635, l0, ([] : List (S40))⟩ : S32)] : List (S32)))).bind fun t641 => (some (!t641))) else (none)) else (none)) = some r := by first | (rw [hy635]; with_reducible exact H) | (have H2_ := (Option.bind_some _ _).symm.trans H; rw [hy635]; with_reducible exact H2_) | (have H2_ := (Option.bind_some _ _).symm.trans H; with_reducible exact H2_) | with_reducible exact H | (rw [hy635]; exact H) | exact H
        have Ny635 := zq hy635
        clear hy635
        obtain ⟨y638, hy638⟩ : ∃ y_ : List (S32), y_ = (([(⟨3, y635, l0, ([] : List (S40))⟩ : S32)] : List (S32))) := ⟨_, rfl⟩
        rw (occs := .pos [1]) [← hy638] at H
        have Ny638 := zq hy638
        clear hy638
        by_cases c26 : t621 = true
        · subst c26
          rw [if_pos rfl] at H
          by_cases c27 : (t629.length : Int) = 6
          · rw [if_pos c27] at H
            have c27b0 : ((t629.length : Int) == 6) = true := beq_iff_eq.mpr c27
            have c27b1 : ((t629.length : Int) != 6) = false := bne_eq_false_iff_eq.mpr c27
            clear c27
            replace H := Option.bind_eq_some_iff.mp H
            obtain ⟨t641, A280, H⟩ := H
            have A28 := zq A280
            clear A280
            obtain rfl := Option.some.inj H
            obtain ⟨Ao29, co29, eo29⟩ := Kd.R_slice HO_6.out
            subst eo29
            go_wp2_with (first | ((with_reducible refine gate_dst (N := 46) rfl ?_); (try (refine gate_guard J90 ?_; dsimp only)); refine lwR (Kd.int .i64) 3 46 (xs := ([1, (l0.length : Int)] : List Int)) [.int .i64 1, .int .i64 (l0.length : Int)] Ny635 (Reps.one (show Kd.M (Kd.int .i64) _ _ _ 1 [.int .i64 1] from rfl) (Reps.one (show Kd.M (Kd.int .i64) _ _ _ (l0.length : Int) [.int .i64 (l0.length : Int)] from rfl) (Reps.none _ _))) ?_; intro v636 w30 ho31 hb; replace HO_0 := zq (Kd.V_elder' (zv HO_0.out) (Kd.R_base ho31) hb); replace HO_4 := zq (Kd.N_elder' (zn HO_4.out) (Kd.R_base ho31) hb); replace HO_6 := zq (Kd.R_below (zr HO_6.out) hb); have HO637 := zq (Kd.R_lower (Kd.R_newM (M := fun k_ => (w.heap.size ≤ k_)) ho31 (below_size J0) (fun k_ h_ => h_)) (below_size J0)); replace HB := zq (below_step J0 hb); clear hb ho31; obtain ⟨Ao32, co32, eo32⟩ := Kd.R_slice HO637.out; subst eo32) | ((with_reducible refine gate_dst (N := 49) rfl ?_); (try (refine gate_guard J90 ?_; dsimp only)); refine Kd.N_lit k32 _ 32 ?hg (N' := 49) ?hd (xs := ([(⟨3, y635, l0, ([] : List (S40))⟩ : S32)] : List (S32))) (inner := [.int .i64 3, .slice Ao32 y635.length co32, .slice A0 l0.length c0, .slice none 0 0]) (ok := (fun k_ => (P0_ k_ ∨ w.heap.size ≤ k_) ∧ some k_ ≠ (.slice Ao13 y625.length co13 : Value).ownBlock ∧ some k_ ≠ (.slice Ao29 t629.length co29 : Value).ownBlock)) (okp := (fun k_ => (P0_ k_ ∨ w.heap.size ≤ k_) ∧ some k_ ≠ (.slice Ao13 y625.length co13 : Value).ownBlock ∧ some k_ ≠ (.slice Ao29 t629.length co29 : Value).ownBlock)) ?hr ?hp (fun _ hk => hk) ((show ∀ k_, w30.heap.size ≤ k_ → (fun k_ => (P0_ k_ ∨ w.heap.size ≤ k_) ∧ some k_ ≠ (.slice Ao13 y625.length co13 : Value).ownBlock ∧ some k_ ≠ (.slice Ao29 t629.length co29 : Value).ownBlock) k_ from fun k_ hk => ⟨(.inr (Nat.le_trans (below_size J0) hk)), Kd.fresh' (Kd.N_lt (zn HO_4.out)) k_ hk, Kd.fresh' (Kd.R_lt (zr HO_6.out)) k_ hk⟩) _ (Nat.le_refl _)) (Below.refl _ _) (Nat.le_refl _) J33 ?_; (case hd => rfl); (case hg => rfl); (case hr => first | (go_simp; done) | (go_simp; rfl)); (case hp => exact (Reps.c4 (show Kd.FK k32 _ _ (⟨3, y635, l0, ([] : List (S40))⟩ : S32) [.int .i64 3, .slice Ao32 y635.length co32, .slice A0 l0.length c0, .slice none 0 0] from (k32_mkF _ _ (⟨3, y635, l0, ([] : List (S40))⟩ : S32) (Kd.R_reads' (Kd.R_mono (ok' := (fun k_ => (P0_ k_ ∨ w.heap.size ≤ k_) ∧ some k_ ≠ (.slice Ao13 y625.length co13 : Value).ownBlock ∧ some k_ ≠ (.slice Ao29 t629.length co29 : Value).ownBlock)) (Kd.R_apart' (Kd.R_apart' (HO637.out) (Kd.N_typed HO_4.out) J18) (Kd.R_typed HO_6.out) J18) (fun k_ hk => ⟨(.inr (hk.1.1.1)), ⟨hk.1.2, hk.2⟩⟩))).2.1 (Kd.R_F (Kd.R_mono (ok' := (fun k_ => (P0_ k_ ∨ w.heap.size ≤ k_) ∧ some k_ ≠ (.slice Ao13 y625.length co13 : Value).ownBlock ∧ some k_ ≠ (.slice Ao29 t629.length co29 : Value).ownBlock)) (Kd.R_apart' (Kd.R_apart' (HO637.out) (Kd.N_typed HO_4.out) J18) (Kd.R_typed HO_6.out) J18) (fun k_ hk => ⟨(.inr (hk.1.1.1)), ⟨hk.1.2, hk.2⟩⟩))) (Kd.V_reads' (Kd.V_mono (ok' := (fun k_ => (P0_ k_ ∨ w.heap.size ≤ k_) ∧ some k_ ≠ (.slice Ao13 y625.length co13 : Value).ownBlock ∧ some k_ ≠ (.slice Ao29 t629.length co29 : Value).ownBlock)) (HO_0.out) (fun k_ hk => ⟨hk.1.1, ⟨hk.1.2.1, hk.1.2.2⟩⟩))).2.1 (Kd.V_F (Kd.V_mono (ok' := (fun k_ => (P0_ k_ ∨ w.heap.size ≤ k_) ∧ some k_ ≠ (.slice Ao13 y625.length co13 : Value).ownBlock ∧ some k_ ≠ (.slice Ao29 t629.length co29 : Value).ownBlock)) (HO_0.out) (fun k_ hk => ⟨hk.1.1, ⟨hk.1.2.1, hk.1.2.2⟩⟩))) (Nat.le_refl _) (Kd.F_nil _ _ _))) (Reps.none _ _))); intro v639 w33 ho34 hb hg_ hnew_; clear hg_ hnew_; (first | rw [← Ny638.out] at ho34 | (simp only [Int.reduceToNat] at ho34; rw [← Ny638.out] at ho34)); have HO640 := zq (Kd.N_lower ho34 (below_size J0)); replace HB := zq (below_step J0 hb); clear HO637; clear hb ho34; obtain ⟨Ao35, co35, eo35⟩ := Kd.N_slice HO640.out; subst eo35) | (go_at_call 9; (with_reducible refine (system_Right.calls k1 (⟨#[226, 142, 149, 76, 88]⟩ : ByteArray) _ _ y638 t641 _ ?side1 ?side2 A28.out).mono ?_); (case side1 => exact zc ((Kd.N_reads' HO640.out).2.2)); (case side2 => exact (Kd.N_reads' HO640.out).2.1); rintro e w36 ⟨rfl, hb⟩; replace HB := zq (below_step J0 hb); (try clear hb); (try clear hk)))
            go_ret
            exact ⟨J2, J0⟩
          · rw [if_neg c27] at H
            exact absurd H J33
        · replace c26 := Bool.eq_false_iff.mpr c26
          subst c26
          rw [if_neg (show ¬ (false = true) by decide)] at H
          exact absurd H J33
      rw [if_pos c16] at H
      have c16b0 := decide_eq_true c16
      clear c16
      by_cases c17 : 0 ≤ x7_1
      rotate_left
      · rw [if_neg c17] at H
        exact absurd H J33
      rw [if_pos c17] at H
      have c17b0 := decide_eq_true c17
      clear c17
      replace H := Option.bind_eq_some_iff.mp H
      obtain ⟨t633, A180, H⟩ := H
      have A18 := zq A180
      clear A180
      by_cases c19 : t628 = true
      · subst c19
        rw [if_pos rfl] at H
        by_cases c20 : (t633 != ((rdOf ByteArray.empty t629 x7_1).toList == ([226, 142, 149, 76, 88] : List UInt8))) = true
        · rw [if_pos c20] at H
          exact absurd H J33
        · rw [if_neg c20] at H
          have c20b0 : (t633 != ((rdOf ByteArray.empty t629 x7_1).toList == ([226, 142, 149, 76, 88] : List UInt8))) = false := by simpa using c20
          (try (have c20b1 : decide (t633 = ((rdOf ByteArray.empty t629 x7_1).toList == ([226, 142, 149, 76, 88] : List UInt8))) = true := by simpa using c20))
          (try (have c20b2 : (t633 == ((rdOf ByteArray.empty t629 x7_1).toList == ([226, 142, 149, 76, 88] : List UInt8))) = true := by simpa using c20))
          clear c20
          have H' := zq H
          clear H
          obtain ⟨Ao21, co21, eo21⟩ := Kd.R_slice HO_6.out
          subst eo21
          have p632 : 0 ≤ (x7_1 : Int) := of_decide_eq_true J3
          have q632 : x7_1 < (t629.length : Int) := of_decide_eq_true J3
          obtain ⟨ad632, e632, hx632_0⟩ := Kd.at_string (Kd.R_reads' HO_6.out).2.2 x7_1 p632 q632
          cases e632
          replace p632 := eq_true p632
          replace q632 := eq_true q632
          go_wp2_with (first | ((with_reducible refine gate_callee (f := 9) rfl ?_); refine goesL_ (some 34) rfl rfl Tryd.func9 J8 rfl #[.string (rdOf ByteArray.empty t629 x7_1), .slice Ao13 y625.length co13] rfl J1 ?_; (with_reducible refine (system_Right.calls k1 (rdOf ByteArray.empty t629 x7_1) _ _ y625 t633 _ ?side1 ?side2 A18.out).mono ?_); (case side1 => exact zc ((Kd.N_reads' HO_4.out).2.2)); (case side2 => exact (Kd.N_reads' HO_4.out).2.1); rintro e w22 ⟨rfl, hb⟩; refine ⟨_, rfl, ?_⟩; replace HO_0 := zq (Kd.V_below (zv HO_0.out) hb); replace HO_4 := zq (Kd.N_below (zn HO_4.out) hb); replace HO_6 := zq (Kd.R_below (zr HO_6.out) hb); replace HB := zq (below_step J0 hb); (try clear hb); (try clear hk); have p634 : 0 ≤ (x7_1 : Int) := of_decide_eq_true J3; have q634 : x7_1 < (t629.length : Int) := of_decide_eq_true J3; obtain ⟨ad634, e634, hx634_0⟩ := Kd.at_string (Kd.R_reads' HO_6.out).2.2 x7_1 p634 q634; obtain rfl : ad632 = ad634 := (by injection e634); replace p634 := eq_true p634; replace q634 := eq_true q634))
          go_roundg k1
          case measure => have := HK1.out; omega
          case rel => exact ⟨(wrap64 (x7_1 + 1)), J4, H', ⟨J73⟩, ⟨J144⟩, ⟨J145⟩, ⟨J146⟩, ⟨J0⟩⟩
      replace c19 := Bool.eq_false_iff.mpr c19
      subst c19
      rw [if_neg (show ¬ (false = true) by decide)] at H
      by_cases c23 : (t633 != false) = true
      · rw [if_pos c23] at H
        exact absurd H J33
      rw [if_neg c23] at H
      have c23b0 : (t633 != false) = false := by simpa using c23
      (try (have c23b1 : decide (t633 = false) = true := by simpa using c23))
      (try (have c23b2 : (t633 == false) = true := by simpa using c23))
      clear c23
      have H' := zq H
      clear H
      obtain ⟨Ao24, co24, eo24⟩ := Kd.R_slice HO_6.out
      subst eo24
      have p632 : 0 ≤ (x7_1 : Int) := of_decide_eq_true J3
      have q632 : x7_1 < (t629.length : Int) := of_decide_eq_true J3
      obtain ⟨ad632, e632, hx632_0⟩ := Kd.at_string (Kd.R_reads' HO_6.out).2.2 x7_1 p632 q632
      cases e632
      replace p632 := eq_true p632
      replace q632 := eq_true q632
      go_wp2_with (first | ((with_reducible refine gate_callee (f := 9) rfl ?_); refine goesL_ (some 34) rfl rfl Tryd.func9 J8 rfl #[.string (rdOf ByteArray.empty t629 x7_1), .slice Ao13 y625.length co13] rfl J1 ?_; (with_reducible refine (system_Right.calls k1 (rdOf ByteArray.empty t629 x7_1) _ _ y625 t633 _ ?side1 ?side2 A18.out).mono ?_); (case side1 => exact zc ((Kd.N_reads' HO_4.out).2.2)); (case side2 => exact (Kd.N_reads' HO_4.out).2.1); rintro e w25 ⟨rfl, hb⟩; refine ⟨_, rfl, ?_⟩; replace HO_0 := zq (Kd.V_below (zv HO_0.out) hb); replace HO_4 := zq (Kd.N_below (zn HO_4.out) hb); replace HO_6 := zq (Kd.R_below (zr HO_6.out) hb); replace HB := zq (below_step J0 hb); (try clear hb); (try clear hk)))
      go_roundg k1
      case measure => have := HK1.out; omega
      case rel => exact ⟨(wrap64 (x7_1 + 1)), J4, H', ⟨J73⟩, ⟨J144⟩, ⟨J145⟩, ⟨J146⟩, ⟨J0⟩⟩
def decklelaw17_SystemSigns.Pure : Prop := ∀ (l0 : List Int), l0.length ≤ maxLen → l0.length * 8 ≤ 140737488351232 → (∀ x ∈ l0, (Lit.int .i64 x).wf = true) → ∃ k, decklelaw17_SystemSigns.f k l0 = some true
theorem decklelaw17_SystemSigns.walk (P : decklelaw17_SystemSigns.Pure) (a0 : Option Addr) (len0 cap0 : Nat) (z0 : List Int) (w : World) (w0 : (a0 = none ∧ len0 = 0 ∧ cap0 = 0 ∧ z0 = []) ∨ ∃ x, a0 = some x ∧ len0 ≤ cap0 ∧ cap0 ≤ maxLen ∧ z0.length = cap0 ∧ (∀ i, i < z0.length → w.cell? (x.add i) = some (.int .i64 (z0.getD i 0))) ∧ ∀ n ∈ z0, (Lit.int .i64 n).wf = true) (y0 : len0 * 8 ≤ 140737488351232) :
    Calls Tryd.prog 4 #[.slice a0 len0 cap0] w fun e w' => e = .returned (.bool true) ∧ Below w.heap.size w w' := by
  obtain ⟨l0, rfl, hr0, hm0, hw0, hc0⟩ := ReadsInt.ofRowC w0
  obtain ⟨k, h⟩ := P l0 hm0 y0 hw0
  refine (decklelaw17_SystemSigns.calls k (fun k_ => k_ < w.heap.size) _ _ l0 true w (Kd.V_mk hc0 (Kd.C_F (Kd.heap_int .i64) (Kd.C_of_reads (d := (0 : Int)) (h1 := fun _ => rfl) hr0))) h).mono ?_
  rintro e w' ⟨rfl, hd⟩
  exact ⟨rfl, hd⟩
end Go.Proofs.YtfjhiiaahbjaiaaDoor.HSystemSigns
