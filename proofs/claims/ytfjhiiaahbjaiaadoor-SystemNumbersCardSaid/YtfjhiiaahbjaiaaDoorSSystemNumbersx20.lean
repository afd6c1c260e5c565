/- What the Go functions of this claim answer, told as functions of numbers and lists, and that other memory stays as it was: words and walks, shortened by a program. -/
import Derived.Shelf.LaysM
import Derived.Shelf.Strconv.Itoa3
import Derived.Lib.AppendIntMem
import Derived.Test.YtfjhiiaahbjaiaaDoorRows
import Derived.Test.YtfjhiiaahbjaiaaDoorSSystemNumbersx0
import Derived.Test.YtfjhiiaahbjaiaaDoorSSystemNumbersx7
import Derived.Test.YtfjhiiaahbjaiaaDoorSSystemNumbersx16
import Derived.Test.YtfjhiiaahbjaiaaDoorSSystemNumbersx17
import Derived.Test.YtfjhiiaahbjaiaaDoorSSystemNumbersx19
namespace Go.Proofs.YtfjhiiaahbjaiaaDoor.HSystemSigns
open Go.RowKit Go.Proofs.YtfjhiiaahbjaiaaDoorW.PrintWords Go.Proofs.YtfjhiiaahbjaiaaDoorW.PrintLast Go.Proofs.YtfjhiiaahbjaiaaDoorW.PrintMore
attribute [local go_sem] max2_int min2_int max_two min_two max_three min_three max_four min_four
set_option linter.unusedVariables false
set_option linter.unusedSimpArgs false
def decklelaw17_small.f (k : Nat)  : Option (Bool) := (system_Default.f k (⟨#[226, 142, 149, 80, 80]⟩ : ByteArray)).bind fun bt541 => ((system_Default.f k (⟨#[80, 80]⟩ : ByteArray)).bind fun bt545 => ((system_Default.f k (⟨#[226, 142, 149, 67, 84]⟩ : ByteArray)).bind fun bt549 => ((some (([(⟨3, ([] : List Int), (([97] : List Int)), ([] : List (S40))⟩ : S32)] : List (S32)) : List (S32))).bind fun y556 => (if bt541.2 = true then ((decklelaw17_of.f k 10).bind fun t559 => ((deckleref10_Same.f k bt541.1 t559).bind fun t562 => (if t562 = true then (if bt545.2 = true then (none) else (if bt549.2 = true then ((deckleref10_Same.f k bt549.1 (([(⟨4, ([] : List Int), ([] : List Int), (([(⟨1, (-13)⟩ : S40)] : List (S40)))⟩ : S32)] : List (S32)))).bind fun t569 => (if t569 = true then ((decklelaw17_of.f k 0).bind fun t570 => ((system_Right.f k (⟨#[226, 142, 149, 73, 79]⟩ : ByteArray) t570).bind fun t573 => (if t573 = true then ((decklelaw17_of.f k 2).bind fun t574 => ((system_Right.f k (⟨#[226, 142, 149, 73, 79]⟩ : ByteArray) t574).bind fun t577 => (if t577 = true then (none) else ((system_Right.f k (⟨#[226, 142, 149, 73, 79]⟩ : ByteArray) (([(⟨2, ([] : List Int), (([1] : List Int)), ([] : List (S40))⟩ : S32)] : List (S32)))).bind fun t584 => (if t584 = true then (none) else ((decklelaw17_of.f k 0).bind fun t585 => ((system_Right.f k (⟨#[226, 142, 149, 67, 84]⟩ : ByteArray) t585).bind fun t588 => (if t588 = true then ((decklelaw17_of.f k 1).bind fun t589 => ((system_Right.f k (⟨#[226, 142, 149, 67, 84]⟩ : ByteArray) t589).bind fun t592 => (if t592 = true then (none) else ((system_Right.f k (⟨#[226, 142, 149, 76, 88]⟩ : ByteArray) y556).bind fun t593 => (if t593 = true then ((system_Right.f k (⟨#[226, 142, 149, 80, 80]⟩ : ByteArray) y556).bind fun t594 => (if t594 = true then (none) else ((decklelaw17_of.f k 29).bind fun t595 => ((system_Right.f k (⟨#[226, 142, 149, 80, 87]⟩ : ByteArray) t595).bind fun t598 => (if t598 = true then (none) else ((decklelaw17_of.f k 2147483646).bind fun t599 => ((system_Right.f k (⟨#[226, 142, 149, 82, 76]⟩ : ByteArray) t599).bind fun t602 => (if t602 = true then ((decklelaw17_of.f k 0).bind fun t603 => ((system_Right.f k (⟨#[226, 142, 149, 82, 76]⟩ : ByteArray) t603).bind fun t606 => (if t606 = true then (none) else ((decklelaw17_of.f k 1).bind fun t607 => ((system_Right.f k (⟨#[65]⟩ : ByteArray) t607).bind fun t610 => (if t610 = true then (none) else ((system_Names.f).bind fun t611 => ((deckleref16_Same.f k t611 (([(⟨#[226, 142, 149, 67, 84]⟩ : ByteArray), (⟨#[226, 142, 149, 73, 79]⟩ : ByteArray), (⟨#[226, 142, 149, 76, 88]⟩ : ByteArray), (⟨#[226, 142, 149, 80, 80]⟩ : ByteArray), (⟨#[226, 142, 149, 80, 87]⟩ : ByteArray), (⟨#[226, 142, 149, 82, 76]⟩ : ByteArray)] : List ByteArray))).bind fun t617 => (some t617))))))))) else (none))))))))) else (none)))))) else (none))))))))) else (none)))) else (none))) else (none))) else (none)))) else (none)))))
theorem decklelaw17_small.mono : ∀ k, LeO (decklelaw17_small.f k ) (decklelaw17_small.f (k + 1) ) := by
  intro  k
  unfold decklelaw17_small.f
  have im0 := @decklelaw17_of.mono
  have im1 := @deckleref10_Same.mono
  have im2 := @deckleref16_Same.mono
  have im3 := @system_Default.mono
  have im4 := @system_Right.mono
  exact mz5
set_option maxHeartbeats 8000000 in
set_option maxRecDepth 100000 in
theorem decklelaw17_small.calls (k : Nat)  (r : Bool) (w : World) (ht_ : HTab w) (h : decklelaw17_small.f k  = some r) :
    Calls Tryd.prog 6 #[] w fun e w' => e = .returned (.bool r) ∧ Below w.heap.size w w' := by
  have HT := zq ht_
  clear ht_
  have hu32 := Tryd.underlying32
  have hu40 := Tryd.underlying40
  have HB := zq (Below.refl w.heap.size w)
  have H : ((system_Default.f k (⟨#[226, 142, 149, 80, 80]⟩ : ByteArray)).bind fun bt541 => ((system_Default.f k (⟨#[80, 80]⟩ : ByteArray)).bind fun bt545 => ((system_Default.f k (⟨#[226, 142, 149, 67, 84]⟩ : ByteArray)).bind fun bt549 => ((some (([(⟨3, ([] : List Int), (([97] : List Int)), ([] : List (S40))⟩ : S32)] : List (S32)) : List (S32))).bind fun y556 => (if bt541.2 = true then ((decklelaw17_of.f k 10).bind fun t559 => ((deckleref10_Same.f k bt541.1 t559).bind fun t562 => (if t562 = true then (if bt545.2 = true then (none) else (if bt549.2 = true then ((deckleref10_Same.f k bt549.1 (([(⟨4, ([] : List Int), ([] : List Int), (([(⟨1, (-13)⟩ : S40)] : List (S40)))⟩ : S32)] : List (S32)))).bind fun t569 => (if t569 = true then ((decklelaw17_of.f k 0).bind fun t570 => ((system_Right.f k (⟨#[226, 142, 149, 73, 79]⟩ : ByteArray) t570).bind fun t573 => (if t573 = true then ((decklelaw17_of.f k 2).bind fun t574 => ((system_Right.f k (⟨#[226, 142, 149, 73, 79]⟩ : ByteArray) t574).bind fun t577 => (if t577 = true then (none) else ((system_Right.f k (⟨#[226, 142, 149, 73, 79]⟩ : ByteArray) (([(⟨2, ([] : List Int), (([1] : List Int)), ([] : List (S40))⟩ : S32)] : List (S32)))).bind fun t584 => (if t584 = true then (none) else ((decklelaw17_of.f k 0).bind fun t585 => ((system_Right.f k (⟨#[226, 142, 149, 67, 84]⟩ : ByteArray) t585).bind fun t588 => (if t588 = true then ((decklelaw17_of.f k 1).bind fun t589 => ((system_Right.f k (⟨#[226, 142, 149, 67, 84]⟩ : ByteArray) t589).bind fun t592 => (if t592 = true then (none) else ((system_Right.f k (⟨#[226, 142, 149, 76, 88]⟩ : ByteArray) y556).bind fun t593 => (if t593 = true then ((system_Right.f k (⟨#[226, 142, 149, 80, 80]⟩ : ByteArray) y556).bind fun t594 => (if t594 = true then (none) else ((decklelaw17_of.f k 29).bind fun t595 => ((system_Right.f k (⟨#[226, 142, 149, 80, 87]⟩ : ByteArray) t595).bind fun t598 => (if t598 = true then (none) else ((decklelaw17_of.f k 2147483646).bind fun t599 => ((system_Right.f k (⟨#[226, 142, 149, 82, 76]⟩ : ByteArray) t599).bind fun t602 => (if t602 = true then ((decklelaw17_of.f k 0).bind fun t603 => ((system_Right.f k (⟨#[226, 142, 149, 82, 76]⟩ : ByteArray) t603).bind fun t606 => (if t606 = true then (none) else ((decklelaw17_of.f k 1).bind fun t607 => ((system_Right.f k (⟨#[65]⟩ : ByteArray) t607).bind fun t610 => (if t610 = true then (none) else ((system_Names.f).bind fun t611 => ((deckleref16_Same.f k t611 (([(⟨#[226, 142, 149, 67, 84]⟩ : ByteArray), (⟨#[226, 142, 149, 73, 79]⟩ : ByteArray), (⟨#[226, 142, 149, 76, 88]⟩ : ByteArray), (⟨#[226, 142, 149, 80, 80]⟩ : ByteArray), (⟨#[226, 142, 149, 80, 87]⟩ : ByteArray), (⟨#[226, 142, 149, 82, 76]⟩ : ByteArray)] : List ByteArray))).bind fun t617 => (some t617))))))))) else (none))))))))) else (none)))))) else (none))))))))) else (none)))) else (none))) else (none))) else (none)))) else (none)))))) = some r := h
  clear h
  replace H := Option.bind_eq_some_iff.mp H
  obtain ⟨⟨t541, t544⟩, A10, H⟩ := H
  dsimp only at H
  have A1 := zq A10
  clear A10
  replace H := Option.bind_eq_some_iff.mp H
  obtain ⟨⟨t545, t548⟩, A20, H⟩ := H
  dsimp only at H
  have A2 := zq A20
  clear A20
  replace H := Option.bind_eq_some_iff.mp H
  obtain ⟨⟨t549, t552⟩, A30, H⟩ := H
  dsimp only at H
  have A3 := zq A30
  clear A30
  obtain ⟨y553, hy553⟩ : ∃ y_ : List Int, y_ = (([97] : List Int)) := ⟨_, rfl⟩
  rw (occs := .pos [1]) [← hy553] at H
  have Ny553 := zq hy553
  clear hy553
  obtain ⟨y556, hy556⟩ : ∃ y_ : List (S32), y_ = (([(⟨3, ([] : List Int), y553, ([] : List (S40))⟩ : S32)] : List (S32))) := ⟨_, rfl⟩
  replace H : (if t544 = true then ((decklelaw17_of.f k 10).bind fun t559 => ((deckleref10_Same.f k t541 t559).bind fun t562 => (if t562 = true then (if t548 = true then (none) else (if t552 = true then ((deckleref10_Same.f k t549 (([(⟨4, ([] : List Int), ([] : List Int), (([(⟨1, (-13)⟩ : S40)] : List (S40)))⟩ : S32)] : List (S32)))).bind fun t569 => (if t569 = true then ((decklelaw17_of.f k 0).bind fun t570 => ((system_Right.f k (⟨#[226, 142, 149, 73, 79]⟩ : ByteArray) t570).bind fun t573 => (if t573 = true then ((decklelaw17_of.f k 2).bind fun t574 => ((system_Right.f k (⟨#[226, 142, 149, 73, 79]⟩ : ByteArray) t574).bind fun t577 => (if t577 = true then (none) else ((system_Right.f k (⟨#[226, 142, 149, 73, 79]⟩ : ByteArray) (([(⟨2, ([] : List Int), (([1] : List Int)), ([] : List (S40))⟩ : S32)] : List (S32)))).bind fun t584 => (if t584 = true then (none) else ((decklelaw17_of.f k 0).bind fun t585 => ((system_Right.f k (⟨#[226, 142, 149, 67, 84]⟩ : ByteArray) t585).bind fun t588 => (if t588 = true then ((decklelaw17_of.f k 1).bind fun t589 => ((system_Right.f k (⟨#[226, 142, 149, 67, 84]⟩ : ByteArray) t589).bind fun t592 => (if t592 = true then (none) else ((system_Right.f k (⟨#[226, 142, 149, 76, 88]⟩ : ByteArray) y556).bind fun t593 => (if t593 = true then ((system_Right.f k (⟨#[226, 142, 149, 80, 80]⟩ : ByteArray) y556).bind fun t594 => (if t594 = true then (none) else ((decklelaw17_of.f k 29).bind fun t595 => ((system_Right.f k (⟨#[226, 142, 149, 80, 87]⟩ : ByteArray) t595).bind fun t598 => (if t598 = true then (none) else ((decklelaw17_of.f k 2147483646).bind fun t599 => ((system_Right.f k (⟨#[226, 142, 149, 82, 76]⟩ : ByteArray) t599).bind fun t602 => (if t602 = true then ((decklelaw17_of.f k 0).bind fun t603 => ((system_Right.f k (⟨#[226, 142, 149, 82, 76]⟩ : ByteArray) t603).bind fun t606 => (if t606 = true then (none) else ((decklelaw17_of.f k 1).bind fun t607 => ((system_Right.f k (⟨#[65]⟩ : ByteArray) t607).bind fun t610 => (if t610 = true then (none) else ((system_Names.f).bind fun t611 => ((deckleref16_Same.f k t611 (([(⟨#[226, 142, 149, 67, 84]⟩ : ByteArray), (⟨#[226, 142, 149, 73, 79]⟩ : ByteArray), (⟨#[226, 142, 149, 76, 88]⟩ : ByteArray), (⟨#[226, 142, 149, 80, 80]⟩ : ByteArray), (⟨#[226, 142, 149, 80, 87]⟩ : ByteArray), (⟨#[226, 142, 149, 82, 76]⟩ : ByteArray)] : List ByteArray))).bind fun t617 => (some t617))))))))) else (none))))))))) else (none)))))) else (none))))))))) else (none)))) else (none))) else (none))) else (none)))) else (none)) = some r := by first | (rw [hy556]; with_reducible exact H) | (have H2_ := (Option.bind_some _ _).symm.trans H; rw [hy556]; with_reducible exact H2_) | (have H2_ := (Option.bind_some _ _).symm.trans H; with_reducible exact H2_) | with_reducible exact H | (rw [hy556]; exact H) | exact H
  have Ny556 := zq hy556
  clear hy556
  by_cases c4 : t544 = true
  rotate_left
  · replace c4 := Bool.eq_false_iff.mpr c4
    subst c4
    rw [if_neg (show ¬ (false = true) by decide)] at H
    exact absurd H J32
  subst c4
  rw [if_pos rfl] at H
  replace H := Option.bind_eq_some_iff.mp H
  obtain ⟨t559, A50, H⟩ := H
  have A5 := zq A50
  clear A50
  replace H := Option.bind_eq_some_iff.mp H
  obtain ⟨t562, A60, H⟩ := H
  have A6 := zq A60
  clear A60
  by_cases c7 : t562 = true
  rotate_left
  · replace c7 := Bool.eq_false_iff.mpr c7
    subst c7
    rw [if_neg (show ¬ (false = true) by decide)] at H
    exact absurd H J32
  subst c7
  rw [if_pos rfl] at H
  by_cases c8 : t548 = true
  · subst c8
    rw [if_pos rfl] at H
    exact absurd H J32
  replace c8 := Bool.eq_false_iff.mpr c8
  subst c8
  rw [if_neg (show ¬ (false = true) by decide)] at H
  by_cases c9 : t552 = true
  rotate_left
  · replace c9 := Bool.eq_false_iff.mpr c9
    subst c9
    rw [if_neg (show ¬ (false = true) by decide)] at H
    exact absurd H J32
  subst c9
  rw [if_pos rfl] at H
  obtain ⟨y563, hy563⟩ : ∃ y_ : List (S40), y_ = (([(⟨1, (-13)⟩ : S40)] : List (S40))) := ⟨_, rfl⟩
  rw (occs := .pos [1]) [← hy563] at H
  have Ny563 := zq hy563
  clear hy563
  obtain ⟨y566, hy566⟩ : ∃ y_ : List (S32), y_ = (([(⟨4, ([] : List Int), ([] : List Int), y563⟩ : S32)] : List (S32))) := ⟨_, rfl⟩
  rw (occs := .pos [1]) [← hy566] at H
  have Ny566 := zq hy566
  clear hy566
  replace H := Option.bind_eq_some_iff.mp H
  obtain ⟨t569, A100, H⟩ := H
  have A10 := zq A100
  clear A100
  by_cases c11 : t569 = true
  rotate_left
  · replace c11 := Bool.eq_false_iff.mpr c11
    subst c11
    rw [if_neg (show ¬ (false = true) by decide)] at H
    exact absurd H J32
  subst c11
  rw [if_pos rfl] at H
  replace H := Option.bind_eq_some_iff.mp H
  obtain ⟨t570, A120, H⟩ := H
  have A12 := zq A120
  clear A120
  replace H := Option.bind_eq_some_iff.mp H
  obtain ⟨t573, A130, H⟩ := H
  have A13 := zq A130
  clear A130
  by_cases c14 : t573 = true
  rotate_left
  · replace c14 := Bool.eq_false_iff.mpr c14
    subst c14
    rw [if_neg (show ¬ (false = true) by decide)] at H
    exact absurd H J32
  subst c14
  rw [if_pos rfl] at H
  replace H := Option.bind_eq_some_iff.mp H
  obtain ⟨t574, A150, H⟩ := H
  have A15 := zq A150
  clear A150
  replace H := Option.bind_eq_some_iff.mp H
  obtain ⟨t577, A160, H⟩ := H
  have A16 := zq A160
  clear A160
  by_cases c17 : t577 = true
  · subst c17
    rw [if_pos rfl] at H
    exact absurd H J32
  replace c17 := Bool.eq_false_iff.mpr c17
  subst c17
  rw [if_neg (show ¬ (false = true) by decide)] at H
  obtain ⟨y578, hy578⟩ : ∃ y_ : List Int, y_ = (([1] : List Int)) := ⟨_, rfl⟩
  rw (occs := .pos [1]) [← hy578] at H
  have Ny578 := zq hy578
  clear hy578
  obtain ⟨y581, hy581⟩ : ∃ y_ : List (S32), y_ = (([(⟨2, ([] : List Int), y578, ([] : List (S40))⟩ : S32)] : List (S32))) := ⟨_, rfl⟩
  rw (occs := .pos [1]) [← hy581] at H
  have Ny581 := zq hy581
  clear hy581
  replace H := Option.bind_eq_some_iff.mp H
  obtain ⟨t584, A180, H⟩ := H
  have A18 := zq A180
  clear A180
  by_cases c19 : t584 = true
  · subst c19
    rw [if_pos rfl] at H
    exact absurd H J32
  replace c19 := Bool.eq_false_iff.mpr c19
  subst c19
  rw [if_neg (show ¬ (false = true) by decide)] at H
  replace H := Option.bind_eq_some_iff.mp H
  obtain ⟨t585, A200, H⟩ := H
  have A20 := zq A200
  clear A200
  replace H := Option.bind_eq_some_iff.mp H
  obtain ⟨t588, A210, H⟩ := H
  have A21 := zq A210
  clear A210
  by_cases c22 : t588 = true
  rotate_left
  · replace c22 := Bool.eq_false_iff.mpr c22
    subst c22
    rw [if_neg (show ¬ (false = true) by decide)] at H
    exact absurd H J32
  subst c22
  rw [if_pos rfl] at H
  replace H := Option.bind_eq_some_iff.mp H
  obtain ⟨t589, A230, H⟩ := H
  have A23 := zq A230
  clear A230
  replace H := Option.bind_eq_some_iff.mp H
  obtain ⟨t592, A240, H⟩ := H
  have A24 := zq A240
  clear A240
  by_cases c25 : t592 = true
  · subst c25
    rw [if_pos rfl] at H
    exact absurd H J32
  replace c25 := Bool.eq_false_iff.mpr c25
  subst c25
  rw [if_neg (show ¬ (false = true) by decide)] at H
  replace H := Option.bind_eq_some_iff.mp H
  obtain ⟨t593, A260, H⟩ := H
  have A26 := zq A260
  clear A260
  by_cases c27 : t593 = true
  rotate_left
  · replace c27 := Bool.eq_false_iff.mpr c27
    subst c27
    rw [if_neg (show ¬ (false = true) by decide)] at H
    exact absurd H J32
  subst c27
  rw [if_pos rfl] at H
  replace H := Option.bind_eq_some_iff.mp H
  obtain ⟨t594, A280, H⟩ := H
  have A28 := zq A280
  clear A280
  by_cases c29 : t594 = true
  · subst c29
    rw [if_pos rfl] at H
    exact absurd H J32
  replace c29 := Bool.eq_false_iff.mpr c29
  subst c29
  rw [if_neg (show ¬ (false = true) by decide)] at H
  replace H := Option.bind_eq_some_iff.mp H
  obtain ⟨t595, A300, H⟩ := H
  have A30 := zq A300
  clear A300
  replace H := Option.bind_eq_some_iff.mp H
  obtain ⟨t598, A310, H⟩ := H
  have A31 := zq A310
  clear A310
  by_cases c32 : t598 = true
  · subst c32
    rw [if_pos rfl] at H
    exact absurd H J32
  replace c32 := Bool.eq_false_iff.mpr c32
  subst c32
  rw [if_neg (show ¬ (false = true) by decide)] at H
  replace H := Option.bind_eq_some_iff.mp H
  obtain ⟨t599, A330, H⟩ := H
  have A33 := zq A330
  clear A330
  replace H := Option.bind_eq_some_iff.mp H
  obtain ⟨t602, A340, H⟩ := H
  have A34 := zq A340
  clear A340
  by_cases c35 : t602 = true
  rotate_left
  · replace c35 := Bool.eq_false_iff.mpr c35
    subst c35
    rw [if_neg (show ¬ (false = true) by decide)] at H
    exact absurd H J32
  subst c35
  rw [if_pos rfl] at H
  replace H := Option.bind_eq_some_iff.mp H
  obtain ⟨t603, A360, H⟩ := H
  have A36 := zq A360
  clear A360
  replace H := Option.bind_eq_some_iff.mp H
  obtain ⟨t606, A370, H⟩ := H
  have A37 := zq A370
  clear A370
  by_cases c38 : t606 = true
  · subst c38
    rw [if_pos rfl] at H
    exact absurd H J32
  replace c38 := Bool.eq_false_iff.mpr c38
  subst c38
  rw [if_neg (show ¬ (false = true) by decide)] at H
  replace H := Option.bind_eq_some_iff.mp H
  obtain ⟨t607, A390, H⟩ := H
  have A39 := zq A390
  clear A390
  replace H := Option.bind_eq_some_iff.mp H
  obtain ⟨t610, A400, H⟩ := H
  have A40 := zq A400
  clear A400
  by_cases c41 : t610 = true
  · subst c41
    rw [if_pos rfl] at H
    exact absurd H J32
  replace c41 := Bool.eq_false_iff.mpr c41
  subst c41
  rw [if_neg (show ¬ (false = true) by decide)] at H
  replace H := Option.bind_eq_some_iff.mp H
  obtain ⟨t611, A420, H⟩ := H
  have A42 := zq A420
  clear A420
  obtain ⟨y614, hy614⟩ : ∃ y_ : List ByteArray, y_ = (([(⟨#[226, 142, 149, 67, 84]⟩ : ByteArray), (⟨#[226, 142, 149, 73, 79]⟩ : ByteArray), (⟨#[226, 142, 149, 76, 88]⟩ : ByteArray), (⟨#[226, 142, 149, 80, 80]⟩ : ByteArray), (⟨#[226, 142, 149, 80, 87]⟩ : ByteArray), (⟨#[226, 142, 149, 82, 76]⟩ : ByteArray)] : List ByteArray)) := ⟨_, rfl⟩
  rw (occs := .pos [1]) [← hy614] at H
  have Ny614 := zq hy614
  clear hy614
  replace H := Option.bind_eq_some_iff.mp H
  obtain ⟨t617, A430, H⟩ := H
  have A43 := zq A430
  clear A430
  obtain rfl := Option.some.inj H
  go_enter Tryd.func6, Tryd.ntmps6
  go_upto_region 5 with (first | ((with_reducible refine gate_callee (f := 12) rfl ?_); refine goesL_ (some 9) rfl rfl Tryd.func12 J8 rfl #[.string (⟨#[226, 142, 149, 80, 80]⟩ : ByteArray)] rfl J1 ?_; (with_reducible refine (system_Default.calls k (⟨#[226, 142, 149, 80, 80]⟩ : ByteArray) t541 true _ A1.out).mono ?_); rintro e w44 ⟨v542, rfl, ho0, hb⟩; refine ⟨_, rfl, ?_⟩; have HO543 := zq (Kd.N_lower (Kd.N_mono (ok' := fun _ => True) ho0 (fun _ _ => trivial)) (below_size J0)); replace HB := zq (below_step J0 hb); (try clear hb); (try clear hk); (try clear ho0)) | ((with_reducible refine gate_callee (f := 12) rfl ?_); refine goesL_ (some 13) rfl rfl Tryd.func12 J8 rfl #[.string (⟨#[80, 80]⟩ : ByteArray)] rfl J1 ?_; (with_reducible refine (system_Default.calls k (⟨#[80, 80]⟩ : ByteArray) t545 false _ A2.out).mono ?_); rintro e w45 ⟨v546, rfl, ho0, hb⟩; refine ⟨_, rfl, ?_⟩; replace HO543 := zq (Kd.N_elder' (zn HO543.out) (Kd.N_base ho0) hb); replace HB := zq (below_step J0 hb); (try clear hb); (try clear hk); (try clear ho0)) | ((with_reducible refine gate_callee (f := 12) rfl ?_); refine goesL_ (some 17) rfl rfl Tryd.func12 J8 rfl #[.string (⟨#[226, 142, 149, 67, 84]⟩ : ByteArray)] rfl J1 ?_; (with_reducible refine (system_Default.calls k (⟨#[226, 142, 149, 67, 84]⟩ : ByteArray) t549 true _ A3.out).mono ?_); rintro e w46 ⟨v550, rfl, ho0, hb⟩; refine ⟨_, rfl, ?_⟩; replace HO543 := zq (Kd.N_elder' (zn HO543.out) (Kd.N_base ho0) hb); have HO551 := zq (Kd.N_lower (Kd.N_mono (ok' := fun _ => True) ho0 (fun _ _ => trivial)) (below_size J0)); replace HB := zq (below_step J0 hb); (try clear hb); (try clear hk); (try clear ho0)) | ((with_reducible refine gate_dst (N := 20) rfl ?_); (try (refine gate_guard J93 ?_; dsimp only)); refine lwR (Kd.int .i64) 3 20 (xs := ([97] : List Int)) [.int .i64 97] Ny553 (Reps.one (show Kd.M (Kd.int .i64) _ _ _ 97 [.int .i64 97] from rfl) (Reps.none _ _)) ?_; intro v554 w47 ho48 hb; replace HO543 := zq (Kd.N_elder' (zn HO543.out) (Kd.R_base ho48) hb); replace HO551 := zq (Kd.N_elder' (zn HO551.out) (Kd.R_base ho48) hb); have HO555 := zq (Kd.R_lower ho48 (below_size J0)); replace HB := zq (below_step J0 hb); clear hb ho48; obtain ⟨Ao49, co49, eo49⟩ := Kd.R_slice HO555.out; subst eo49) | ((with_reducible refine gate_dst (N := 22) rfl ?_); (try (refine gate_guard J93 ?_; dsimp only)); refine lwN k32 32 22 (xs := ([(⟨3, ([] : List Int), y553, ([] : List (S40))⟩ : S32)] : List (S32))) [.int .i64 3, .slice none 0 0, .slice Ao49 y553.length co49, .slice none 0 0] Ny556 (Reps.c4 (show Kd.FK k32 _ _ (⟨3, ([] : List Int), y553, ([] : List (S40))⟩ : S32) [.int .i64 3, .slice none 0 0, .slice Ao49 y553.length co49, .slice none 0 0] from (k32_mkF _ _ (⟨3, ([] : List Int), y553, ([] : List (S40))⟩ : S32) (Nat.le_refl _) (Kd.F_nil _ _ _) (Kd.R_reads' (Kd.R_mono (ok' := fun _ => True) (HO555.out) (fun _ _ => trivial))).2.1 (Kd.R_F (Kd.R_mono (ok' := fun _ => True) (HO555.out) (fun _ _ => trivial))) (Nat.le_refl _) (Kd.F_nil _ _ _))) (Reps.none _ _)) ?_; intro v557 w50 ho51 hb; replace HO543 := zq (Kd.N_elder' (zn HO543.out) (Kd.N_base ho51) hb); replace HO551 := zq (Kd.N_elder' (zn HO551.out) (Kd.N_base ho51) hb); have HO558 := zq (Kd.N_lower ho51 (below_size J0)); replace HB := zq (below_step J0 hb); clear HO555; clear hb ho51))
  simp only [List.append]
  go_wp2_with (first | (go_at_call 7; (with_reducible refine (decklelaw17_of.calls k 10 t559 _ A5.out).mono ?_); rintro e w52 ⟨v560, rfl, ho0, hb⟩; replace HO543 := zq (Kd.N_elder' (zn HO543.out) (Kd.N_base ho0) hb); replace HO551 := zq (Kd.N_elder' (zn HO551.out) (Kd.N_base ho0) hb); replace HO558 := zq (Kd.N_elder' (zn HO558.out) (Kd.N_base ho0) hb); have HO561 := zq (Kd.N_lower (Kd.N_mono (ok' := fun _ => True) ho0 (fun _ _ => trivial)) (below_size J0)); replace HB := zq (below_step J0 hb); (try clear hb); (try clear hk); (try clear ho0); obtain ⟨Ao53, co53, eo53⟩ := Kd.N_slice HO543.out; subst eo53; obtain ⟨Ao54, co54, eo54⟩ := Kd.N_slice HO561.out; subst eo54; clear A5) | (go_at_call 14; (with_reducible refine (deckleref10_Same.calls k _ _ t541 _ _ t559 true _ ?side1 ?side2 ?side3 ?side4 A6.out).mono ?_); (case side1 => exact zc ((Kd.N_reads' HO543.out).2.2)); (case side2 => exact (Kd.N_reads' HO543.out).2.1); (case side3 => exact zc ((Kd.N_reads' HO561.out).2.2)); (case side4 => exact (Kd.N_reads' HO561.out).2.1); rintro e w55 ⟨rfl, hb⟩; replace HO551 := zq (Kd.N_below (zn HO551.out) hb); replace HO558 := zq (Kd.N_below (zn HO558.out) hb); replace HB := zq (below_step J0 hb); (try clear hb); (try clear hk)) | ((with_reducible refine gate_dst (N := 39) rfl ?_); (try (refine gate_guard J93 ?_; dsimp only)); refine lwR k40 40 39 (xs := ([(⟨1, (-13)⟩ : S40)] : List (S40))) [.int .i64 1, .int .i64 (-13)] Ny563 (Reps.c2 (show Kd.M k40 _ _ _ (⟨1, (-13)⟩ : S40) [.int .i64 1, .int .i64 (-13)] from (k40_mkM _ _ _ (⟨1, (-13)⟩ : S40) )) (Reps.none _ _)) ?_; intro v564 w56 ho57 hb; replace HO551 := zq (Kd.N_elder' (zn HO551.out) (Kd.R_base ho57) hb); replace HO558 := zq (Kd.N_elder' (zn HO558.out) (Kd.R_base ho57) hb); have HO565 := zq (Kd.R_lower ho57 (below_size J0)); replace HB := zq (below_step J0 hb); clear hb ho57; obtain ⟨Ao58, co58, eo58⟩ := Kd.R_slice HO565.out; subst eo58) | ((with_reducible refine gate_dst (N := 41) rfl ?_); (try (refine gate_guard J93 ?_; dsimp only)); refine lwN k32 32 41 (xs := ([(⟨4, ([] : List Int), ([] : List Int), y563⟩ : S32)] : List (S32))) [.int .i64 4, .slice none 0 0, .slice none 0 0, .slice Ao58 y563.length co58] Ny566 (Reps.c4 (show Kd.FK k32 _ _ (⟨4, ([] : List Int), ([] : List Int), y563⟩ : S32) [.int .i64 4, .slice none 0 0, .slice none 0 0, .slice Ao58 y563.length co58] from (k32_mkF _ _ (⟨4, ([] : List Int), ([] : List Int), y563⟩ : S32) (Nat.le_refl _) (Kd.F_nil _ _ _) (Nat.le_refl _) (Kd.F_nil _ _ _) (Kd.R_reads' (Kd.R_mono (ok' := fun _ => True) (HO565.out) (fun _ _ => trivial))).2.1 (Kd.R_F (Kd.R_mono (ok' := fun _ => True) (HO565.out) (fun _ _ => trivial))))) (Reps.none _ _)) ?_; intro v567 w59 ho60 hb; replace HO551 := zq (Kd.N_elder' (zn HO551.out) (Kd.N_base ho60) hb); replace HO558 := zq (Kd.N_elder' (zn HO558.out) (Kd.N_base ho60) hb); have HO568 := zq (Kd.N_lower ho60 (below_size J0)); replace HB := zq (below_step J0 hb); clear HO565; clear hb ho60; obtain ⟨Ao61, co61, eo61⟩ := Kd.N_slice HO551.out; subst eo61; obtain ⟨Ao62, co62, eo62⟩ := Kd.N_slice HO568.out; subst eo62) | (go_at_call 14; (with_reducible refine (deckleref10_Same.calls k _ _ t549 _ _ y566 true _ ?side1 ?side2 ?side3 ?side4 A10.out).mono ?_); (case side1 => exact zc ((Kd.N_reads' HO551.out).2.2)); (case side2 => exact (Kd.N_reads' HO551.out).2.1); (case side3 => exact zc ((Kd.N_reads' HO568.out).2.2)); (case side4 => exact (Kd.N_reads' HO568.out).2.1); rintro e w63 ⟨rfl, hb⟩; replace HO558 := zq (Kd.N_below (zn HO558.out) hb); replace HB := zq (below_step J0 hb); (try clear hb); (try clear hk)) | (go_at_call 7; (with_reducible refine (decklelaw17_of.calls k 0 t570 _ A12.out).mono ?_); rintro e w64 ⟨v571, rfl, ho0, hb⟩; replace HO558 := zq (Kd.N_elder' (zn HO558.out) (Kd.N_base ho0) hb); have HO572 := zq (Kd.N_lower (Kd.N_mono (ok' := fun _ => True) ho0 (fun _ _ => trivial)) (below_size J0)); replace HB := zq (below_step J0 hb); (try clear hb); (try clear hk); (try clear ho0); obtain ⟨Ao65, co65, eo65⟩ := Kd.N_slice HO572.out; subst eo65; clear A12) | (go_at_call 9; (with_reducible refine (system_Right.calls k (⟨#[226, 142, 149, 73, 79]⟩ : ByteArray) _ _ t570 true _ ?side1 ?side2 (htab_below HT.out J0) A13.out).mono ?_); (case side1 => exact zc ((Kd.N_reads' HO572.out).2.2)); (case side2 => exact (Kd.N_reads' HO572.out).2.1); rintro e w66 ⟨rfl, hb⟩; replace HO558 := zq (Kd.N_below (zn HO558.out) hb); replace HB := zq (below_step J0 hb); (try clear hb); (try clear hk)) | (go_at_call 7; (with_reducible refine (decklelaw17_of.calls k 2 t574 _ A15.out).mono ?_); rintro e w67 ⟨v575, rfl, ho0, hb⟩; replace HO558 := zq (Kd.N_elder' (zn HO558.out) (Kd.N_base ho0) hb); have HO576 := zq (Kd.N_lower (Kd.N_mono (ok' := fun _ => True) ho0 (fun _ _ => trivial)) (below_size J0)); replace HB := zq (below_step J0 hb); (try clear hb); (try clear hk); (try clear ho0); obtain ⟨Ao68, co68, eo68⟩ := Kd.N_slice HO576.out; subst eo68; clear A15) | (go_at_call 9; (with_reducible refine (system_Right.calls k (⟨#[226, 142, 149, 73, 79]⟩ : ByteArray) _ _ t574 false _ ?side1 ?side2 (htab_below HT.out J0) A16.out).mono ?_); (case side1 => exact zc ((Kd.N_reads' HO576.out).2.2)); (case side2 => exact (Kd.N_reads' HO576.out).2.1); rintro e w69 ⟨rfl, hb⟩; replace HO558 := zq (Kd.N_below (zn HO558.out) hb); replace HB := zq (below_step J0 hb); (try clear hb); (try clear hk)) | ((with_reducible refine gate_dst (N := 54) rfl ?_); (try (refine gate_guard J93 ?_; dsimp only)); refine lwR (Kd.int .i64) 3 54 (xs := ([1] : List Int)) [.int .i64 1] Ny578 (Reps.one (show Kd.M (Kd.int .i64) _ _ _ 1 [.int .i64 1] from rfl) (Reps.none _ _)) ?_; intro v579 w70 ho71 hb; replace HO558 := zq (Kd.N_elder' (zn HO558.out) (Kd.R_base ho71) hb); have HO580 := zq (Kd.R_lower ho71 (below_size J0)); replace HB := zq (below_step J0 hb); clear hb ho71; obtain ⟨Ao72, co72, eo72⟩ := Kd.R_slice HO580.out; subst eo72) | ((with_reducible refine gate_dst (N := 56) rfl ?_); (try (refine gate_guard J93 ?_; dsimp only)); refine lwN k32 32 56 (xs := ([(⟨2, ([] : List Int), y578, ([] : List (S40))⟩ : S32)] : List (S32))) [.int .i64 2, .slice none 0 0, .slice Ao72 y578.length co72, .slice none 0 0] Ny581 (Reps.c4 (show Kd.FK k32 _ _ (⟨2, ([] : List Int), y578, ([] : List (S40))⟩ : S32) [.int .i64 2, .slice none 0 0, .slice Ao72 y578.length co72, .slice none 0 0] from (k32_mkF _ _ (⟨2, ([] : List Int), y578, ([] : List (S40))⟩ : S32) (Nat.le_refl _) (Kd.F_nil _ _ _) (Kd.R_reads' (Kd.R_mono (ok' := fun _ => True) (HO580.out) (fun _ _ => trivial))).2.1 (Kd.R_F (Kd.R_mono (ok' := fun _ => True) (HO580.out) (fun _ _ => trivial))) (Nat.le_refl _) (Kd.F_nil _ _ _))) (Reps.none _ _)) ?_; intro v582 w73 ho74 hb; replace HO558 := zq (Kd.N_elder' (zn HO558.out) (Kd.N_base ho74) hb); have HO583 := zq (Kd.N_lower ho74 (below_size J0)); replace HB := zq (below_step J0 hb); clear HO580; clear hb ho74; obtain ⟨Ao75, co75, eo75⟩ := Kd.N_slice HO583.out; subst eo75) | (go_at_call 9; (with_reducible refine (system_Right.calls k (⟨#[226, 142, 149, 73, 79]⟩ : ByteArray) _ _ y581 false _ ?side1 ?side2 (htab_below HT.out J0) A18.out).mono ?_); (case side1 => exact zc ((Kd.N_reads' HO583.out).2.2)); (case side2 => exact (Kd.N_reads' HO583.out).2.1); rintro e w76 ⟨rfl, hb⟩; replace HO558 := zq (Kd.N_below (zn HO558.out) hb); replace HB := zq (below_step J0 hb); (try clear hb); (try clear hk)) | (go_at_call 7; (with_reducible refine (decklelaw17_of.calls k 0 t585 _ A20.out).mono ?_); rintro e w77 ⟨v586, rfl, ho0, hb⟩; replace HO558 := zq (Kd.N_elder' (zn HO558.out) (Kd.N_base ho0) hb); have HO587 := zq (Kd.N_lower (Kd.N_mono (ok' := fun _ => True) ho0 (fun _ _ => trivial)) (below_size J0)); replace HB := zq (below_step J0 hb); (try clear hb); (try clear hk); (try clear ho0); obtain ⟨Ao78, co78, eo78⟩ := Kd.N_slice HO587.out; subst eo78; clear A20) | (go_at_call 9; (with_reducible refine (system_Right.calls k (⟨#[226, 142, 149, 67, 84]⟩ : ByteArray) _ _ t585 true _ ?side1 ?side2 (htab_below HT.out J0) A21.out).mono ?_); (case side1 => exact zc ((Kd.N_reads' HO587.out).2.2)); (case side2 => exact (Kd.N_reads' HO587.out).2.1); rintro e w79 ⟨rfl, hb⟩; replace HO558 := zq (Kd.N_below (zn HO558.out) hb); replace HB := zq (below_step J0 hb); (try clear hb); (try clear hk)) | (go_at_call 7; (with_reducible refine (decklelaw17_of.calls k 1 t589 _ A23.out).mono ?_); rintro e w80 ⟨v590, rfl, ho0, hb⟩; replace HO558 := zq (Kd.N_elder' (zn HO558.out) (Kd.N_base ho0) hb); have HO591 := zq (Kd.N_lower (Kd.N_mono (ok' := fun _ => True) ho0 (fun _ _ => trivial)) (below_size J0)); replace HB := zq (below_step J0 hb); (try clear hb); (try clear hk); (try clear ho0); obtain ⟨Ao81, co81, eo81⟩ := Kd.N_slice HO591.out; subst eo81; clear A23) | (go_at_call 9; (with_reducible refine (system_Right.calls k (⟨#[226, 142, 149, 67, 84]⟩ : ByteArray) _ _ t589 false _ ?side1 ?side2 (htab_below HT.out J0) A24.out).mono ?_); (case side1 => exact zc ((Kd.N_reads' HO591.out).2.2)); (case side2 => exact (Kd.N_reads' HO591.out).2.1); rintro e w82 ⟨rfl, hb⟩; replace HO558 := zq (Kd.N_below (zn HO558.out) hb); replace HB := zq (below_step J0 hb); (try clear hb); (try clear hk); obtain ⟨Ao83, co83, eo83⟩ := Kd.N_slice HO558.out; subst eo83) | (go_at_call 9; (with_reducible refine (system_Right.calls k (⟨#[226, 142, 149, 76, 88]⟩ : ByteArray) _ _ y556 true _ ?side1 ?side2 (htab_below HT.out J0) A26.out).mono ?_); (case side1 => exact zc ((Kd.N_reads' HO558.out).2.2)); (case side2 => exact (Kd.N_reads' HO558.out).2.1); rintro e w84 ⟨rfl, hb⟩; replace HO558 := zq (Kd.N_below (zn HO558.out) hb); replace HB := zq (below_step J0 hb); (try clear hb); (try clear hk)) | (go_at_call 9; (with_reducible refine (system_Right.calls k (⟨#[226, 142, 149, 80, 80]⟩ : ByteArray) _ _ y556 false _ ?side1 ?side2 (htab_below HT.out J0) A28.out).mono ?_); (case side1 => exact zc ((Kd.N_reads' HO558.out).2.2)); (case side2 => exact (Kd.N_reads' HO558.out).2.1); rintro e w85 ⟨rfl, hb⟩; replace HB := zq (below_step J0 hb); (try clear hb); (try clear hk)) | (go_at_call 7; (with_reducible refine (decklelaw17_of.calls k 29 t595 _ A30.out).mono ?_); rintro e w86 ⟨v596, rfl, ho0, hb⟩; have HO597 := zq (Kd.N_lower (Kd.N_mono (ok' := fun _ => True) ho0 (fun _ _ => trivial)) (below_size J0)); replace HB := zq (below_step J0 hb); (try clear hb); (try clear hk); (try clear ho0); obtain ⟨Ao87, co87, eo87⟩ := Kd.N_slice HO597.out; subst eo87; clear A30) | (go_at_call 9; (with_reducible refine (system_Right.calls k (⟨#[226, 142, 149, 80, 87]⟩ : ByteArray) _ _ t595 false _ ?side1 ?side2 (htab_below HT.out J0) A31.out).mono ?_); (case side1 => exact zc ((Kd.N_reads' HO597.out).2.2)); (case side2 => exact (Kd.N_reads' HO597.out).2.1); rintro e w88 ⟨rfl, hb⟩; replace HB := zq (below_step J0 hb); (try clear hb); (try clear hk)) | (go_at_call 7; (with_reducible refine (decklelaw17_of.calls k 2147483646 t599 _ A33.out).mono ?_); rintro e w89 ⟨v600, rfl, ho0, hb⟩; have HO601 := zq (Kd.N_lower (Kd.N_mono (ok' := fun _ => True) ho0 (fun _ _ => trivial)) (below_size J0)); replace HB := zq (below_step J0 hb); (try clear hb); (try clear hk); (try clear ho0); obtain ⟨Ao90, co90, eo90⟩ := Kd.N_slice HO601.out; subst eo90; clear A33) | (go_at_call 9; (with_reducible refine (system_Right.calls k (⟨#[226, 142, 149, 82, 76]⟩ : ByteArray) _ _ t599 true _ ?side1 ?side2 (htab_below HT.out J0) A34.out).mono ?_); (case side1 => exact zc ((Kd.N_reads' HO601.out).2.2)); (case side2 => exact (Kd.N_reads' HO601.out).2.1); rintro e w91 ⟨rfl, hb⟩; replace HB := zq (below_step J0 hb); (try clear hb); (try clear hk)) | (go_at_call 7; (with_reducible refine (decklelaw17_of.calls k 0 t603 _ A36.out).mono ?_); rintro e w92 ⟨v604, rfl, ho0, hb⟩; have HO605 := zq (Kd.N_lower (Kd.N_mono (ok' := fun _ => True) ho0 (fun _ _ => trivial)) (below_size J0)); replace HB := zq (below_step J0 hb); (try clear hb); (try clear hk); (try clear ho0); obtain ⟨Ao93, co93, eo93⟩ := Kd.N_slice HO605.out; subst eo93; clear A36) | (go_at_call 9; (with_reducible refine (system_Right.calls k (⟨#[226, 142, 149, 82, 76]⟩ : ByteArray) _ _ t603 false _ ?side1 ?side2 (htab_below HT.out J0) A37.out).mono ?_); (case side1 => exact zc ((Kd.N_reads' HO605.out).2.2)); (case side2 => exact (Kd.N_reads' HO605.out).2.1); rintro e w94 ⟨rfl, hb⟩; replace HB := zq (below_step J0 hb); (try clear hb); (try clear hk)) | (go_at_call 7; (with_reducible refine (decklelaw17_of.calls k 1 t607 _ A39.out).mono ?_); rintro e w95 ⟨v608, rfl, ho0, hb⟩; have HO609 := zq (Kd.N_lower (Kd.N_mono (ok' := fun _ => True) ho0 (fun _ _ => trivial)) (below_size J0)); replace HB := zq (below_step J0 hb); (try clear hb); (try clear hk); (try clear ho0); obtain ⟨Ao96, co96, eo96⟩ := Kd.N_slice HO609.out; subst eo96; clear A39) | (go_at_call 9; (with_reducible refine (system_Right.calls k (⟨#[65]⟩ : ByteArray) _ _ t607 false _ ?side1 ?side2 (htab_below HT.out J0) A40.out).mono ?_); (case side1 => exact zc ((Kd.N_reads' HO609.out).2.2)); (case side2 => exact (Kd.N_reads' HO609.out).2.1); rintro e w97 ⟨rfl, hb⟩; replace HB := zq (below_step J0 hb); (try clear hb); (try clear hk)) | (go_at_call 8; (with_reducible refine (system_Names.calls  t611 _ A42.out).mono ?_); rintro e w98 ⟨v612, rfl, ho0, hb⟩; have HO613 := zq (Kd.R_lower ho0 (below_size J0)); replace HB := zq (below_step J0 hb); (try clear hb); (try clear hk); (try clear ho0)) | ((with_reducible refine gate_dst (N := 99) rfl ?_); (try (refine gate_guard J93 ?_; dsimp only)); refine Kd.R_lit Kd.string _ 9 ?hg (N := 99) ?hd (xs := ([(⟨#[226, 142, 149, 67, 84]⟩ : ByteArray), (⟨#[226, 142, 149, 73, 79]⟩ : ByteArray), (⟨#[226, 142, 149, 76, 88]⟩ : ByteArray), (⟨#[226, 142, 149, 80, 80]⟩ : ByteArray), (⟨#[226, 142, 149, 80, 87]⟩ : ByteArray), (⟨#[226, 142, 149, 82, 76]⟩ : ByteArray)] : List ByteArray)) (inner := [.string (⟨#[226, 142, 149, 67, 84]⟩ : ByteArray), .string (⟨#[226, 142, 149, 73, 79]⟩ : ByteArray), .string (⟨#[226, 142, 149, 76, 88]⟩ : ByteArray), .string (⟨#[226, 142, 149, 80, 80]⟩ : ByteArray), .string (⟨#[226, 142, 149, 80, 87]⟩ : ByteArray), .string (⟨#[226, 142, 149, 82, 76]⟩ : ByteArray)]) (ok := fun _ => True) (okp := fun _ => True) ?hr ?hp (fun _ hk => hk) trivial (Below.refl _ _) (Nat.le_refl _) J32 ?_; (case hd => rfl); (case hg => rfl); (case hr => first | (go_simp; done) | (go_simp; rfl)); (case hp => exact (Reps.one (show Kd.M Kd.string _ _ _ (⟨#[226, 142, 149, 67, 84]⟩ : ByteArray) [.string (⟨#[226, 142, 149, 67, 84]⟩ : ByteArray)] from rfl) (Reps.one (show Kd.M Kd.string _ _ _ (⟨#[226, 142, 149, 73, 79]⟩ : ByteArray) [.string (⟨#[226, 142, 149, 73, 79]⟩ : ByteArray)] from rfl) (Reps.one (show Kd.M Kd.string _ _ _ (⟨#[226, 142, 149, 76, 88]⟩ : ByteArray) [.string (⟨#[226, 142, 149, 76, 88]⟩ : ByteArray)] from rfl) (Reps.one (show Kd.M Kd.string _ _ _ (⟨#[226, 142, 149, 80, 80]⟩ : ByteArray) [.string (⟨#[226, 142, 149, 80, 80]⟩ : ByteArray)] from rfl) (Reps.one (show Kd.M Kd.string _ _ _ (⟨#[226, 142, 149, 80, 87]⟩ : ByteArray) [.string (⟨#[226, 142, 149, 80, 87]⟩ : ByteArray)] from rfl) (Reps.one (show Kd.M Kd.string _ _ _ (⟨#[226, 142, 149, 82, 76]⟩ : ByteArray) [.string (⟨#[226, 142, 149, 82, 76]⟩ : ByteArray)] from rfl) (Reps.none _ _)))))))); intro v615 w99 ho100 hb hg_ hnew_; clear hg_ hnew_; (first | rw [← Ny614.out] at ho100 | (simp only [Int.reduceToNat] at ho100; rw [← Ny614.out] at ho100)); replace HO613 := zq (Kd.R_elder' (zr HO613.out) (Kd.R_base ho100) hb); have HO616 := zq (Kd.R_lower ho100 (below_size J0)); replace HB := zq (below_step J0 hb); clear hb ho100; obtain ⟨Ao101, co101, eo101⟩ := Kd.R_slice HO613.out; subst eo101; obtain ⟨Ao102, co102, eo102⟩ := Kd.R_slice HO616.out; subst eo102) | (go_at_call 15; (with_reducible refine (deckleref16_Same.calls k _ _ t611 _ _ y614 t617 _ ?side1 ?side2 ?side3 ?side4 A43.out).mono ?_); (case side1 => exact zc ((Kd.R_reads' HO613.out).2.2)); (case side2 => exact (Kd.R_reads' HO613.out).2.1); (case side3 => exact zc ((Kd.R_reads' HO616.out).2.2)); (case side4 => exact (Kd.R_reads' HO616.out).2.1); rintro e w' ⟨rfl, ⟨nd, rfl⟩⟩))
  go_ret
  exact ⟨J2, J0⟩
end Go.Proofs.YtfjhiiaahbjaiaaDoor.HSystemSigns
