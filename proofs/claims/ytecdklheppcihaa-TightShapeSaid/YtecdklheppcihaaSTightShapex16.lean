/- What the Go functions of this claim answer, told as functions of numbers and lists, and that other memory stays as it was: words and walks, shortened by a program. -/
import Derived.Test.YtecdklheppcihaaSTightShapex0
import Derived.Test.YtecdklheppcihaaSTightShapex11
import Derived.Test.YtecdklheppcihaaSTightShapex14
import Derived.Test.YtecdklheppcihaaSTightShapex15
namespace Go.Proofs.Ytecdklheppcihaa.HTightNumbers
open Go.RowKit Go.Proofs.YtecdklheppcihaaW.PrintWords Go.Proofs.YtecdklheppcihaaW.PrintLast Go.Proofs.YtecdklheppcihaaW.PrintMore
attribute [local go_sem] max2_int min2_int max_two min_two max_three min_three max_four min_four
set_option linter.unusedVariables false
set_option linter.unusedSimpArgs false
mutual
def decklelaw11_TightShape.j0 : Nat → List (S30) → Bool → List (S30) → Bool → Option (Bool)
  | 0, _, _, _, _ => none
  | k + 1, x0, x3, x5, x20 => if x20 = true then (some x3) else (if (x0.length : Int) < 1 then (decklelaw11_TightShape.j1 k x0 x3 x5 true) else (if (x5.length : Int) < 1 then (decklelaw11_TightShape.j1 k x0 x3 x5 true) else (if 0 < (x0.length : Int) then (if 0 < (x5.length : Int) then ((deckleref01_Same.f k ((rd_T30 x0 0).f1) ((rd_T30 x5 0).f1)).bind fun t597 => (decklelaw11_TightShape.j1 k x0 x3 x5 (!t597))) else (none)) else (none))))
def decklelaw11_TightShape.j1 : Nat → List (S30) → Bool → List (S30) → Bool → Option (Bool)
  | 0, _, _, _, _ => none
  | k + 1, x0, x3, x5, x41 => if x41 = true then (none) else (if 0 < (x0.length : Int) then (if ((rd_T30 x0 0).f0) = 1 then (if x3 = true then (if (x5.length : Int) = 1 then (if 0 < (x5.length : Int) then ((deckleref01_Same.f k ((rd_T30 x0 0).f2) ((rd_T30 x5 0).f2)).bind fun t601 => (if t601 = true then (if ((rd_T30 x5 0).f0) = 1 then (some true) else (some (((rd_T30 x5 0).f0) == 2))) else (none))) else (none)) else (none)) else (none)) else (if ((rd_T30 x0 0).f0) = 2 then (if x3 = true then (if (x5.length : Int) = 1 then (if 0 < (x5.length : Int) then ((deckleref01_Same.f k ((rd_T30 x0 0).f2) ((rd_T30 x5 0).f2)).bind fun t607 => (if t607 = true then (if ((rd_T30 x5 0).f0) = 1 then (some true) else (some (((rd_T30 x5 0).f0) == 2))) else (none))) else (none)) else (none)) else (none)) else (if x3 = true then (if ((rd_T30 x0 0).f0) = 5 then (some true) else (if 0 < (x5.length : Int) then (some ((((rd_T30 x0 0).f0) == 3) == (((rd_T30 x5 0).f0) == 3))) else (none))) else (none)))) else (none))
end
def decklelaw11_TightShape.f (k : Nat) (l0 : List (S30)) : Option (Bool) := (decklelaw11_small.f k).bind fun t589 => ((decklelaw10_Few.f k l0).bind fun t590 => ((tight_Make.f k l0).bind fun bt591 => (if t590 = true then (decklelaw11_TightShape.j0 k l0 t589 bt591.1 (!bt591.2)) else (decklelaw11_TightShape.j0 k l0 t589 bt591.1 true))))
def decklelaw11_TightShape.T6 : Bool × List (List Nat × List Nat) := (true, [([], []), ([0], [0]), ([1], [1]), ([2], [2]), ([3], [3]), ([4, 3], [3, 4]), ([5, 3], [3, 5]), ([3, 6], [3, 6]), ([7, 3], [7]), ([8], [8]), ([9, 8], [8, 9]), ([10, 8], [8, 10]), ([11, 8], [8, 11]), ([8], [8]), ([13, 8], [8, 13]), ([14, 8], [8, 14]), ([15, 8], [8, 15]), ([12, 16, 8, 8], [8, 12, 16]), ([17, 8], [8, 17]), ([8, 18], [8, 18])])
def decklelaw11_TightShape.B6 : List Nat := [0, 1, 3, 7, 15, 31, 63, 127, 255, 511, 1023, 2047, 4095, 511, 8703, 25087, 57855, 131071, 262143, 524287]
theorem decklelaw11_TightShape.tab6 : rtab .any (opsOf Try.f5 6) = decklelaw11_TightShape.T6 := J4
theorem decklelaw11_TightShape.bits6 : waitsOk decklelaw11_TightShape.T6.2 decklelaw11_TightShape.B6 = true := J4
def decklelaw11_TightShape.T9 : Bool × List (List Nat × List Nat) := (true, [([], []), ([0], [0]), ([1], [1]), ([2, 1], [1, 2]), ([3, 1], [1, 3]), ([4, 1], [1, 4]), ([5, 1], [1, 5]), ([6, 1, 1], [1, 6]), ([7], [7]), ([8, 7], [7, 8]), ([9, 7], [7, 9]), ([10, 7], [7, 10]), ([11, 7], [7, 11]), ([7], [7]), ([13, 7], [7, 13]), ([14, 7], [7, 14]), ([15, 7], [7, 15]), ([16, 7], [7, 16]), ([12, 17, 7], [7, 12, 17]), ([7, 18, 1], [1, 7, 18]), ([1, 19], [1, 19]), ([20, 7, 0, 1, 2, 3, 4, 5, 6, 7, 8, 9, 10, 11, 12, 13, 14, 15, 16, 17, 18, 19, 20], [20])])
def decklelaw11_TightShape.B9 : List Nat := [0, 1, 3, 7, 15, 31, 63, 127, 255, 511, 1023, 2047, 4095, 255, 8447, 24831, 57599, 123135, 262143, 524287, 1048575, 2097151]
theorem decklelaw11_TightShape.tab9 : rtab .any (opsOf Try.f5 9) = decklelaw11_TightShape.T9 := J4
theorem decklelaw11_TightShape.bits9 : waitsOk decklelaw11_TightShape.T9.2 decklelaw11_TightShape.B9 = true := J4
def decklelaw11_TightShape.T10 : Bool × List (List Nat × List Nat) := (true, [([], []), ([0], [0]), ([1], [1]), ([2, 1], [1, 2]), ([3, 1], [1, 3]), ([1, 4], [1, 4]), ([5, 1], [5]), ([6], [6]), ([7, 6], [6, 7]), ([8, 6], [6, 8]), ([9, 6], [6, 9]), ([6], [6]), ([11, 6], [6, 11]), ([12, 6], [6, 12]), ([13, 6], [6, 13]), ([10, 14, 6, 6], [6, 10, 14]), ([6, 15], [6, 15]), ([16, 15], [16]), ([17], [17]), ([18, 17], [17, 18]), ([19, 17], [17, 19]), ([20, 17], [17, 20]), ([21, 17], [17, 21]), ([22, 17, 17], [17, 22]), ([23], [23]), ([24, 23], [23, 24]), ([25, 23], [23, 25]), ([26, 23], [23, 26]), ([27, 23], [23, 27]), ([23, 28, 17], [17, 23, 28]), ([17, 29], [17, 29]), ([30, 23, 0, 1, 2, 3, 4, 5, 6, 7, 8, 9, 10, 11, 12, 13, 14, 15, 16, 17, 18, 19, 20, 21, 22, 23, 24, 25, 26, 27, 28, 29, 30], [30])])
def decklelaw11_TightShape.B10 : List Nat := [0, 1, 3, 7, 15, 31, 63, 127, 255, 511, 1023, 127, 2175, 6271, 14463, 32767, 65535, 131071, 262143, 524287, 1048575, 2097151, 4194303, 8388607, 16777215, 33554431, 67108863, 134217727, 268435455, 536870911, 1073741823, 2147483647]
theorem decklelaw11_TightShape.tab10 : rtab .any (opsOf Try.f5 10) = decklelaw11_TightShape.T10 := J4
theorem decklelaw11_TightShape.bits10 : waitsOk decklelaw11_TightShape.T10.2 decklelaw11_TightShape.B10 = true := J4
set_option maxHeartbeats 8000000 in
set_option maxRecDepth 100000 in
theorem decklelaw11_TightShape.calls (k : Nat) (A0 : Option Addr) (c0 : Nat) (l0 : List (S30)) (r : Bool) (w : World) (hr0 : Kd.C k30 w A0 l0.length l0) (hc0 : l0.length ≤ c0) (h : decklelaw11_TightShape.f k l0 = some r) :
    Calls Try.prog 5 #[.slice A0 l0.length c0] w fun e w' => e = .returned (.bool r) ∧ Below w.heap.size w w' := by
  have HR0 := zq hr0
  have HC0 := zq hc0
  clear hr0 hc0
  have HB := zq (Below.refl w.heap.size w)
  have H : ((decklelaw11_small.f k).bind fun t589 => ((decklelaw10_Few.f k l0).bind fun t590 => ((tight_Make.f k l0).bind fun bt591 => (if t590 = true then (decklelaw11_TightShape.j0 k l0 t589 bt591.1 (!bt591.2)) else (decklelaw11_TightShape.j0 k l0 t589 bt591.1 true))))) = some r := h
  clear h
  replace H := Option.bind_eq_some_iff.mp H
  obtain ⟨t589, A20, H⟩ := H
  have A2 := zq A20
  clear A20
  replace H := Option.bind_eq_some_iff.mp H
  obtain ⟨t590, A30, H⟩ := H
  have A3 := zq A30
  clear A30
  replace H := Option.bind_eq_some_iff.mp H
  obtain ⟨⟨t591, t594⟩, A40, H⟩ := H
  dsimp only at H
  have A4 := zq A40
  clear A40
  have HC5 := zq H
  clear H
  go_enter Try.func5, Try.ntmps5
  go_upto_region 4 with (first | ((with_reducible refine gate_callee (f := 9) rfl ?_); refine goesL_ (some 7) rfl rfl Try.func9 J4 rfl #[] rfl J1 ?_; (with_reducible refine (decklelaw11_small.calls k  t589 _ A2.out).mono ?_); rintro e w6 ⟨rfl, hb⟩; refine ⟨_, rfl, ?_⟩; replace HB := zq (below_step J0 hb); (try clear hb)) | ((with_reducible refine gate_callee (f := 10) rfl ?_); refine goesL_ (some 9) rfl rfl Try.func10 J4 rfl #[.slice A0 l0.length c0] rfl J1 ?_; (with_reducible refine (decklelaw10_Few.calls k _ _ l0 t590 _ ?side1 ?side2 A3.out).mono ?_); (case side1 => exact zc (Kd.C_below HR0.out HB.out)); (case side2 => exact HC0.out); rintro e w' ⟨rfl, ⟨nd, rfl⟩⟩; refine ⟨_, rfl, ?_⟩) | ((with_reducible refine gate_callee (f := 11) rfl ?_); refine goesL_ (some 12) rfl rfl Try.func11 J4 rfl #[.slice A0 l0.length c0] rfl J1 ?_; (with_reducible refine (tight_Make.calls k (fun _ => True) _ _ l0 t591 t594 _ ?side1 A4.out).mono ?_); (case side1 => exact Kd.V_mono (ok' := fun _ => True) (Kd.V_mk HC0.out (Kd.F_below (Kd.C_F k30_heap HR0.out) J0)) (fun _ _ => trivial)); rintro e w7 ⟨v592, rfl, ho0, hb⟩; refine ⟨_, rfl, ?_⟩; have HO593 := zq (Kd.N_lower (Kd.N_mono (ok' := fun _ => True) ho0 (fun _ _ => trivial)) (below_size J0)); replace HB := zq (below_step J0 hb); (try clear hb); (try clear ho0)))
  (try simp only [Act.put, List.setIfInBounds_toArray, List.set_cons_zero, List.set_cons_succ])
  go_cut [20] (fun v20 wc => ∃ (kq : Nat) (x20_4 : Bool), v20 = .bool x20_4 ∧ Aside0 (decklelaw11_TightShape.j0 kq l0 t589 t591 x20_4 = some r) ∧ Aside0 (kq ≤ k) ∧ Aside0 (Kd.N k30 30 wc w.heap.size (fun _ => True) v592 t591) ∧ Aside0 (Below w.heap.size w wc))
  case first =>
    have H := HC5.out
    clear HC5
    by_cases c8 : t590 = true
    · subst c8
      rw [if_pos rfl] at H
      have H' := zq H
      clear H
      go_wp2
      go_meet
      case rel => exact ⟨_, (!t594), J6, H', ⟨J48⟩, ⟨J111⟩, ⟨J0⟩⟩
    replace c8 := Bool.eq_false_iff.mpr c8
    subst c8
    rw [if_neg (show ¬ (false = true) by decide)] at H
    have H' := zq H
    clear H
    go_wp2
    go_meet
    case rel => exact ⟨_, (true), J6, H', ⟨J48⟩, ⟨J111⟩, ⟨J0⟩⟩
  case rest =>
    clear HC5
    try clear c1
    try clear p2
    try clear c5
    try clear c8
    obtain ⟨kq, x20_4, rfl, HA, HJ4, HO_5, HB⟩ := hcut
    cases kq with
    | zero => exact absurd HA.out (by simp [decklelaw11_TightShape.j0])
    | succ kj4 =>
      have H := HA.out
      clear HA
      simp only [decklelaw11_TightShape.j0] at H
      by_cases c9 : x20_4 = true
      · subst c9
        rw [if_pos rfl] at H
        obtain rfl := Option.some.inj H
        go_wp2
        go_ret
        exact ⟨J3, J0⟩
      replace c9 := Bool.eq_false_iff.mpr c9
      subst c9
      rw [if_neg (show ¬ (false = true) by decide)] at H
      have HC10 := zq H
      clear H
      go_upto_region 6 with (fail)
      go_cut [41] (fun v41 wc => ∃ (kq : Nat) (x41_9 : Bool), v41 = .bool x41_9 ∧ Aside0 (decklelaw11_TightShape.j1 kq l0 t589 t591 x41_9 = some r) ∧ Aside0 (kq ≤ kj4) ∧ Aside0 (Kd.N k30 30 wc w.heap.size (fun _ => True) v592 t591) ∧ Aside0 (Below w.heap.size w wc))
      case first =>
        have H := HC10.out
        clear HC10
        by_cases c11 : (l0.length : Int) < 1
        · rw [if_pos c11] at H
          have c11b0 := decide_eq_true c11
          have c11b1 : decide (l0.length < 1) = true := decide_eq_true J15
          clear c11
          (first | rw [c11b0] | (simp only [i64_w, i32_w]; rw [c11b0]) | skip)
          have H' := zq H
          clear H
          try go_wp2
          replace HO_5 := zq (Kd.N_drew HO_5.out)
          replace HB := zq (below_drew1 HB.out)
          refine start_ (n := 20) (S := fun w' => True) (ds := []) #[Z,Z,Z,Z,Z,Z,Z,Z,Z,Z,Z,Z,Z,Z,Z,Z,Z,Z,Z,Z] J4 rfl rfl trivial (fun hHeld => ?_); refine with_tabW decklelaw11_TightShape.tab6 decklelaw11_TightShape.bits6 (fun HT_ HW_ => ?_)
          generalize wc.drew = w12 at HO_5 HB hHeld ⊢
          refine pure_ (i := 0) (N := some 22) (v := ?_) (a' := ?_) #[Y,Z,Z,Z,Z,Z,Z,Z,Z,Z,Z,Z,Z,Z,Z,Z,Z,Z,Z,Z] rfl rfl (any_of HT_.out J4) (fun _ _ _ h => h) (Or.inl ⟨J28, ?_⟩) ?_ ?_
          rotate_left
          · exact pz0
          rotate_left
          · exact pz1
          refine pure_ (i := 1) (N := some 23) (v := ?_) (a' := ?_) #[Y,Y,Z,Z,Z,Z,Z,Z,Z,Z,Z,Z,Z,Z,Z,Z,Z,Z,Z,Z] rfl rfl (any_of HT_.out J4) (fun _ _ _ h => h) (Or.inl ⟨J28, ?_⟩) ?_ ?_
          rotate_left
          · exact pz0
          rotate_left
          · exact pz1
          refine pure_ (i := 2) (N := some 24) (v := ?_) (a' := ?_) #[Y,Y,Y,Z,Z,Z,Z,Z,Z,Z,Z,Z,Z,Z,Z,Z,Z,Z,Z,Z] rfl rfl (any_of HT_.out J4) (fun _ _ _ h => h) (Or.inl ⟨J28, ?_⟩) ?_ ?_
          rotate_left
          · exact pz0
          rotate_left
          · exact pz1
          refine pure_ (i := 3) (N := some 25) (v := ?_) (a' := ?_) #[Y,Y,Y,Y,Z,Z,Z,Z,Z,Z,Z,Z,Z,Z,Z,Z,Z,Z,Z,Z] rfl rfl (any_of HT_.out J4) (fun _ _ _ h => h) (Or.inl ⟨J28, ?_⟩) ?_ ?_
          rotate_left
          · exact pz0
          rotate_left
          · exact pz1
          refine pure_ (i := 4) (N := some 26) (v := undef) (a' := ?_) #[Y,Y,Y,Y,Y,Z,Z,Z,Z,Z,Z,Z,Z,Z,Z,Z,Z,Z,Z,Z] rfl rfl (any_of HT_.out J4) (fun _ _ _ h => h) (Or.inr ⟨J28, rfl⟩) ?_ ?_
          rotate_left
          · exact pz1
          refine pure_ (i := 5) (N := some 27) (v := undef) (a' := ?_) #[Y,Y,Y,Y,Y,Y,Z,Z,Z,Z,Z,Z,Z,Z,Z,Z,Z,Z,Z,Z] rfl rfl (any_of HT_.out J4) (fun _ _ _ h => h) (Or.inr ⟨J28, rfl⟩) ?_ ?_
          rotate_left
          · exact pz1
          refine pure_ (i := 6) (N := some 28) (v := undef) (a' := ?_) #[Y,Y,Y,Y,Y,Y,Y,Z,Z,Z,Z,Z,Z,Z,Z,Z,Z,Z,Z,Z] rfl rfl (any_of HT_.out J4) (fun _ _ _ h => h) (Or.inr ⟨J28, rfl⟩) ?_ ?_
          rotate_left
          · exact pz1
          refine pure_ (i := 7) (N := some 29) (v := ?_) (a' := ?_) #[Y,Y,Y,Y,Y,Y,Y,Y,Z,Z,Z,Z,Z,Z,Z,Z,Z,Z,Z,Z] rfl rfl (any_of HT_.out J4) (fun _ _ _ h => h) (Or.inl ⟨J28, ?_⟩) ?_ ?_
          rotate_left
          · exact pz0
          rotate_left
          · exact pz1
          refine pure_ (i := 8) (N := some 30) (v := ?_) (a' := ?_) #[Y,Y,Y,Y,Y,Y,Y,Y,Y,Z,Z,Z,Z,Z,Z,Z,Z,Z,Z,Z] rfl rfl (any_of HT_.out J4) (fun _ _ _ h => h) (Or.inl ⟨J28, ?_⟩) ?_ ?_
          rotate_left
          · exact pz0
          rotate_left
          · exact pz1
          refine pure_ (i := 9) (N := some 31) (v := undef) (a' := ?_) #[Y,Y,Y,Y,Y,Y,Y,Y,Y,Y,Z,Z,Z,Z,Z,Z,Z,Z,Z,Z] rfl rfl (any_of HT_.out J4) (fun _ _ _ h => h) (Or.inr ⟨J28, rfl⟩) ?_ ?_
          rotate_left
          · exact pz1
          refine pure_ (i := 10) (N := some 32) (v := undef) (a' := ?_) #[Y,Y,Y,Y,Y,Y,Y,Y,Y,Y,Y,Z,Z,Z,Z,Z,Z,Z,Z,Z] rfl rfl (any_of HT_.out J4) (fun _ _ _ h => h) (Or.inr ⟨J28, rfl⟩) ?_ ?_
          rotate_left
          · exact pz1
          refine pure_ (i := 11) (N := some 33) (v := undef) (a' := ?_) #[Y,Y,Y,Y,Y,Y,Y,Y,Y,Y,Y,Y,Z,Z,Z,Z,Z,Z,Z,Z] rfl rfl (any_of HT_.out J4) (fun _ _ _ h => h) (Or.inr ⟨J28, rfl⟩) ?_ ?_
          rotate_left
          · exact pz1
          refine pure_ (i := 12) (N := some 34) (v := undef) (a' := ?_) #[Y,Y,Y,Y,Y,Y,Y,Y,Y,Y,Y,Y,Y,Z,Z,Z,Z,Z,Z,Z] rfl rfl (any_of HT_.out J4) (fun _ _ _ h => h) (Or.inr ⟨J28, rfl⟩) ?_ ?_
          rotate_left
          · exact pz1
          refine pure_ (i := 13) (N := some 35) (v := undef) (a' := ?_) #[Y,Y,Y,Y,Y,Y,Y,Y,Y,Y,Y,Y,Y,Y,Z,Z,Z,Z,Z,Z] rfl rfl (any_of HT_.out J4) (fun _ _ _ h => h) (Or.inr ⟨J28, rfl⟩) ?_ ?_
          rotate_left
          · exact pz1
          refine pure_ (i := 14) (N := some 36) (v := undef) (a' := ?_) #[Y,Y,Y,Y,Y,Y,Y,Y,Y,Y,Y,Y,Y,Y,Y,Z,Z,Z,Z,Z] rfl rfl (any_of HT_.out J4) (fun _ _ _ h => h) (Or.inr ⟨J28, rfl⟩) ?_ ?_
          rotate_left
          · exact pz1
          refine pure_ (i := 15) (N := some 37) (v := undef) (a' := ?_) #[Y,Y,Y,Y,Y,Y,Y,Y,Y,Y,Y,Y,Y,Y,Y,Y,Z,Z,Z,Z] rfl rfl (any_of HT_.out J4) (fun _ _ _ h => h) (Or.inr ⟨J28, rfl⟩) ?_ ?_
          rotate_left
          · exact pz1
          refine pure_ (i := 16) (N := some 38) (v := undef) (a' := ?_) #[Y,Y,Y,Y,Y,Y,Y,Y,Y,Y,Y,Y,Y,Y,Y,Y,Y,Z,Z,Z] rfl rfl (any_of HT_.out J4) (fun _ _ _ h => h) (Or.inr ⟨J28, rfl⟩) ?_ ?_
          rotate_left
          · exact pz1
          refine pure_ (i := 17) (N := some 39) (v := undef) (a' := ?_) #[Y,Y,Y,Y,Y,Y,Y,Y,Y,Y,Y,Y,Y,Y,Y,Y,Y,Y,Z,Z] rfl rfl (any_of HT_.out J4) (fun _ _ _ h => h) (Or.inr ⟨J28, rfl⟩) ?_ ?_
          rotate_left
          · exact pz1
          refine pure_ (i := 18) (N := some 40) (v := undef) (a' := ?_) #[Y,Y,Y,Y,Y,Y,Y,Y,Y,Y,Y,Y,Y,Y,Y,Y,Y,Y,Y,Z] rfl rfl (any_of HT_.out J4) (fun _ _ _ h => h) (Or.inr ⟨J28, rfl⟩) ?_ ?_
          rotate_left
          · exact pz1
          refine pure_ (i := 19) (N := some 41) (v := ?_) (a' := ?_) #[Y,Y,Y,Y,Y,Y,Y,Y,Y,Y,Y,Y,Y,Y,Y,Y,Y,Y,Y,Y] rfl rfl (any_of HT_.out J4) (fun _ _ _ h => h) (Or.inl ⟨J28, ?_⟩) ?_ ?_
          rotate_left
          · exact pz0
          rotate_left
          · exact pz1
          refine done_ (done_of HT_.out J4) ?_
          try go_wp2
          go_meet
          case rel => exact ⟨_, (true), J6, H', ⟨J115⟩, ⟨J81⟩, ⟨J0⟩⟩
        rw [if_neg c11] at H
        have c11b0 := decide_eq_false c11
        have c11b1 : decide (l0.length < 1) = false := decide_eq_false J15
        clear c11
        (first | rw [c11b0] | (simp only [i64_w, i32_w]; rw [c11b0]) | skip)
        by_cases c13 : (t591.length : Int) < 1
        · rw [if_pos c13] at H
          have c13b0 := decide_eq_true c13
          have c13b1 : decide (t591.length < 1) = true := decide_eq_true J15
          clear c13
          have H' := zq H
          clear H
          try go_wp2
          replace HO_5 := zq (Kd.N_drew HO_5.out)
          replace HB := zq (below_drew1 HB.out)
          obtain ⟨Ao15, co15, eo15⟩ := Kd.N_slice HO_5.out
          (first | subst eo15 | (injection eo15 with f1_ f2_ f3_; have f4_ := f1_.symm; have f5_ := f3_.symm; clear f1_ f2_ f3_; subst f4_; subst f5_))
          refine start_ (n := 20) (S := fun w' => True) (ds := []) #[Z,Z,Z,Z,Z,Z,Z,Z,Z,Z,Z,Z,Z,Z,Z,Z,Z,Z,Z,Z] J4 rfl rfl trivial (fun hHeld => ?_); refine with_tabW decklelaw11_TightShape.tab6 decklelaw11_TightShape.bits6 (fun HT_ HW_ => ?_)
          generalize wc.drew = w14 at HO_5 HB hHeld ⊢
          refine pure_ (i := 0) (N := some 22) (v := ?_) (a' := ?_) #[Y,Z,Z,Z,Z,Z,Z,Z,Z,Z,Z,Z,Z,Z,Z,Z,Z,Z,Z,Z] rfl rfl (any_of HT_.out J4) (fun _ _ _ h => h) (Or.inl ⟨J28, ?_⟩) ?_ ?_
          rotate_left
          · exact pz0
          rotate_left
          · exact pz1
          refine pure_ (i := 1) (N := some 23) (v := ?_) (a' := ?_) #[Y,Y,Z,Z,Z,Z,Z,Z,Z,Z,Z,Z,Z,Z,Z,Z,Z,Z,Z,Z] rfl rfl (any_of HT_.out J4) (fun _ _ _ h => h) (Or.inl ⟨J28, ?_⟩) ?_ ?_
          rotate_left
          · exact pz0
          rotate_left
          · exact pz1
          refine pure_ (i := 2) (N := some 24) (v := ?_) (a' := ?_) #[Y,Y,Y,Z,Z,Z,Z,Z,Z,Z,Z,Z,Z,Z,Z,Z,Z,Z,Z,Z] rfl rfl (any_of HT_.out J4) (fun _ _ _ h => h) (Or.inl ⟨J28, ?_⟩) ?_ ?_
          rotate_left
          · exact pz0
          rotate_left
          · exact pz1
          refine pure_ (i := 3) (N := some 25) (v := ?_) (a' := ?_) #[Y,Y,Y,Y,Z,Z,Z,Z,Z,Z,Z,Z,Z,Z,Z,Z,Z,Z,Z,Z] rfl rfl (any_of HT_.out J4) (fun _ _ _ h => h) (Or.inl ⟨J28, ?_⟩) ?_ ?_
          rotate_left
          · exact pz0
          rotate_left
          · exact pz1
          refine pure_ (i := 4) (N := some 26) (v := ?_) (a' := ?_) #[Y,Y,Y,Y,Y,Z,Z,Z,Z,Z,Z,Z,Z,Z,Z,Z,Z,Z,Z,Z] rfl rfl (any_of HT_.out J4) (fun _ _ _ h => h) (Or.inl ⟨J28, ?_⟩) ?_ ?_
          rotate_left
          · exact pz0
          rotate_left
          · exact pz1
          refine pure_ (i := 5) (N := some 27) (v := ?_) (a' := ?_) #[Y,Y,Y,Y,Y,Y,Z,Z,Z,Z,Z,Z,Z,Z,Z,Z,Z,Z,Z,Z] rfl rfl (any_of HT_.out J4) (fun _ _ _ h => h) (Or.inl ⟨J28, ?_⟩) ?_ ?_
          rotate_left
          · exact pz0
          rotate_left
          · exact pz1
          refine pure_ (i := 6) (N := some 28) (v := ?_) (a' := ?_) #[Y,Y,Y,Y,Y,Y,Y,Z,Z,Z,Z,Z,Z,Z,Z,Z,Z,Z,Z,Z] rfl rfl (any_of HT_.out J4) (fun _ _ _ h => h) (Or.inl ⟨J28, ?_⟩) ?_ ?_
          rotate_left
          · exact pz0
          rotate_left
          · exact pz1
          refine pure_ (i := 7) (N := some 29) (v := ?_) (a' := ?_) #[Y,Y,Y,Y,Y,Y,Y,Y,Z,Z,Z,Z,Z,Z,Z,Z,Z,Z,Z,Z] rfl rfl (any_of HT_.out J4) (fun _ _ _ h => h) (Or.inl ⟨J28, ?_⟩) ?_ ?_
          rotate_left
          · exact pz0
          rotate_left
          · exact pz1
          refine pure_ (i := 8) (N := some 30) (v := ?_) (a' := ?_) #[Y,Y,Y,Y,Y,Y,Y,Y,Y,Z,Z,Z,Z,Z,Z,Z,Z,Z,Z,Z] rfl rfl (any_of HT_.out J4) (fun _ _ _ h => h) (Or.inl ⟨J28, ?_⟩) ?_ ?_
          rotate_left
          · exact pz0
          rotate_left
          · exact pz1
          refine pure_ (i := 9) (N := some 31) (v := undef) (a' := ?_) #[Y,Y,Y,Y,Y,Y,Y,Y,Y,Y,Z,Z,Z,Z,Z,Z,Z,Z,Z,Z] rfl rfl (any_of HT_.out J4) (fun _ _ _ h => h) (Or.inr ⟨J28, rfl⟩) ?_ ?_
          rotate_left
          · exact pz1
          refine pure_ (i := 10) (N := some 32) (v := undef) (a' := ?_) #[Y,Y,Y,Y,Y,Y,Y,Y,Y,Y,Y,Z,Z,Z,Z,Z,Z,Z,Z,Z] rfl rfl (any_of HT_.out J4) (fun _ _ _ h => h) (Or.inr ⟨J28, rfl⟩) ?_ ?_
          rotate_left
          · exact pz1
          refine pure_ (i := 11) (N := some 33) (v := undef) (a' := ?_) #[Y,Y,Y,Y,Y,Y,Y,Y,Y,Y,Y,Y,Z,Z,Z,Z,Z,Z,Z,Z] rfl rfl (any_of HT_.out J4) (fun _ _ _ h => h) (Or.inr ⟨J28, rfl⟩) ?_ ?_
          rotate_left
          · exact pz1
          refine pure_ (i := 12) (N := some 34) (v := undef) (a' := ?_) #[Y,Y,Y,Y,Y,Y,Y,Y,Y,Y,Y,Y,Y,Z,Z,Z,Z,Z,Z,Z] rfl rfl (any_of HT_.out J4) (fun _ _ _ h => h) (Or.inr ⟨J28, rfl⟩) ?_ ?_
          rotate_left
          · exact pz1
          refine pure_ (i := 13) (N := some 35) (v := undef) (a' := ?_) #[Y,Y,Y,Y,Y,Y,Y,Y,Y,Y,Y,Y,Y,Y,Z,Z,Z,Z,Z,Z] rfl rfl (any_of HT_.out J4) (fun _ _ _ h => h) (Or.inr ⟨J28, rfl⟩) ?_ ?_
          rotate_left
          · exact pz1
          refine pure_ (i := 14) (N := some 36) (v := undef) (a' := ?_) #[Y,Y,Y,Y,Y,Y,Y,Y,Y,Y,Y,Y,Y,Y,Y,Z,Z,Z,Z,Z] rfl rfl (any_of HT_.out J4) (fun _ _ _ h => h) (Or.inr ⟨J28, rfl⟩) ?_ ?_
          rotate_left
          · exact pz1
          refine pure_ (i := 15) (N := some 37) (v := undef) (a' := ?_) #[Y,Y,Y,Y,Y,Y,Y,Y,Y,Y,Y,Y,Y,Y,Y,Y,Z,Z,Z,Z] rfl rfl (any_of HT_.out J4) (fun _ _ _ h => h) (Or.inr ⟨J28, rfl⟩) ?_ ?_
          rotate_left
          · exact pz1
          refine pure_ (i := 16) (N := some 38) (v := undef) (a' := ?_) #[Y,Y,Y,Y,Y,Y,Y,Y,Y,Y,Y,Y,Y,Y,Y,Y,Y,Z,Z,Z] rfl rfl (any_of HT_.out J4) (fun _ _ _ h => h) (Or.inr ⟨J28, rfl⟩) ?_ ?_
          rotate_left
          · exact pz1
          refine pure_ (i := 17) (N := some 39) (v := undef) (a' := ?_) #[Y,Y,Y,Y,Y,Y,Y,Y,Y,Y,Y,Y,Y,Y,Y,Y,Y,Y,Z,Z] rfl rfl (any_of HT_.out J4) (fun _ _ _ h => h) (Or.inr ⟨J28, rfl⟩) ?_ ?_
          rotate_left
          · exact pz1
          refine pure_ (i := 18) (N := some 40) (v := undef) (a' := ?_) #[Y,Y,Y,Y,Y,Y,Y,Y,Y,Y,Y,Y,Y,Y,Y,Y,Y,Y,Y,Z] rfl rfl (any_of HT_.out J4) (fun _ _ _ h => h) (Or.inr ⟨J28, rfl⟩) ?_ ?_
          rotate_left
          · exact pz1
          refine pure_ (i := 19) (N := some 41) (v := ?_) (a' := ?_) #[Y,Y,Y,Y,Y,Y,Y,Y,Y,Y,Y,Y,Y,Y,Y,Y,Y,Y,Y,Y] rfl rfl (any_of HT_.out J4) (fun _ _ _ h => h) (Or.inl ⟨J28, ?_⟩) ?_ ?_
          rotate_left
          · exact pz0
          rotate_left
          · exact pz1
          refine done_ (done_of HT_.out J4) ?_
          try go_wp2
          go_meet
          case rel => exact ⟨_, (true), J6, H', ⟨J115⟩, ⟨J81⟩, ⟨J0⟩⟩
        rw [if_neg c13] at H
        have c13b0 := decide_eq_false c13
        have c13b1 : decide (t591.length < 1) = false := decide_eq_false J15
        clear c13
        by_cases c16 : 0 < (l0.length : Int)
        rotate_left
        · rw [if_neg c16] at H
          exact absurd H J30
        rw [if_pos c16] at H
        have c16b0 := decide_eq_true c16
        have c16b1 : decide (0 < l0.length) = true := decide_eq_true J15
        clear c16
        by_cases c17 : 0 < (t591.length : Int)
        rotate_left
        · rw [if_neg c17] at H
          exact absurd H J30
        rw [if_pos c17] at H
        have c17b0 := decide_eq_true c17
        have c17b1 : decide (0 < t591.length) = true := decide_eq_true J15
        clear c17
        replace H := Option.bind_eq_some_iff.mp H
        obtain ⟨t597, A180, H⟩ := H
        have A18 := zq A180
        clear A180
        have H' := zq H
        clear H
        try go_wp2
        replace HO_5 := zq (Kd.N_drew HO_5.out)
        replace HB := zq (below_drew1 HB.out)
        obtain ⟨Ao20, co20, eo20⟩ := Kd.N_slice HO_5.out
        (first | subst eo20 | (injection eo20 with f1_ f2_ f3_; have f4_ := f1_.symm; have f5_ := f3_.symm; clear f1_ f2_ f3_; subst f4_; subst f5_))
        have p595 : 0 ≤ (0 : Int) := J15
        have q595 : 0 < (l0.length : Int) := of_decide_eq_true J2
        obtain ⟨ad595, A595_1, c595_1, A595_2, c595_2, A595_3, c595_3, e595, hx595_0, hx595_1, hx595_2, hx595_3, hl595_1, hi595_1, hl595_2, hi595_2, hl595_3, hi595_3⟩ := at_T30 HR0.out 0 p595 q595
        have hw595_3 := hx595_3
        (try rw [show ((0 : Int)).toNat = 0 from rfl] at hw595_3)
        (try rw [show 0 * 4 = 0 from rfl] at hw595_3)
        (try rw [Addr.add_zero'] at hw595_3)
        have hw595_2 := hx595_2
        (try rw [show ((0 : Int)).toNat = 0 from rfl] at hw595_2)
        (try rw [show 0 * 4 = 0 from rfl] at hw595_2)
        (try rw [Addr.add_zero'] at hw595_2)
        have hw595_1 := hx595_1
        (try rw [show ((0 : Int)).toNat = 0 from rfl] at hw595_1)
        (try rw [show 0 * 4 = 0 from rfl] at hw595_1)
        (try rw [Addr.add_zero'] at hw595_1)
        have hw595_0 := hx595_0
        (try rw [show ((0 : Int)).toNat = 0 from rfl] at hw595_0)
        (try rw [show 0 * 4 = 0 from rfl] at hw595_0)
        (try rw [Addr.add_zero'] at hw595_0)
        cases e595
        have qi595 : (0 < l0.length) = True := eq_true J15
        (try rw [show ((0 : Int)).toNat = 0 from rfl] at hx595_0)
        (try rw [show 0 * 4 = 0 from rfl] at hx595_0)
        (try rw [Addr.add_zero'] at hx595_0)
        (try rw [show ((0 : Int)).toNat = 0 from rfl] at hx595_1)
        (try rw [show 0 * 4 = 0 from rfl] at hx595_1)
        (try rw [Addr.add_zero'] at hx595_1)
        (try rw [show ((0 : Int)).toNat = 0 from rfl] at hx595_2)
        (try rw [show 0 * 4 = 0 from rfl] at hx595_2)
        (try rw [Addr.add_zero'] at hx595_2)
        (try rw [show ((0 : Int)).toNat = 0 from rfl] at hx595_3)
        (try rw [show 0 * 4 = 0 from rfl] at hx595_3)
        (try rw [Addr.add_zero'] at hx595_3)
        replace hx595_0 := (HB.out.cell (World.block_lt_of_cell? w _ hx595_0)).trans hx595_0
        replace hx595_1 := (HB.out.cell (World.block_lt_of_cell? w _ hx595_1)).trans hx595_1
        replace hx595_2 := (HB.out.cell (World.block_lt_of_cell? w _ hx595_2)).trans hx595_2
        replace hx595_3 := (HB.out.cell (World.block_lt_of_cell? w _ hx595_3)).trans hx595_3
        have HR595_1 := zq hi595_1
        have HC595_1 := zq hl595_1
        clear hi595_1 hl595_1
        have HR595_2 := zq hi595_2
        have HC595_2 := zq hl595_2
        clear hi595_2 hl595_2
        have HR595_3 := zq hi595_3
        have HC595_3 := zq hl595_3
        clear hi595_3 hl595_3
        replace p595 := eq_true p595
        replace q595 := eq_true q595
        have p596 : 0 ≤ (0 : Int) := J15
        have q596 : 0 < (t591.length : Int) := of_decide_eq_true J2
        obtain ⟨ad596, A596_1, c596_1, A596_2, c596_2, A596_3, c596_3, e596, hx596_0, hx596_1, hx596_2, hx596_3, hl596_1, hi596_1, hl596_2, hi596_2, hl596_3, hi596_3⟩ := at_T30 (Kd.N_reads' HO_5.out).2.2 0 p596 q596
        cases e596
        obtain ⟨ce596, hce596, hMe596, hcc596⟩ := Kd.N_get HO_5.out z30 0 p596 (by first | exact q596 | exact of_decide_eq_true J2 | (have e_ := (Kd.N_reads' HO_5.out).1; omega))
        obtain ⟨ua596_1, uc596_1, ua596_2, uc596_2, ua596_3, uc596_3, rfl, ul596_1, ge596_1, ul596_2, ge596_2, ul596_3, ge596_3⟩ := k30_openF hMe596
        have hv596_1 := hcc596 1 _ rfl
        rw [add_field _ _ 1 J15] at hv596_1
        replace hv596_1 := Option.some.inj (hv596_1.symm.trans hx596_1)
        injection hv596_1 with hva_ hvn_ hvc_
        rw [hva_] at ge596_1
        rw [hvc_] at ul596_1
        have HL596_1 := zq (show Kd.V (Kd.int .i64) 3 _ w.heap.size _ _ ((rd_T30 t591 0).f1) from Kd.V_mk ul596_1 ge596_1)
        clear hva_ hvn_ hvc_ ge596_1 ul596_1
        have hv596_2 := hcc596 2 _ rfl
        rw [add_field _ _ 2 J15] at hv596_2
        replace hv596_2 := Option.some.inj (hv596_2.symm.trans hx596_2)
        injection hv596_2 with hva_ hvn_ hvc_
        rw [hva_] at ge596_2
        rw [hvc_] at ul596_2
        have HL596_2 := zq (show Kd.V (Kd.int .i64) 3 _ w.heap.size _ _ ((rd_T30 t591 0).f2) from Kd.V_mk ul596_2 ge596_2)
        clear hva_ hvn_ hvc_ ge596_2 ul596_2
        have hv596_3 := hcc596 3 _ rfl
        rw [add_field _ _ 3 J15] at hv596_3
        replace hv596_3 := Option.some.inj (hv596_3.symm.trans hx596_3)
        injection hv596_3 with hva_ hvn_ hvc_
        rw [hva_] at ge596_3
        rw [hvc_] at ul596_3
        have HL596_3 := zq (show Kd.V k38 38 _ w.heap.size _ _ ((rd_T30 t591 0).f3) from Kd.V_mk ul596_3 ge596_3)
        clear hva_ hvn_ hvc_ ge596_3 ul596_3
        clear hcc596 hce596
        have qi596 : (0 < t591.length) = True := eq_true J15
        (try rw [show ((0 : Int)).toNat = 0 from rfl] at hx596_0)
        (try rw [show 0 * 4 = 0 from rfl] at hx596_0)
        (try rw [Addr.add_zero'] at hx596_0)
        (try rw [show ((0 : Int)).toNat = 0 from rfl] at hx596_1)
        (try rw [show 0 * 4 = 0 from rfl] at hx596_1)
        (try rw [Addr.add_zero'] at hx596_1)
        (try rw [show ((0 : Int)).toNat = 0 from rfl] at hx596_2)
        (try rw [show 0 * 4 = 0 from rfl] at hx596_2)
        (try rw [Addr.add_zero'] at hx596_2)
        (try rw [show ((0 : Int)).toNat = 0 from rfl] at hx596_3)
        (try rw [show 0 * 4 = 0 from rfl] at hx596_3)
        (try rw [Addr.add_zero'] at hx596_3)
        have HR596_1 := zq hi596_1
        have HC596_1 := zq hl596_1
        clear hi596_1 hl596_1
        have HR596_2 := zq hi596_2
        have HC596_2 := zq hl596_2
        clear hi596_2 hl596_2
        have HR596_3 := zq hi596_3
        have HC596_3 := zq hl596_3
        clear hi596_3 hl596_3
        replace p596 := eq_true p596
        replace q596 := eq_true q596
        refine start_ (n := 20) (S := fun w' => w'.cell? ad595 = some (.int .i64 ((rd_T30 l0 0).f0)) ∧ w'.cell? ⟨ad595.block, ad595.off + 1, none⟩ = some (.slice A595_1 ((rd_T30 l0 0).f1).length c595_1) ∧ w'.cell? ⟨ad595.block, ad595.off + 2, none⟩ = some (.slice A595_2 ((rd_T30 l0 0).f2).length c595_2) ∧ w'.cell? ⟨ad595.block, ad595.off + 3, none⟩ = some (.slice A595_3 ((rd_T30 l0 0).f3).length c595_3) ∧ w'.cell? ad596 = some (.int .i64 ((rd_T30 t591 0).f0)) ∧ w'.cell? ⟨ad596.block, ad596.off + 1, none⟩ = some (.slice A596_1 ((rd_T30 t591 0).f1).length c596_1) ∧ w'.cell? ⟨ad596.block, ad596.off + 2, none⟩ = some (.slice A596_2 ((rd_T30 t591 0).f2).length c596_2) ∧ w'.cell? ⟨ad596.block, ad596.off + 3, none⟩ = some (.slice A596_3 ((rd_T30 t591 0).f3).length c596_3)) (ds := []) #[Z,Z,Z,Z,Z,Z,Z,Z,Z,Z,Z,Z,Z,Z,Z,Z,Z,Z,Z,Z] J4 rfl rfl ⟨((HB.out.cell (World.block_lt_of_cell? w _ hw595_0)).trans hw595_0), ((HB.out.cell (World.block_lt_of_cell? w _ hw595_1)).trans hw595_1), ((HB.out.cell (World.block_lt_of_cell? w _ hw595_2)).trans hw595_2), ((HB.out.cell (World.block_lt_of_cell? w _ hw595_3)).trans hw595_3), hx596_0, hx596_1, hx596_2, hx596_3⟩ (fun hHeld => ?_); refine with_tabW decklelaw11_TightShape.tab6 decklelaw11_TightShape.bits6 (fun HT_ HW_ => ?_)
        generalize wc.drew = w19 at HO_5 HB HL596_1 HL596_2 HL596_3 HR595_1 HR595_2 HR595_3 HR596_1 HR596_2 HR596_3 hx595_0 hx595_1 hx595_2 hx595_3 hx596_0 hx596_1 hx596_2 hx596_3 hHeld ⊢
        refine pure_ (i := 0) (N := some 22) (v := ?_) (a' := ?_) #[Y,Z,Z,Z,Z,Z,Z,Z,Z,Z,Z,Z,Z,Z,Z,Z,Z,Z,Z,Z] rfl rfl (any_of HT_.out J4) (fun _ _ _ h => h) (Or.inl ⟨J28, ?_⟩) ?_ ?_
        rotate_left
        · exact pz0
        rotate_left
        · exact pz1
        refine pure_ (i := 1) (N := some 23) (v := ?_) (a' := ?_) #[Y,Y,Z,Z,Z,Z,Z,Z,Z,Z,Z,Z,Z,Z,Z,Z,Z,Z,Z,Z] rfl rfl (any_of HT_.out J4) (fun _ _ _ h => h) (Or.inl ⟨J28, ?_⟩) ?_ ?_
        rotate_left
        · exact pz0
        rotate_left
        · exact pz1
        refine pure_ (i := 2) (N := some 24) (v := ?_) (a' := ?_) #[Y,Y,Y,Z,Z,Z,Z,Z,Z,Z,Z,Z,Z,Z,Z,Z,Z,Z,Z,Z] rfl rfl (any_of HT_.out J4) (fun _ _ _ h => h) (Or.inl ⟨J28, ?_⟩) ?_ ?_
        rotate_left
        · exact pz0
        rotate_left
        · exact pz1
        refine pure_ (i := 3) (N := some 25) (v := ?_) (a' := ?_) #[Y,Y,Y,Y,Z,Z,Z,Z,Z,Z,Z,Z,Z,Z,Z,Z,Z,Z,Z,Z] rfl rfl (any_of HT_.out J4) (fun _ _ _ h => h) (Or.inl ⟨J28, ?_⟩) ?_ ?_
        rotate_left
        · exact pz0
        rotate_left
        · exact pz1
        refine pure_ (i := 4) (N := some 26) (v := ?_) (a' := ?_) #[Y,Y,Y,Y,Y,Z,Z,Z,Z,Z,Z,Z,Z,Z,Z,Z,Z,Z,Z,Z] rfl rfl (any_of HT_.out J4) (fun _ _ _ h => h) (Or.inl ⟨J28, ?_⟩) ?_ ?_
        rotate_left
        · exact pz0
        rotate_left
        · exact pz1
        refine pure_ (i := 5) (N := some 27) (v := ?_) (a' := ?_) #[Y,Y,Y,Y,Y,Y,Z,Z,Z,Z,Z,Z,Z,Z,Z,Z,Z,Z,Z,Z] rfl rfl (any_of HT_.out J4) (fun _ _ _ h => h) (Or.inl ⟨J28, ?_⟩) ?_ ?_
        rotate_left
        · exact pz0
        rotate_left
        · exact pz1
        refine pure_ (i := 6) (N := some 28) (v := ?_) (a' := ?_) #[Y,Y,Y,Y,Y,Y,Y,Z,Z,Z,Z,Z,Z,Z,Z,Z,Z,Z,Z,Z] rfl rfl (any_of HT_.out J4) (fun _ _ _ h => h) (Or.inl ⟨J28, ?_⟩) ?_ ?_
        rotate_left
        · exact pz0
        rotate_left
        · exact pz1
        refine pure_ (i := 7) (N := some 29) (v := ?_) (a' := ?_) #[Y,Y,Y,Y,Y,Y,Y,Y,Z,Z,Z,Z,Z,Z,Z,Z,Z,Z,Z,Z] rfl rfl (any_of HT_.out J4) (fun _ _ _ h => h) (Or.inl ⟨J28, ?_⟩) ?_ ?_
        rotate_left
        · exact pz0
        rotate_left
        · exact pz1
        refine pure_ (i := 8) (N := some 30) (v := ?_) (a' := ?_) #[Y,Y,Y,Y,Y,Y,Y,Y,Y,Z,Z,Z,Z,Z,Z,Z,Z,Z,Z,Z] rfl rfl (any_of HT_.out J4) (fun _ _ _ h => h) (Or.inl ⟨J28, ?_⟩) ?_ ?_
        rotate_left
        · exact pz0
        rotate_left
        · exact pz1
        refine pure_ (i := 9) (N := some 31) (v := ?_) (a' := ?_) #[Y,Y,Y,Y,Y,Y,Y,Y,Y,Y,Z,Z,Z,Z,Z,Z,Z,Z,Z,Z] rfl rfl (any_of HT_.out J4) (fun _ _ _ h => h) (Or.inl ⟨J28, ?_⟩) ?_ ?_
        rotate_left
        · exact pz0
        rotate_left
        · exact pz1
        refine pure_ (i := 10) (N := some 32) (v := ?_) (a' := ?_) #[Y,Y,Y,Y,Y,Y,Y,Y,Y,Y,Y,Z,Z,Z,Z,Z,Z,Z,Z,Z] rfl rfl (any_of HT_.out J4) (fun _ _ _ h => h) (Or.inl ⟨J28, ?_⟩) ?_ ?_
        rotate_left
        · exact pz0
        rotate_left
        · exact pz1
        refine pure_ (i := 11) (N := some 33) (v := ?_) (a' := ?_) #[Y,Y,Y,Y,Y,Y,Y,Y,Y,Y,Y,Y,Z,Z,Z,Z,Z,Z,Z,Z] rfl rfl (any_of HT_.out J4) (fun _ _ _ h => h) (Or.inl ⟨J28, ?_⟩) ?_ ?_
        rotate_left
        · exact pz0
        rotate_left
        · exact pz1
        refine pure_ (i := 13) (N := some 35) (v := ?_) (a' := ?_) #[Y,Y,Y,Y,Y,Y,Y,Y,Y,Y,Y,Y,Z,Y,Z,Z,Z,Z,Z,Z] rfl rfl (any_of HT_.out J4) (fun _ _ _ h => h) (Or.inl ⟨J28, ?_⟩) ?_ ?_
        rotate_left
        · exact pz0
        rotate_left
        · exact pz1
        refine pure_ (i := 14) (N := some 36) (v := ?_) (a' := ?_) #[Y,Y,Y,Y,Y,Y,Y,Y,Y,Y,Y,Y,Z,Y,Y,Z,Z,Z,Z,Z] rfl rfl (any_of HT_.out J4) (fun _ _ _ h => h) (Or.inl ⟨J28, ?_⟩) ?_ ?_
        rotate_left
        · exact pz0
        rotate_left
        · exact pz1
        refine pure_ (i := 15) (N := some 37) (v := ?_) (a' := ?_) #[Y,Y,Y,Y,Y,Y,Y,Y,Y,Y,Y,Y,Z,Y,Y,Y,Z,Z,Z,Z] rfl rfl (any_of HT_.out J4) (fun _ _ _ h => h) (Or.inl ⟨J28, ?_⟩) ?_ ?_
        rotate_left
        · exact pz0
        rotate_left
        · exact pz1
        refine take_ (i := 12) (N := some 34) (v := ?_) (a' := ?_) #[Y,Y,Y,Y,Y,Y,Y,Y,Y,Y,Y,Y,Y,Y,Y,Y,Z,Z,Z,Z] rfl rfl (take_ofW HT_.out HW_.out J4) (fun _ _ _ h => h) (Or.inl ⟨J28, ?_⟩) hHeld ?_ ?_
        rotate_left
        · rintro w' ⟨s0, s1, s2, s3, s4, s5, s6, s7⟩
          go_simp
          with_reducible rfl
        rotate_left
        · exact pz1
        refine take_ (i := 16) (N := some 38) (v := ?_) (a' := ?_) #[Y,Y,Y,Y,Y,Y,Y,Y,Y,Y,Y,Y,Y,Y,Y,Y,Y,Z,Z,Z] rfl rfl (take_ofW HT_.out HW_.out J4) (fun _ _ _ h => h) (Or.inl ⟨J28, ?_⟩) hHeld ?_ ?_
        rotate_left
        · rintro w' ⟨s0, s1, s2, s3, s4, s5, s6, s7⟩
          go_simp
          with_reducible rfl
        rotate_left
        · exact pz1
        refine one_ (i := 17) (N := some 39) #[Y,Y,Y,Y,Y,Y,Y,Y,Y,Y,Y,Y,Y,Y,Y,Y,Y,Y,Z,Z] rfl rfl (one_of HT_.out J4) J17 (fun K hK => ?_)
        refine goes_ Try.func21 J4 rfl #[.slice A595_1 ((rd_T30 l0 0).f1).length c595_1, .slice A596_1 ((rd_T30 t591 0).f1).length c596_1] J28 rfl rfl J1 ?_
        with_reducible refine (deckleref01_Same.calls kj4 _ _ ((rd_T30 l0 0).f1) _ _ ((rd_T30 t591 0).f1) t597 _ ?side1 ?side2 ?side3 ?side4 A18.out).mono ?_
        (case side1 => exact zc (Kd.C_below HR595_1.out HB.out))
        (case side2 => exact HC595_1.out)
        (case side3 => repeat (first | exact (by repeat (first | (with_reducible exact HR596_1.out) | (with_reducible refine Kd.C_alloc ?_ _) | (with_reducible refine Kd.C_drewN ?_ _) | (with_reducible refine Kd.C_drew ?_) | exact HR596_1.out)) | (with_reducible refine Kd.C_alloc ?_ _) | (with_reducible refine Kd.C_drewN ?_ _) | (with_reducible refine Kd.C_drew ?_)))
        (case side4 => exact HC596_1.out)
        rintro e w' ⟨rfl, ⟨nd, rfl⟩⟩
        refine ⟨_, rfl, ?_⟩
        refine hK.out _ _ ⟨((HB.out.cell (World.block_lt_of_cell? w _ hw595_0)).trans hw595_0), ((HB.out.cell (World.block_lt_of_cell? w _ hw595_1)).trans hw595_1), ((HB.out.cell (World.block_lt_of_cell? w _ hw595_2)).trans hw595_2), ((HB.out.cell (World.block_lt_of_cell? w _ hw595_3)).trans hw595_3), hHeld.2.2.2.2.1, hHeld.2.2.2.2.2.1, hHeld.2.2.2.2.2.2.1, hHeld.2.2.2.2.2.2.2⟩ (fun hHeld => ?_)
        clear hK K
        refine norm_ (a' := ?_) ?_ ?_
        rotate_left
        · show Act.put _ (some 39) _ = _
          simp only [Act.put, List.setIfInBounds_toArray, List.set_cons_zero, List.set_cons_succ, i64_w, i32_w]
          rfl
        refine pure_ (i := 18) (N := some 40) (v := ?_) (a' := ?_) #[Y,Y,Y,Y,Y,Y,Y,Y,Y,Y,Y,Y,Y,Y,Y,Y,Y,Y,Y,Z] rfl rfl (any_of HT_.out J4) (fun _ _ _ h => h) (Or.inl ⟨J28, ?_⟩) ?_ ?_
        rotate_left
        · exact pz0
        rotate_left
        · exact pz1
        refine pure_ (i := 19) (N := some 41) (v := ?_) (a' := ?_) #[Y,Y,Y,Y,Y,Y,Y,Y,Y,Y,Y,Y,Y,Y,Y,Y,Y,Y,Y,Y] rfl rfl (any_of HT_.out J4) (fun _ _ _ h => h) (Or.inl ⟨J28, ?_⟩) ?_ ?_
        rotate_left
        · exact pz0
        rotate_left
        · exact pz1
        refine done_ (done_of HT_.out J4) ?_
        try go_wp2
        go_meet
        case rel => exact ⟨_, (!t597), J6, H', ⟨J115⟩, ⟨J81⟩, ⟨J0⟩⟩
      case rest =>
        clear HC10
        try clear c1
        try clear c2
        try clear p2
        try clear c5
        try clear p5
        try clear q5
        try clear hx5
        try clear qi5
        try clear c11
        try clear c11b0
        try clear c11b1
        try clear c13
        try clear c13b0
        try clear c13b1
        try clear c16
        try clear c16b0
        try clear c16b1
        try clear c17
        try clear c17b0
        try clear c17b1
        try clear hx595_0
        try clear hx595_1
        try clear hx595_2
        try clear hx595_3
        try clear hx596_0
        try clear hx596_1
        try clear hx596_2
        try clear hx596_3
        try clear p595
        try clear p596
        try clear q595
        try clear q596
        obtain ⟨kq, x41_9, rfl, HA, HJ9, HO_5, HB⟩ := hcut
        cases kq with
        | zero => exact absurd HA.out (by simp [decklelaw11_TightShape.j1])
        | succ kj9 =>
          have H := HA.out
          clear HA
          simp only [decklelaw11_TightShape.j1] at H
          by_cases c21 : x41_9 = true
          · subst c21
            rw [if_pos rfl] at H
            exact absurd H J30
          replace c21 := Bool.eq_false_iff.mpr c21
          subst c21
          rw [if_neg (show ¬ (false = true) by decide)] at H
          by_cases c22 : 0 < (l0.length : Int)
          rotate_left
          · rw [if_neg c22] at H
            exact absurd H J30
          rw [if_pos c22] at H
          have c22b0 := decide_eq_true c22
          have c22b1 : decide (0 < l0.length) = true := decide_eq_true J15
          clear c22
          by_cases c23 : ((rd_T30 l0 0).f0) = 1
          · rw [if_pos c23] at H
            have c23b0 : (((rd_T30 l0 0).f0) == 1) = true := beq_iff_eq.mpr c23
            have c23b1 : (((rd_T30 l0 0).f0) != 1) = false := bne_eq_false_iff_eq.mpr c23
            clear c23
            by_cases c24 : t589 = true
            · subst c24
              rw [if_pos rfl] at H
              by_cases c25 : (t591.length : Int) = 1
              · rw [if_pos c25] at H
                have c25b0 : ((t591.length : Int) == 1) = true := beq_iff_eq.mpr c25
                have c25b1 : ((t591.length : Int) != 1) = false := bne_eq_false_iff_eq.mpr c25
                clear c25
                by_cases c26 : 0 < (t591.length : Int)
                · rw [if_pos c26] at H
                  have c26b0 := decide_eq_true c26
                  have c26b1 : decide (0 < t591.length) = true := decide_eq_true J15
                  clear c26
                  replace H := Option.bind_eq_some_iff.mp H
                  obtain ⟨t601, A270, H⟩ := H
                  have A27 := zq A270
                  clear A270
                  by_cases c28 : t601 = true
                  · subst c28
                    rw [if_pos rfl] at H
                    by_cases c29 : ((rd_T30 t591 0).f0) = 1
                    · rw [if_pos c29] at H
                      have c29b0 : (((rd_T30 t591 0).f0) == 1) = true := beq_iff_eq.mpr c29
                      have c29b1 : (((rd_T30 t591 0).f0) != 1) = false := bne_eq_false_iff_eq.mpr c29
                      clear c29
                      obtain rfl := Option.some.inj H
                      have p598 : 0 ≤ (0 : Int) := J15
                      have q598 : 0 < (l0.length : Int) := of_decide_eq_true J2
                      obtain ⟨ad598, A598_1, c598_1, A598_2, c598_2, A598_3, c598_3, e598, hx598_0, hx598_1, hx598_2, hx598_3, hl598_1, hi598_1, hl598_2, hi598_2, hl598_3, hi598_3⟩ := at_T30 HR0.out 0 p598 q598
                      cases e598
                      have qi598 : (0 < l0.length) = True := eq_true J15
                      (try rw [show ((0 : Int)).toNat = 0 from rfl] at hx598_0)
                      (try rw [show 0 * 4 = 0 from rfl] at hx598_0)
                      (try rw [Addr.add_zero'] at hx598_0)
                      (try rw [show ((0 : Int)).toNat = 0 from rfl] at hx598_1)
                      (try rw [show 0 * 4 = 0 from rfl] at hx598_1)
                      (try rw [Addr.add_zero'] at hx598_1)
                      (try rw [show ((0 : Int)).toNat = 0 from rfl] at hx598_2)
                      (try rw [show 0 * 4 = 0 from rfl] at hx598_2)
                      (try rw [Addr.add_zero'] at hx598_2)
                      (try rw [show ((0 : Int)).toNat = 0 from rfl] at hx598_3)
                      (try rw [show 0 * 4 = 0 from rfl] at hx598_3)
                      (try rw [Addr.add_zero'] at hx598_3)
                      replace hx598_0 := (HB.out.cell (World.block_lt_of_cell? w _ hx598_0)).trans hx598_0
                      replace hx598_1 := (HB.out.cell (World.block_lt_of_cell? w _ hx598_1)).trans hx598_1
                      replace hx598_2 := (HB.out.cell (World.block_lt_of_cell? w _ hx598_2)).trans hx598_2
                      replace hx598_3 := (HB.out.cell (World.block_lt_of_cell? w _ hx598_3)).trans hx598_3
                      have HR598_1 := zq hi598_1
                      have HC598_1 := zq hl598_1
                      clear hi598_1 hl598_1
                      have HR598_2 := zq hi598_2
                      have HC598_2 := zq hl598_2
                      clear hi598_2 hl598_2
                      have HR598_3 := zq hi598_3
                      have HC598_3 := zq hl598_3
                      clear hi598_3 hl598_3
                      replace p598 := eq_true p598
                      replace q598 := eq_true q598
                      try go_wp2
                      replace HO_5 := zq (Kd.N_drew HO_5.out)
                      replace HB := zq (below_drew1 HB.out)
                      obtain ⟨Ao31, co31, eo31⟩ := Kd.N_slice HO_5.out
                      (first | subst eo31 | (injection eo31 with f1_ f2_ f3_; have f4_ := f1_.symm; have f5_ := f3_.symm; clear f1_ f2_ f3_; subst f4_; subst f5_))
                      have p599 : 0 ≤ (0 : Int) := J15
                      have q599 : 0 < (l0.length : Int) := of_decide_eq_true J2
                      obtain ⟨ad599, A599_1, c599_1, A599_2, c599_2, A599_3, c599_3, e599, hx599_0, hx599_1, hx599_2, hx599_3, hl599_1, hi599_1, hl599_2, hi599_2, hl599_3, hi599_3⟩ := at_T30 HR0.out 0 p599 q599
                      have hw599_3 := hx599_3
                      (try rw [show ((0 : Int)).toNat = 0 from rfl] at hw599_3)
                      (try rw [show 0 * 4 = 0 from rfl] at hw599_3)
                      (try rw [Addr.add_zero'] at hw599_3)
                      have hw599_2 := hx599_2
                      (try rw [show ((0 : Int)).toNat = 0 from rfl] at hw599_2)
                      (try rw [show 0 * 4 = 0 from rfl] at hw599_2)
                      (try rw [Addr.add_zero'] at hw599_2)
                      have hw599_1 := hx599_1
                      (try rw [show ((0 : Int)).toNat = 0 from rfl] at hw599_1)
                      (try rw [show 0 * 4 = 0 from rfl] at hw599_1)
                      (try rw [Addr.add_zero'] at hw599_1)
                      have hw599_0 := hx599_0
                      (try rw [show ((0 : Int)).toNat = 0 from rfl] at hw599_0)
                      (try rw [show 0 * 4 = 0 from rfl] at hw599_0)
                      (try rw [Addr.add_zero'] at hw599_0)
                      obtain rfl : ad598 = ad599 := (by injection e599)
                      have qi599 : (0 < l0.length) = True := eq_true J15
                      (try rw [show ((0 : Int)).toNat = 0 from rfl] at hx599_0)
                      (try rw [show 0 * 4 = 0 from rfl] at hx599_0)
                      (try rw [Addr.add_zero'] at hx599_0)
                      (try rw [show ((0 : Int)).toNat = 0 from rfl] at hx599_1)
                      (try rw [show 0 * 4 = 0 from rfl] at hx599_1)
                      (try rw [Addr.add_zero'] at hx599_1)
                      (try rw [show ((0 : Int)).toNat = 0 from rfl] at hx599_2)
                      (try rw [show 0 * 4 = 0 from rfl] at hx599_2)
                      (try rw [Addr.add_zero'] at hx599_2)
                      (try rw [show ((0 : Int)).toNat = 0 from rfl] at hx599_3)
                      (try rw [show 0 * 4 = 0 from rfl] at hx599_3)
                      (try rw [Addr.add_zero'] at hx599_3)
                      replace hx599_0 := (HB.out.cell (World.block_lt_of_cell? w _ hx599_0)).trans hx599_0
                      replace hx599_1 := (HB.out.cell (World.block_lt_of_cell? w _ hx599_1)).trans hx599_1
                      replace hx599_2 := (HB.out.cell (World.block_lt_of_cell? w _ hx599_2)).trans hx599_2
                      replace hx599_3 := (HB.out.cell (World.block_lt_of_cell? w _ hx599_3)).trans hx599_3
                      have HR599_1 := zq hi599_1
                      have HC599_1 := zq hl599_1
                      clear hi599_1 hl599_1
                      have HR599_2 := zq hi599_2
                      have HC599_2 := zq hl599_2
                      clear hi599_2 hl599_2
                      have HR599_3 := zq hi599_3
                      have HC599_3 := zq hl599_3
                      clear hi599_3 hl599_3
                      replace p599 := eq_true p599
                      replace q599 := eq_true q599
                      have p600 : 0 ≤ (0 : Int) := J15
                      have q600 : 0 < (t591.length : Int) := of_decide_eq_true J2
                      obtain ⟨ad600, A600_1, c600_1, A600_2, c600_2, A600_3, c600_3, e600, hx600_0, hx600_1, hx600_2, hx600_3, hl600_1, hi600_1, hl600_2, hi600_2, hl600_3, hi600_3⟩ := at_T30 (Kd.N_reads' HO_5.out).2.2 0 p600 q600
                      cases e600
                      obtain ⟨ce600, hce600, hMe600, hcc600⟩ := Kd.N_get HO_5.out z30 0 p600 (by first | exact q600 | exact of_decide_eq_true J2 | (have e_ := (Kd.N_reads' HO_5.out).1; omega))
                      obtain ⟨ua600_1, uc600_1, ua600_2, uc600_2, ua600_3, uc600_3, rfl, ul600_1, ge600_1, ul600_2, ge600_2, ul600_3, ge600_3⟩ := k30_openF hMe600
                      have hv600_1 := hcc600 1 _ rfl
                      rw [add_field _ _ 1 J15] at hv600_1
                      replace hv600_1 := Option.some.inj (hv600_1.symm.trans hx600_1)
                      injection hv600_1 with hva_ hvn_ hvc_
                      rw [hva_] at ge600_1
                      rw [hvc_] at ul600_1
                      have HL600_1 := zq (show Kd.V (Kd.int .i64) 3 _ w.heap.size _ _ ((rd_T30 t591 0).f1) from Kd.V_mk ul600_1 ge600_1)
                      clear hva_ hvn_ hvc_ ge600_1 ul600_1
                      have hv600_2 := hcc600 2 _ rfl
                      rw [add_field _ _ 2 J15] at hv600_2
                      replace hv600_2 := Option.some.inj (hv600_2.symm.trans hx600_2)
                      injection hv600_2 with hva_ hvn_ hvc_
                      rw [hva_] at ge600_2
                      rw [hvc_] at ul600_2
                      have HL600_2 := zq (show Kd.V (Kd.int .i64) 3 _ w.heap.size _ _ ((rd_T30 t591 0).f2) from Kd.V_mk ul600_2 ge600_2)
                      clear hva_ hvn_ hvc_ ge600_2 ul600_2
                      have hv600_3 := hcc600 3 _ rfl
                      rw [add_field _ _ 3 J15] at hv600_3
                      replace hv600_3 := Option.some.inj (hv600_3.symm.trans hx600_3)
                      injection hv600_3 with hva_ hvn_ hvc_
                      rw [hva_] at ge600_3
                      rw [hvc_] at ul600_3
                      have HL600_3 := zq (show Kd.V k38 38 _ w.heap.size _ _ ((rd_T30 t591 0).f3) from Kd.V_mk ul600_3 ge600_3)
                      clear hva_ hvn_ hvc_ ge600_3 ul600_3
                      clear hcc600 hce600
                      have qi600 : (0 < t591.length) = True := eq_true J15
                      (try rw [show ((0 : Int)).toNat = 0 from rfl] at hx600_0)
                      (try rw [show 0 * 4 = 0 from rfl] at hx600_0)
                      (try rw [Addr.add_zero'] at hx600_0)
                      (try rw [show ((0 : Int)).toNat = 0 from rfl] at hx600_1)
                      (try rw [show 0 * 4 = 0 from rfl] at hx600_1)
                      (try rw [Addr.add_zero'] at hx600_1)
                      (try rw [show ((0 : Int)).toNat = 0 from rfl] at hx600_2)
                      (try rw [show 0 * 4 = 0 from rfl] at hx600_2)
                      (try rw [Addr.add_zero'] at hx600_2)
                      (try rw [show ((0 : Int)).toNat = 0 from rfl] at hx600_3)
                      (try rw [show 0 * 4 = 0 from rfl] at hx600_3)
                      (try rw [Addr.add_zero'] at hx600_3)
                      have HR600_1 := zq hi600_1
                      have HC600_1 := zq hl600_1
                      clear hi600_1 hl600_1
                      have HR600_2 := zq hi600_2
                      have HC600_2 := zq hl600_2
                      clear hi600_2 hl600_2
                      have HR600_3 := zq hi600_3
                      have HC600_3 := zq hl600_3
                      clear hi600_3 hl600_3
                      replace p600 := eq_true p600
                      replace q600 := eq_true q600
                      have p602 : 0 ≤ (0 : Int) := J15
                      have q602 : 0 < (t591.length : Int) := of_decide_eq_true J2
                      obtain ⟨ad602, A602_1, c602_1, A602_2, c602_2, A602_3, c602_3, e602, hx602_0, hx602_1, hx602_2, hx602_3, hl602_1, hi602_1, hl602_2, hi602_2, hl602_3, hi602_3⟩ := at_T30 (Kd.N_reads' HO_5.out).2.2 0 p602 q602
                      obtain rfl : ad600 = ad602 := (by injection e602)
                      obtain ⟨ce602, hce602, hMe602, hcc602⟩ := Kd.N_get HO_5.out z30 0 p602 (by first | exact q602 | exact of_decide_eq_true J2 | (have e_ := (Kd.N_reads' HO_5.out).1; omega))
                      obtain ⟨ua602_1, uc602_1, ua602_2, uc602_2, ua602_3, uc602_3, rfl, ul602_1, ge602_1, ul602_2, ge602_2, ul602_3, ge602_3⟩ := k30_openF hMe602
                      have hv602_1 := hcc602 1 _ rfl
                      rw [add_field _ _ 1 J15] at hv602_1
                      replace hv602_1 := Option.some.inj (hv602_1.symm.trans hx602_1)
                      injection hv602_1 with hva_ hvn_ hvc_
                      rw [hva_] at ge602_1
                      rw [hvc_] at ul602_1
                      have HL602_1 := zq (show Kd.V (Kd.int .i64) 3 _ w.heap.size _ _ ((rd_T30 t591 0).f1) from Kd.V_mk ul602_1 ge602_1)
                      clear hva_ hvn_ hvc_ ge602_1 ul602_1
                      have hv602_2 := hcc602 2 _ rfl
                      rw [add_field _ _ 2 J15] at hv602_2
                      replace hv602_2 := Option.some.inj (hv602_2.symm.trans hx602_2)
                      injection hv602_2 with hva_ hvn_ hvc_
                      rw [hva_] at ge602_2
                      rw [hvc_] at ul602_2
                      have HL602_2 := zq (show Kd.V (Kd.int .i64) 3 _ w.heap.size _ _ ((rd_T30 t591 0).f2) from Kd.V_mk ul602_2 ge602_2)
                      clear hva_ hvn_ hvc_ ge602_2 ul602_2
                      have hv602_3 := hcc602 3 _ rfl
                      rw [add_field _ _ 3 J15] at hv602_3
                      replace hv602_3 := Option.some.inj (hv602_3.symm.trans hx602_3)
                      injection hv602_3 with hva_ hvn_ hvc_
                      rw [hva_] at ge602_3
                      rw [hvc_] at ul602_3
                      have HL602_3 := zq (show Kd.V k38 38 _ w.heap.size _ _ ((rd_T30 t591 0).f3) from Kd.V_mk ul602_3 ge602_3)
                      clear hva_ hvn_ hvc_ ge602_3 ul602_3
                      clear hcc602 hce602
                      have qi602 : (0 < t591.length) = True := eq_true J15
                      (try rw [show ((0 : Int)).toNat = 0 from rfl] at hx602_0)
                      (try rw [show 0 * 4 = 0 from rfl] at hx602_0)
                      (try rw [Addr.add_zero'] at hx602_0)
                      (try rw [show ((0 : Int)).toNat = 0 from rfl] at hx602_1)
                      (try rw [show 0 * 4 = 0 from rfl] at hx602_1)
                      (try rw [Addr.add_zero'] at hx602_1)
                      (try rw [show ((0 : Int)).toNat = 0 from rfl] at hx602_2)
                      (try rw [show 0 * 4 = 0 from rfl] at hx602_2)
                      (try rw [Addr.add_zero'] at hx602_2)
                      (try rw [show ((0 : Int)).toNat = 0 from rfl] at hx602_3)
                      (try rw [show 0 * 4 = 0 from rfl] at hx602_3)
                      (try rw [Addr.add_zero'] at hx602_3)
                      have HR602_1 := zq hi602_1
                      have HC602_1 := zq hl602_1
                      clear hi602_1 hl602_1
                      have HR602_2 := zq hi602_2
                      have HC602_2 := zq hl602_2
                      clear hi602_2 hl602_2
                      have HR602_3 := zq hi602_3
                      have HC602_3 := zq hl602_3
                      clear hi602_3 hl602_3
                      replace p602 := eq_true p602
                      replace q602 := eq_true q602
                      have ea_ := Option.some.inj (hx600_1.symm.trans hx602_1)
                      injection ea_ with ea_ en_ ec_
                      subst ea_
                      subst ec_
                      clear en_
                      have ea_ := Option.some.inj (hx600_2.symm.trans hx602_2)
                      injection ea_ with ea_ en_ ec_
                      subst ea_
                      subst ec_
                      clear en_
                      have ea_ := Option.some.inj (hx600_3.symm.trans hx602_3)
                      injection ea_ with ea_ en_ ec_
                      subst ea_
                      subst ec_
                      clear en_
                      refine start_ (n := 32) (S := fun w' => w'.cell? ad598 = some (.int .i64 ((rd_T30 l0 0).f0)) ∧ w'.cell? ⟨ad598.block, ad598.off + 1, none⟩ = some (.slice A599_1 ((rd_T30 l0 0).f1).length c599_1) ∧ w'.cell? ⟨ad598.block, ad598.off + 2, none⟩ = some (.slice A599_2 ((rd_T30 l0 0).f2).length c599_2) ∧ w'.cell? ⟨ad598.block, ad598.off + 3, none⟩ = some (.slice A599_3 ((rd_T30 l0 0).f3).length c599_3) ∧ w'.cell? ad600 = some (.int .i64 ((rd_T30 t591 0).f0)) ∧ w'.cell? ⟨ad600.block, ad600.off + 1, none⟩ = some (.slice A600_1 ((rd_T30 t591 0).f1).length c600_1) ∧ w'.cell? ⟨ad600.block, ad600.off + 2, none⟩ = some (.slice A600_2 ((rd_T30 t591 0).f2).length c600_2) ∧ w'.cell? ⟨ad600.block, ad600.off + 3, none⟩ = some (.slice A600_3 ((rd_T30 t591 0).f3).length c600_3) ∧ w'.cell? ad600 = some (.int .i64 ((rd_T30 t591 0).f0)) ∧ w'.cell? ⟨ad600.block, ad600.off + 1, none⟩ = some (.slice A600_1 ((rd_T30 t591 0).f1).length c600_1) ∧ w'.cell? ⟨ad600.block, ad600.off + 2, none⟩ = some (.slice A600_2 ((rd_T30 t591 0).f2).length c600_2) ∧ w'.cell? ⟨ad600.block, ad600.off + 3, none⟩ = some (.slice A600_3 ((rd_T30 t591 0).f3).length c600_3)) (ds := []) #[Z,Z,Z,Z,Z,Z,Z,Z,Z,Z,Z,Z,Z,Z,Z,Z,Z,Z,Z,Z,Z,Z,Z,Z,Z,Z,Z,Z,Z,Z,Z,Z] J4 rfl rfl ⟨((HB.out.cell (World.block_lt_of_cell? w _ hw599_0)).trans hw599_0), ((HB.out.cell (World.block_lt_of_cell? w _ hw599_1)).trans hw599_1), ((HB.out.cell (World.block_lt_of_cell? w _ hw599_2)).trans hw599_2), ((HB.out.cell (World.block_lt_of_cell? w _ hw599_3)).trans hw599_3), hx600_0, hx600_1, hx600_2, hx600_3, hx602_0, hx602_1, hx602_2, hx602_3⟩ (fun hHeld => ?_); refine with_tabW decklelaw11_TightShape.tab10 decklelaw11_TightShape.bits10 (fun HT_ HW_ => ?_)
                      generalize wc.drew = w30 at HO_5 HB HL600_1 HL600_2 HL600_3 HL602_1 HL602_2 HL602_3 HR599_1 HR599_2 HR599_3 HR600_1 HR600_2 HR600_3 HR602_1 HR602_2 HR602_3 hx599_0 hx599_1 hx599_2 hx599_3 hx600_0 hx600_1 hx600_2 hx600_3 hx602_0 hx602_1 hx602_2 hx602_3 hHeld ⊢
                      refine pure_ (i := 0) (N := some 75) (v := ?_) (a' := ?_) #[Y,Z,Z,Z,Z,Z,Z,Z,Z,Z,Z,Z,Z,Z,Z,Z,Z,Z,Z,Z,Z,Z,Z,Z,Z,Z,Z,Z,Z,Z,Z,Z] rfl rfl (any_of HT_.out J4) (fun _ _ _ h => h) (Or.inl ⟨J28, ?_⟩) ?_ ?_
                      rotate_left
                      · exact pz0
                      rotate_left
                      · exact pz1
                      refine pure_ (i := 1) (N := some 76) (v := ?_) (a' := ?_) #[Y,Y,Z,Z,Z,Z,Z,Z,Z,Z,Z,Z,Z,Z,Z,Z,Z,Z,Z,Z,Z,Z,Z,Z,Z,Z,Z,Z,Z,Z,Z,Z] rfl rfl (any_of HT_.out J4) (fun _ _ _ h => h) (Or.inl ⟨J28, ?_⟩) ?_ ?_
                      rotate_left
                      · exact pz0
                      rotate_left
                      · exact pz1
                      refine pure_ (i := 2) (N := some 77) (v := ?_) (a' := ?_) #[Y,Y,Y,Z,Z,Z,Z,Z,Z,Z,Z,Z,Z,Z,Z,Z,Z,Z,Z,Z,Z,Z,Z,Z,Z,Z,Z,Z,Z,Z,Z,Z] rfl rfl (any_of HT_.out J4) (fun _ _ _ h => h) (Or.inl ⟨J28, ?_⟩) ?_ ?_
                      rotate_left
                      · exact pz0
                      rotate_left
                      · exact pz1
                      refine pure_ (i := 3) (N := some 78) (v := ?_) (a' := ?_) #[Y,Y,Y,Y,Z,Z,Z,Z,Z,Z,Z,Z,Z,Z,Z,Z,Z,Z,Z,Z,Z,Z,Z,Z,Z,Z,Z,Z,Z,Z,Z,Z] rfl rfl (any_of HT_.out J4) (fun _ _ _ h => h) (Or.inl ⟨J28, ?_⟩) ?_ ?_
                      rotate_left
                      · exact pz0
                      rotate_left
                      · exact pz1
                      refine pure_ (i := 4) (N := some 79) (v := ?_) (a' := ?_) #[Y,Y,Y,Y,Y,Z,Z,Z,Z,Z,Z,Z,Z,Z,Z,Z,Z,Z,Z,Z,Z,Z,Z,Z,Z,Z,Z,Z,Z,Z,Z,Z] rfl rfl (any_of HT_.out J4) (fun _ _ _ h => h) (Or.inl ⟨J28, ?_⟩) ?_ ?_
                      rotate_left
                      · exact pz0
                      rotate_left
                      · exact pz1
                      refine pure_ (i := 5) (N := some 80) (v := ?_) (a' := ?_) #[Y,Y,Y,Y,Y,Y,Z,Z,Z,Z,Z,Z,Z,Z,Z,Z,Z,Z,Z,Z,Z,Z,Z,Z,Z,Z,Z,Z,Z,Z,Z,Z] rfl rfl (any_of HT_.out J4) (fun _ _ _ h => h) (Or.inl ⟨J28, ?_⟩) ?_ ?_
                      rotate_left
                      · exact pz0
                      rotate_left
                      · exact pz1
                      refine pure_ (i := 6) (N := some 81) (v := ?_) (a' := ?_) #[Y,Y,Y,Y,Y,Y,Y,Z,Z,Z,Z,Z,Z,Z,Z,Z,Z,Z,Z,Z,Z,Z,Z,Z,Z,Z,Z,Z,Z,Z,Z,Z] rfl rfl (any_of HT_.out J4) (fun _ _ _ h => h) (Or.inl ⟨J28, ?_⟩) ?_ ?_
                      rotate_left
                      · exact pz0
                      rotate_left
                      · exact pz1
                      refine pure_ (i := 7) (N := some 82) (v := ?_) (a' := ?_) #[Y,Y,Y,Y,Y,Y,Y,Y,Z,Z,Z,Z,Z,Z,Z,Z,Z,Z,Z,Z,Z,Z,Z,Z,Z,Z,Z,Z,Z,Z,Z,Z] rfl rfl (any_of HT_.out J4) (fun _ _ _ h => h) (Or.inl ⟨J28, ?_⟩) ?_ ?_
                      rotate_left
                      · exact pz0
                      rotate_left
                      · exact pz1
                      refine pure_ (i := 8) (N := some 83) (v := ?_) (a' := ?_) #[Y,Y,Y,Y,Y,Y,Y,Y,Y,Z,Z,Z,Z,Z,Z,Z,Z,Z,Z,Z,Z,Z,Z,Z,Z,Z,Z,Z,Z,Z,Z,Z] rfl rfl (any_of HT_.out J4) (fun _ _ _ h => h) (Or.inl ⟨J28, ?_⟩) ?_ ?_
                      rotate_left
                      · exact pz0
                      rotate_left
                      · exact pz1
                      refine pure_ (i := 9) (N := some 84) (v := ?_) (a' := ?_) #[Y,Y,Y,Y,Y,Y,Y,Y,Y,Y,Z,Z,Z,Z,Z,Z,Z,Z,Z,Z,Z,Z,Z,Z,Z,Z,Z,Z,Z,Z,Z,Z] rfl rfl (any_of HT_.out J4) (fun _ _ _ h => h) (Or.inl ⟨J28, ?_⟩) ?_ ?_
                      rotate_left
                      · exact pz0
                      rotate_left
                      · exact pz1
                      refine pure_ (i := 11) (N := some 86) (v := ?_) (a' := ?_) #[Y,Y,Y,Y,Y,Y,Y,Y,Y,Y,Z,Y,Z,Z,Z,Z,Z,Z,Z,Z,Z,Z,Z,Z,Z,Z,Z,Z,Z,Z,Z,Z] rfl rfl (any_of HT_.out J4) (fun _ _ _ h => h) (Or.inl ⟨J28, ?_⟩) ?_ ?_
                      rotate_left
                      · exact pz0
                      rotate_left
                      · exact pz1
                      refine pure_ (i := 12) (N := some 87) (v := ?_) (a' := ?_) #[Y,Y,Y,Y,Y,Y,Y,Y,Y,Y,Z,Y,Y,Z,Z,Z,Z,Z,Z,Z,Z,Z,Z,Z,Z,Z,Z,Z,Z,Z,Z,Z] rfl rfl (any_of HT_.out J4) (fun _ _ _ h => h) (Or.inl ⟨J28, ?_⟩) ?_ ?_
                      rotate_left
                      · exact pz0
                      rotate_left
                      · exact pz1
                      refine pure_ (i := 13) (N := some 88) (v := ?_) (a' := ?_) #[Y,Y,Y,Y,Y,Y,Y,Y,Y,Y,Z,Y,Y,Y,Z,Z,Z,Z,Z,Z,Z,Z,Z,Z,Z,Z,Z,Z,Z,Z,Z,Z] rfl rfl (any_of HT_.out J4) (fun _ _ _ h => h) (Or.inl ⟨J28, ?_⟩) ?_ ?_
                      rotate_left
                      · exact pz0
                      rotate_left
                      · exact pz1
                      refine take_ (i := 10) (N := some 85) (v := ?_) (a' := ?_) #[Y,Y,Y,Y,Y,Y,Y,Y,Y,Y,Y,Y,Y,Y,Z,Z,Z,Z,Z,Z,Z,Z,Z,Z,Z,Z,Z,Z,Z,Z,Z,Z] rfl rfl (take_ofW HT_.out HW_.out J4) (fun _ _ _ h => h) (Or.inl ⟨J28, ?_⟩) hHeld ?_ ?_
                      rotate_left
                      · rintro w' ⟨s0, s1, s2, s3, s4, s5, s6, s7, s8, s9, s10, s11⟩
                        go_simp
                        with_reducible rfl
                      rotate_left
                      · exact pz1
                      refine take_ (i := 14) (N := some 89) (v := ?_) (a' := ?_) #[Y,Y,Y,Y,Y,Y,Y,Y,Y,Y,Y,Y,Y,Y,Y,Z,Z,Z,Z,Z,Z,Z,Z,Z,Z,Z,Z,Z,Z,Z,Z,Z] rfl rfl (take_ofW HT_.out HW_.out J4) (fun _ _ _ h => h) (Or.inl ⟨J28, ?_⟩) hHeld ?_ ?_
                      rotate_left
                      · rintro w' ⟨s0, s1, s2, s3, s4, s5, s6, s7, s8, s9, s10, s11⟩
                        go_simp
                        with_reducible rfl
                      rotate_left
                      · exact pz1
                      refine one_ (i := 15) (N := some 90) #[Y,Y,Y,Y,Y,Y,Y,Y,Y,Y,Y,Y,Y,Y,Y,Y,Z,Z,Z,Z,Z,Z,Z,Z,Z,Z,Z,Z,Z,Z,Z,Z] rfl rfl (one_of HT_.out J4) J17 (fun K hK => ?_)
                      refine goes_ Try.func21 J4 rfl #[.slice A599_2 ((rd_T30 l0 0).f2).length c599_2, .slice A600_2 ((rd_T30 t591 0).f2).length c600_2] J28 rfl rfl J1 ?_
                      with_reducible refine (deckleref01_Same.calls kj9 _ _ ((rd_T30 l0 0).f2) _ _ ((rd_T30 t591 0).f2) true _ ?side1 ?side2 ?side3 ?side4 A27.out).mono ?_
                      (case side1 => exact zc (Kd.C_below HR599_2.out HB.out))
                      (case side2 => exact HC599_2.out)
                      (case side3 => repeat (first | exact J86 | (with_reducible refine Kd.C_alloc ?_ _) | (with_reducible refine Kd.C_drewN ?_ _) | (with_reducible refine Kd.C_drew ?_)))
                      (case side4 => exact HC600_2.out)
                      rintro e w' ⟨rfl, ⟨nd, rfl⟩⟩
                      refine ⟨_, rfl, ?_⟩
                      refine hK.out _ _ ⟨((HB.out.cell (World.block_lt_of_cell? w _ hw599_0)).trans hw599_0), ((HB.out.cell (World.block_lt_of_cell? w _ hw599_1)).trans hw599_1), ((HB.out.cell (World.block_lt_of_cell? w _ hw599_2)).trans hw599_2), ((HB.out.cell (World.block_lt_of_cell? w _ hw599_3)).trans hw599_3), hHeld.2.2.2.2.1, hHeld.2.2.2.2.2.1, hHeld.2.2.2.2.2.2.1, hHeld.2.2.2.2.2.2.2.1, hHeld.2.2.2.2.2.2.2.2.1, hHeld.2.2.2.2.2.2.2.2.2.1, hHeld.2.2.2.2.2.2.2.2.2.2.1, hHeld.2.2.2.2.2.2.2.2.2.2.2⟩ (fun hHeld => ?_)
                      clear hK K
                      refine norm_ (a' := ?_) ?_ ?_
                      rotate_left
                      · show Act.put _ (some 90) _ = _
                        simp only [Act.put, List.setIfInBounds_toArray, List.set_cons_zero, List.set_cons_succ, i64_w, i32_w]
                        rfl
                      refine pure_ (i := 16) (N := some 91) (v := ?_) (a' := ?_) #[Y,Y,Y,Y,Y,Y,Y,Y,Y,Y,Y,Y,Y,Y,Y,Y,Y,Z,Z,Z,Z,Z,Z,Z,Z,Z,Z,Z,Z,Z,Z,Z] rfl rfl (any_of HT_.out J4) (fun _ _ _ h => h) (Or.inl ⟨J28, ?_⟩) ?_ ?_
                      rotate_left
                      · exact pz0
                      rotate_left
                      · exact pz1
                      refine pure_ (i := 17) (N := some 92) (v := ?_) (a' := ?_) #[Y,Y,Y,Y,Y,Y,Y,Y,Y,Y,Y,Y,Y,Y,Y,Y,Y,Y,Z,Z,Z,Z,Z,Z,Z,Z,Z,Z,Z,Z,Z,Z] rfl rfl (any_of HT_.out J4) (fun _ _ _ h => h) (Or.inl ⟨J28, ?_⟩) ?_ ?_
                      rotate_left
                      · exact pz0
                      rotate_left
                      · exact pz1
                      refine pure_ (i := 18) (N := some 93) (v := ?_) (a' := ?_) #[Y,Y,Y,Y,Y,Y,Y,Y,Y,Y,Y,Y,Y,Y,Y,Y,Y,Y,Y,Z,Z,Z,Z,Z,Z,Z,Z,Z,Z,Z,Z,Z] rfl rfl (any_of HT_.out J4) (fun _ _ _ h => h) (Or.inl ⟨J28, ?_⟩) ?_ ?_
                      rotate_left
                      · exact pz0
                      rotate_left
                      · exact pz1
                      refine pure_ (i := 19) (N := some 94) (v := ?_) (a' := ?_) #[Y,Y,Y,Y,Y,Y,Y,Y,Y,Y,Y,Y,Y,Y,Y,Y,Y,Y,Y,Y,Z,Z,Z,Z,Z,Z,Z,Z,Z,Z,Z,Z] rfl rfl (any_of HT_.out J4) (fun _ _ _ h => h) (Or.inl ⟨J28, ?_⟩) ?_ ?_
                      rotate_left
                      · exact pz0
                      rotate_left
                      · exact pz1
                      refine pure_ (i := 20) (N := some 95) (v := ?_) (a' := ?_) #[Y,Y,Y,Y,Y,Y,Y,Y,Y,Y,Y,Y,Y,Y,Y,Y,Y,Y,Y,Y,Y,Z,Z,Z,Z,Z,Z,Z,Z,Z,Z,Z] rfl rfl (any_of HT_.out J4) (fun _ _ _ h => h) (Or.inl ⟨J28, ?_⟩) ?_ ?_
                      rotate_left
                      · exact pz0
                      rotate_left
                      · exact pz1
                      refine take_ (i := 21) (N := some 96) (v := ?_) (a' := ?_) #[Y,Y,Y,Y,Y,Y,Y,Y,Y,Y,Y,Y,Y,Y,Y,Y,Y,Y,Y,Y,Y,Y,Z,Z,Z,Z,Z,Z,Z,Z,Z,Z] rfl rfl (take_ofW HT_.out HW_.out J4) (fun _ _ _ h => h) (Or.inl ⟨J28, ?_⟩) hHeld ?_ ?_
                      rotate_left
                      · rintro w' ⟨s0, s1, s2, s3, s4, s5, s6, s7, s8, s9, s10, s11⟩
                        go_simp
                        with_reducible rfl
                      rotate_left
                      · exact pz1
                      refine pure_ (i := 22) (N := some 97) (v := ?_) (a' := ?_) #[Y,Y,Y,Y,Y,Y,Y,Y,Y,Y,Y,Y,Y,Y,Y,Y,Y,Y,Y,Y,Y,Y,Y,Z,Z,Z,Z,Z,Z,Z,Z,Z] rfl rfl (any_of HT_.out J4) (fun _ _ _ h => h) (Or.inl ⟨J28, ?_⟩) ?_ ?_
                      rotate_left
                      · exact pz0
                      rotate_left
                      · exact pz1
                      refine pure_ (i := 23) (N := some 98) (v := ?_) (a' := ?_) #[Y,Y,Y,Y,Y,Y,Y,Y,Y,Y,Y,Y,Y,Y,Y,Y,Y,Y,Y,Y,Y,Y,Y,Y,Z,Z,Z,Z,Z,Z,Z,Z] rfl rfl (any_of HT_.out J4) (fun _ _ _ h => h) (Or.inl ⟨J28, ?_⟩) ?_ ?_
                      rotate_left
                      · exact pz0
                      rotate_left
                      · exact pz1
                      refine pure_ (i := 24) (N := some 99) (v := undef) (a' := ?_) #[Y,Y,Y,Y,Y,Y,Y,Y,Y,Y,Y,Y,Y,Y,Y,Y,Y,Y,Y,Y,Y,Y,Y,Y,Y,Z,Z,Z,Z,Z,Z,Z] rfl rfl (any_of HT_.out J4) (fun _ _ _ h => h) (Or.inr ⟨J28, rfl⟩) ?_ ?_
                      rotate_left
                      · exact pz1
                      refine pure_ (i := 25) (N := some 100) (v := undef) (a' := ?_) #[Y,Y,Y,Y,Y,Y,Y,Y,Y,Y,Y,Y,Y,Y,Y,Y,Y,Y,Y,Y,Y,Y,Y,Y,Y,Y,Z,Z,Z,Z,Z,Z] rfl rfl (any_of HT_.out J4) (fun _ _ _ h => h) (Or.inr ⟨J28, rfl⟩) ?_ ?_
                      rotate_left
                      · exact pz1
                      refine pure_ (i := 26) (N := some 101) (v := undef) (a' := ?_) #[Y,Y,Y,Y,Y,Y,Y,Y,Y,Y,Y,Y,Y,Y,Y,Y,Y,Y,Y,Y,Y,Y,Y,Y,Y,Y,Y,Z,Z,Z,Z,Z] rfl rfl (any_of HT_.out J4) (fun _ _ _ h => h) (Or.inr ⟨J28, rfl⟩) ?_ ?_
                      rotate_left
                      · exact pz1
                      refine pure_ (i := 27) (N := some 102) (v := undef) (a' := ?_) #[Y,Y,Y,Y,Y,Y,Y,Y,Y,Y,Y,Y,Y,Y,Y,Y,Y,Y,Y,Y,Y,Y,Y,Y,Y,Y,Y,Y,Z,Z,Z,Z] rfl rfl (any_of HT_.out J4) (fun _ _ _ h => h) (Or.inr ⟨J28, rfl⟩) ?_ ?_
                      rotate_left
                      · exact pz1
                      refine pure_ (i := 28) (N := some 103) (v := undef) (a' := ?_) #[Y,Y,Y,Y,Y,Y,Y,Y,Y,Y,Y,Y,Y,Y,Y,Y,Y,Y,Y,Y,Y,Y,Y,Y,Y,Y,Y,Y,Y,Z,Z,Z] rfl rfl (any_of HT_.out J4) (fun _ _ _ h => h) (Or.inr ⟨J28, rfl⟩) ?_ ?_
                      rotate_left
                      · exact pz1
                      refine pure_ (i := 29) (N := some 104) (v := ?_) (a' := ?_) #[Y,Y,Y,Y,Y,Y,Y,Y,Y,Y,Y,Y,Y,Y,Y,Y,Y,Y,Y,Y,Y,Y,Y,Y,Y,Y,Y,Y,Y,Y,Z,Z] rfl rfl (any_of HT_.out J4) (fun _ _ _ h => h) (Or.inl ⟨J28, ?_⟩) ?_ ?_
                      rotate_left
                      · exact pz0
                      rotate_left
                      · exact pz1
                      refine pure_ (i := 30) (N := some 105) (v := ?_) (a' := ?_) #[Y,Y,Y,Y,Y,Y,Y,Y,Y,Y,Y,Y,Y,Y,Y,Y,Y,Y,Y,Y,Y,Y,Y,Y,Y,Y,Y,Y,Y,Y,Y,Z] rfl rfl (any_of HT_.out J4) (fun _ _ _ h => h) (Or.inl ⟨J28, ?_⟩) ?_ ?_
                      rotate_left
                      · exact pz0
                      rotate_left
                      · exact pz1
                      refine pure_ (i := 31) (N := some 2) (v := ?_) (a' := ?_) #[Y,Y,Y,Y,Y,Y,Y,Y,Y,Y,Y,Y,Y,Y,Y,Y,Y,Y,Y,Y,Y,Y,Y,Y,Y,Y,Y,Y,Y,Y,Y,Y] rfl rfl (any_of HT_.out J4) (fun _ _ _ h => h) (Or.inl ⟨J28, ?_⟩) ?_ ?_
                      rotate_left
                      · exact pz0
                      rotate_left
                      · exact pz1
                      refine done_ (done_of HT_.out J4) ?_
                      try go_wp2
                      go_ret
                      exact ⟨J3, J0⟩
                    · rw [if_neg c29] at H
                      have c29b0 : (((rd_T30 t591 0).f0) == 1) = false := beq_eq_false_iff_ne.mpr c29
                      have c29b1 : (((rd_T30 t591 0).f0) != 1) = true := bne_iff_ne.mpr c29
                      obtain rfl := Option.some.inj H
                      have p598 : 0 ≤ (0 : Int) := J15
                      have q598 : 0 < (l0.length : Int) := of_decide_eq_true J2
                      obtain ⟨ad598, A598_1, c598_1, A598_2, c598_2, A598_3, c598_3, e598, hx598_0, hx598_1, hx598_2, hx598_3, hl598_1, hi598_1, hl598_2, hi598_2, hl598_3, hi598_3⟩ := at_T30 HR0.out 0 p598 q598
                      cases e598
                      have qi598 : (0 < l0.length) = True := eq_true J15
                      (try rw [show ((0 : Int)).toNat = 0 from rfl] at hx598_0)
                      (try rw [show 0 * 4 = 0 from rfl] at hx598_0)
                      (try rw [Addr.add_zero'] at hx598_0)
                      (try rw [show ((0 : Int)).toNat = 0 from rfl] at hx598_1)
                      (try rw [show 0 * 4 = 0 from rfl] at hx598_1)
                      (try rw [Addr.add_zero'] at hx598_1)
                      (try rw [show ((0 : Int)).toNat = 0 from rfl] at hx598_2)
                      (try rw [show 0 * 4 = 0 from rfl] at hx598_2)
                      (try rw [Addr.add_zero'] at hx598_2)
                      (try rw [show ((0 : Int)).toNat = 0 from rfl] at hx598_3)
                      (try rw [show 0 * 4 = 0 from rfl] at hx598_3)
                      (try rw [Addr.add_zero'] at hx598_3)
                      replace hx598_0 := (HB.out.cell (World.block_lt_of_cell? w _ hx598_0)).trans hx598_0
                      replace hx598_1 := (HB.out.cell (World.block_lt_of_cell? w _ hx598_1)).trans hx598_1
                      replace hx598_2 := (HB.out.cell (World.block_lt_of_cell? w _ hx598_2)).trans hx598_2
                      replace hx598_3 := (HB.out.cell (World.block_lt_of_cell? w _ hx598_3)).trans hx598_3
                      have HR598_1 := zq hi598_1
                      have HC598_1 := zq hl598_1
                      clear hi598_1 hl598_1
                      have HR598_2 := zq hi598_2
                      have HC598_2 := zq hl598_2
                      clear hi598_2 hl598_2
                      have HR598_3 := zq hi598_3
                      have HC598_3 := zq hl598_3
                      clear hi598_3 hl598_3
                      replace p598 := eq_true p598
                      replace q598 := eq_true q598
                      try go_wp2
                      replace HO_5 := zq (Kd.N_drew HO_5.out)
                      replace HB := zq (below_drew1 HB.out)
                      obtain ⟨Ao33, co33, eo33⟩ := Kd.N_slice HO_5.out
                      (first | subst eo33 | (injection eo33 with f1_ f2_ f3_; have f4_ := f1_.symm; have f5_ := f3_.symm; clear f1_ f2_ f3_; subst f4_; subst f5_))
                      have p599 : 0 ≤ (0 : Int) := J15
                      have q599 : 0 < (l0.length : Int) := of_decide_eq_true J2
                      obtain ⟨ad599, A599_1, c599_1, A599_2, c599_2, A599_3, c599_3, e599, hx599_0, hx599_1, hx599_2, hx599_3, hl599_1, hi599_1, hl599_2, hi599_2, hl599_3, hi599_3⟩ := at_T30 HR0.out 0 p599 q599
                      have hw599_3 := hx599_3
                      (try rw [show ((0 : Int)).toNat = 0 from rfl] at hw599_3)
                      (try rw [show 0 * 4 = 0 from rfl] at hw599_3)
                      (try rw [Addr.add_zero'] at hw599_3)
                      have hw599_2 := hx599_2
                      (try rw [show ((0 : Int)).toNat = 0 from rfl] at hw599_2)
                      (try rw [show 0 * 4 = 0 from rfl] at hw599_2)
                      (try rw [Addr.add_zero'] at hw599_2)
                      have hw599_1 := hx599_1
                      (try rw [show ((0 : Int)).toNat = 0 from rfl] at hw599_1)
                      (try rw [show 0 * 4 = 0 from rfl] at hw599_1)
                      (try rw [Addr.add_zero'] at hw599_1)
                      have hw599_0 := hx599_0
                      (try rw [show ((0 : Int)).toNat = 0 from rfl] at hw599_0)
                      (try rw [show 0 * 4 = 0 from rfl] at hw599_0)
                      (try rw [Addr.add_zero'] at hw599_0)
                      obtain rfl : ad598 = ad599 := (by injection e599)
                      have qi599 : (0 < l0.length) = True := eq_true J15
                      (try rw [show ((0 : Int)).toNat = 0 from rfl] at hx599_0)
                      (try rw [show 0 * 4 = 0 from rfl] at hx599_0)
                      (try rw [Addr.add_zero'] at hx599_0)
                      (try rw [show ((0 : Int)).toNat = 0 from rfl] at hx599_1)
                      (try rw [show 0 * 4 = 0 from rfl] at hx599_1)
                      (try rw [Addr.add_zero'] at hx599_1)
                      (try rw [show ((0 : Int)).toNat = 0 from rfl] at hx599_2)
                      (try rw [show 0 * 4 = 0 from rfl] at hx599_2)
                      (try rw [Addr.add_zero'] at hx599_2)
                      (try rw [show ((0 : Int)).toNat = 0 from rfl] at hx599_3)
                      (try rw [show 0 * 4 = 0 from rfl] at hx599_3)
                      (try rw [Addr.add_zero'] at hx599_3)
                      replace hx599_0 := (HB.out.cell (World.block_lt_of_cell? w _ hx599_0)).trans hx599_0
                      replace hx599_1 := (HB.out.cell (World.block_lt_of_cell? w _ hx599_1)).trans hx599_1
                      replace hx599_2 := (HB.out.cell (World.block_lt_of_cell? w _ hx599_2)).trans hx599_2
                      replace hx599_3 := (HB.out.cell (World.block_lt_of_cell? w _ hx599_3)).trans hx599_3
                      have HR599_1 := zq hi599_1
                      have HC599_1 := zq hl599_1
                      clear hi599_1 hl599_1
                      have HR599_2 := zq hi599_2
                      have HC599_2 := zq hl599_2
                      clear hi599_2 hl599_2
                      have HR599_3 := zq hi599_3
                      have HC599_3 := zq hl599_3
                      clear hi599_3 hl599_3
                      replace p599 := eq_true p599
                      replace q599 := eq_true q599
                      have p600 : 0 ≤ (0 : Int) := J15
                      have q600 : 0 < (t591.length : Int) := of_decide_eq_true J2
                      obtain ⟨ad600, A600_1, c600_1, A600_2, c600_2, A600_3, c600_3, e600, hx600_0, hx600_1, hx600_2, hx600_3, hl600_1, hi600_1, hl600_2, hi600_2, hl600_3, hi600_3⟩ := at_T30 (Kd.N_reads' HO_5.out).2.2 0 p600 q600
                      cases e600
                      obtain ⟨ce600, hce600, hMe600, hcc600⟩ := Kd.N_get HO_5.out z30 0 p600 (by first | exact q600 | exact of_decide_eq_true J2 | (have e_ := (Kd.N_reads' HO_5.out).1; omega))
                      obtain ⟨ua600_1, uc600_1, ua600_2, uc600_2, ua600_3, uc600_3, rfl, ul600_1, ge600_1, ul600_2, ge600_2, ul600_3, ge600_3⟩ := k30_openF hMe600
                      have hv600_1 := hcc600 1 _ rfl
                      rw [add_field _ _ 1 J15] at hv600_1
                      replace hv600_1 := Option.some.inj (hv600_1.symm.trans hx600_1)
                      injection hv600_1 with hva_ hvn_ hvc_
                      rw [hva_] at ge600_1
                      rw [hvc_] at ul600_1
                      have HL600_1 := zq (show Kd.V (Kd.int .i64) 3 _ w.heap.size _ _ ((rd_T30 t591 0).f1) from Kd.V_mk ul600_1 ge600_1)
                      clear hva_ hvn_ hvc_ ge600_1 ul600_1
                      have hv600_2 := hcc600 2 _ rfl
                      rw [add_field _ _ 2 J15] at hv600_2
                      replace hv600_2 := Option.some.inj (hv600_2.symm.trans hx600_2)
                      injection hv600_2 with hva_ hvn_ hvc_
                      rw [hva_] at ge600_2
                      rw [hvc_] at ul600_2
                      have HL600_2 := zq (show Kd.V (Kd.int .i64) 3 _ w.heap.size _ _ ((rd_T30 t591 0).f2) from Kd.V_mk ul600_2 ge600_2)
                      clear hva_ hvn_ hvc_ ge600_2 ul600_2
                      have hv600_3 := hcc600 3 _ rfl
                      rw [add_field _ _ 3 J15] at hv600_3
                      replace hv600_3 := Option.some.inj (hv600_3.symm.trans hx600_3)
                      injection hv600_3 with hva_ hvn_ hvc_
                      rw [hva_] at ge600_3
                      rw [hvc_] at ul600_3
                      have HL600_3 := zq (show Kd.V k38 38 _ w.heap.size _ _ ((rd_T30 t591 0).f3) from Kd.V_mk ul600_3 ge600_3)
                      clear hva_ hvn_ hvc_ ge600_3 ul600_3
                      clear hcc600 hce600
                      have qi600 : (0 < t591.length) = True := eq_true J15
                      (try rw [show ((0 : Int)).toNat = 0 from rfl] at hx600_0)
                      (try rw [show 0 * 4 = 0 from rfl] at hx600_0)
                      (try rw [Addr.add_zero'] at hx600_0)
                      (try rw [show ((0 : Int)).toNat = 0 from rfl] at hx600_1)
                      (try rw [show 0 * 4 = 0 from rfl] at hx600_1)
                      (try rw [Addr.add_zero'] at hx600_1)
                      (try rw [show ((0 : Int)).toNat = 0 from rfl] at hx600_2)
                      (try rw [show 0 * 4 = 0 from rfl] at hx600_2)
                      (try rw [Addr.add_zero'] at hx600_2)
                      (try rw [show ((0 : Int)).toNat = 0 from rfl] at hx600_3)
                      (try rw [show 0 * 4 = 0 from rfl] at hx600_3)
                      (try rw [Addr.add_zero'] at hx600_3)
                      have HR600_1 := zq hi600_1
                      have HC600_1 := zq hl600_1
                      clear hi600_1 hl600_1
                      have HR600_2 := zq hi600_2
                      have HC600_2 := zq hl600_2
                      clear hi600_2 hl600_2
                      have HR600_3 := zq hi600_3
                      have HC600_3 := zq hl600_3
                      clear hi600_3 hl600_3
                      replace p600 := eq_true p600
                      replace q600 := eq_true q600
                      have p602 : 0 ≤ (0 : Int) := J15
                      have q602 : 0 < (t591.length : Int) := of_decide_eq_true J2
                      obtain ⟨ad602, A602_1, c602_1, A602_2, c602_2, A602_3, c602_3, e602, hx602_0, hx602_1, hx602_2, hx602_3, hl602_1, hi602_1, hl602_2, hi602_2, hl602_3, hi602_3⟩ := at_T30 (Kd.N_reads' HO_5.out).2.2 0 p602 q602
                      obtain rfl : ad600 = ad602 := (by injection e602)
                      obtain ⟨ce602, hce602, hMe602, hcc602⟩ := Kd.N_get HO_5.out z30 0 p602 (by first | exact q602 | exact of_decide_eq_true J2 | (have e_ := (Kd.N_reads' HO_5.out).1; omega))
                      obtain ⟨ua602_1, uc602_1, ua602_2, uc602_2, ua602_3, uc602_3, rfl, ul602_1, ge602_1, ul602_2, ge602_2, ul602_3, ge602_3⟩ := k30_openF hMe602
                      have hv602_1 := hcc602 1 _ rfl
                      rw [add_field _ _ 1 J15] at hv602_1
                      replace hv602_1 := Option.some.inj (hv602_1.symm.trans hx602_1)
                      injection hv602_1 with hva_ hvn_ hvc_
                      rw [hva_] at ge602_1
                      rw [hvc_] at ul602_1
                      have HL602_1 := zq (show Kd.V (Kd.int .i64) 3 _ w.heap.size _ _ ((rd_T30 t591 0).f1) from Kd.V_mk ul602_1 ge602_1)
                      clear hva_ hvn_ hvc_ ge602_1 ul602_1
                      have hv602_2 := hcc602 2 _ rfl
                      rw [add_field _ _ 2 J15] at hv602_2
                      replace hv602_2 := Option.some.inj (hv602_2.symm.trans hx602_2)
                      injection hv602_2 with hva_ hvn_ hvc_
                      rw [hva_] at ge602_2
                      rw [hvc_] at ul602_2
                      have HL602_2 := zq (show Kd.V (Kd.int .i64) 3 _ w.heap.size _ _ ((rd_T30 t591 0).f2) from Kd.V_mk ul602_2 ge602_2)
                      clear hva_ hvn_ hvc_ ge602_2 ul602_2
                      have hv602_3 := hcc602 3 _ rfl
                      rw [add_field _ _ 3 J15] at hv602_3
                      replace hv602_3 := Option.some.inj (hv602_3.symm.trans hx602_3)
                      injection hv602_3 with hva_ hvn_ hvc_
                      rw [hva_] at ge602_3
                      rw [hvc_] at ul602_3
                      have HL602_3 := zq (show Kd.V k38 38 _ w.heap.size _ _ ((rd_T30 t591 0).f3) from Kd.V_mk ul602_3 ge602_3)
                      clear hva_ hvn_ hvc_ ge602_3 ul602_3
                      clear hcc602 hce602
                      have qi602 : (0 < t591.length) = True := eq_true J15
                      (try rw [show ((0 : Int)).toNat = 0 from rfl] at hx602_0)
                      (try rw [show 0 * 4 = 0 from rfl] at hx602_0)
                      (try rw [Addr.add_zero'] at hx602_0)
                      (try rw [show ((0 : Int)).toNat = 0 from rfl] at hx602_1)
                      (try rw [show 0 * 4 = 0 from rfl] at hx602_1)
                      (try rw [Addr.add_zero'] at hx602_1)
                      (try rw [show ((0 : Int)).toNat = 0 from rfl] at hx602_2)
                      (try rw [show 0 * 4 = 0 from rfl] at hx602_2)
                      (try rw [Addr.add_zero'] at hx602_2)
                      (try rw [show ((0 : Int)).toNat = 0 from rfl] at hx602_3)
                      (try rw [show 0 * 4 = 0 from rfl] at hx602_3)
                      (try rw [Addr.add_zero'] at hx602_3)
                      have HR602_1 := zq hi602_1
                      have HC602_1 := zq hl602_1
                      clear hi602_1 hl602_1
                      have HR602_2 := zq hi602_2
                      have HC602_2 := zq hl602_2
                      clear hi602_2 hl602_2
                      have HR602_3 := zq hi602_3
                      have HC602_3 := zq hl602_3
                      clear hi602_3 hl602_3
                      replace p602 := eq_true p602
                      replace q602 := eq_true q602
                      have ea_ := Option.some.inj (hx600_1.symm.trans hx602_1)
                      injection ea_ with ea_ en_ ec_
                      subst ea_
                      subst ec_
                      clear en_
                      have ea_ := Option.some.inj (hx600_2.symm.trans hx602_2)
                      injection ea_ with ea_ en_ ec_
                      subst ea_
                      subst ec_
                      clear en_
                      have ea_ := Option.some.inj (hx600_3.symm.trans hx602_3)
                      injection ea_ with ea_ en_ ec_
                      subst ea_
                      subst ec_
                      clear en_
                      have p603 : 0 ≤ (0 : Int) := J15
                      have q603 : 0 < (t591.length : Int) := of_decide_eq_true J2
                      obtain ⟨ad603, A603_1, c603_1, A603_2, c603_2, A603_3, c603_3, e603, hx603_0, hx603_1, hx603_2, hx603_3, hl603_1, hi603_1, hl603_2, hi603_2, hl603_3, hi603_3⟩ := at_T30 (Kd.N_reads' HO_5.out).2.2 0 p603 q603
                      obtain rfl : ad600 = ad603 := (by injection e603)
                      obtain ⟨ce603, hce603, hMe603, hcc603⟩ := Kd.N_get HO_5.out z30 0 p603 (by first | exact q603 | exact of_decide_eq_true J2 | (have e_ := (Kd.N_reads' HO_5.out).1; omega))
                      obtain ⟨ua603_1, uc603_1, ua603_2, uc603_2, ua603_3, uc603_3, rfl, ul603_1, ge603_1, ul603_2, ge603_2, ul603_3, ge603_3⟩ := k30_openF hMe603
                      have hv603_1 := hcc603 1 _ rfl
                      rw [add_field _ _ 1 J15] at hv603_1
                      replace hv603_1 := Option.some.inj (hv603_1.symm.trans hx603_1)
                      injection hv603_1 with hva_ hvn_ hvc_
                      rw [hva_] at ge603_1
                      rw [hvc_] at ul603_1
                      have HL603_1 := zq (show Kd.V (Kd.int .i64) 3 _ w.heap.size _ _ ((rd_T30 t591 0).f1) from Kd.V_mk ul603_1 ge603_1)
                      clear hva_ hvn_ hvc_ ge603_1 ul603_1
                      have hv603_2 := hcc603 2 _ rfl
                      rw [add_field _ _ 2 J15] at hv603_2
                      replace hv603_2 := Option.some.inj (hv603_2.symm.trans hx603_2)
                      injection hv603_2 with hva_ hvn_ hvc_
                      rw [hva_] at ge603_2
                      rw [hvc_] at ul603_2
                      have HL603_2 := zq (show Kd.V (Kd.int .i64) 3 _ w.heap.size _ _ ((rd_T30 t591 0).f2) from Kd.V_mk ul603_2 ge603_2)
                      clear hva_ hvn_ hvc_ ge603_2 ul603_2
                      have hv603_3 := hcc603 3 _ rfl
                      rw [add_field _ _ 3 J15] at hv603_3
                      replace hv603_3 := Option.some.inj (hv603_3.symm.trans hx603_3)
                      injection hv603_3 with hva_ hvn_ hvc_
                      rw [hva_] at ge603_3
                      rw [hvc_] at ul603_3
                      have HL603_3 := zq (show Kd.V k38 38 _ w.heap.size _ _ ((rd_T30 t591 0).f3) from Kd.V_mk ul603_3 ge603_3)
                      clear hva_ hvn_ hvc_ ge603_3 ul603_3
                      clear hcc603 hce603
                      have qi603 : (0 < t591.length) = True := eq_true J15
                      (try rw [show ((0 : Int)).toNat = 0 from rfl] at hx603_0)
                      (try rw [show 0 * 4 = 0 from rfl] at hx603_0)
                      (try rw [Addr.add_zero'] at hx603_0)
                      (try rw [show ((0 : Int)).toNat = 0 from rfl] at hx603_1)
                      (try rw [show 0 * 4 = 0 from rfl] at hx603_1)
                      (try rw [Addr.add_zero'] at hx603_1)
                      (try rw [show ((0 : Int)).toNat = 0 from rfl] at hx603_2)
                      (try rw [show 0 * 4 = 0 from rfl] at hx603_2)
                      (try rw [Addr.add_zero'] at hx603_2)
                      (try rw [show ((0 : Int)).toNat = 0 from rfl] at hx603_3)
                      (try rw [show 0 * 4 = 0 from rfl] at hx603_3)
                      (try rw [Addr.add_zero'] at hx603_3)
                      have HR603_1 := zq hi603_1
                      have HC603_1 := zq hl603_1
                      clear hi603_1 hl603_1
                      have HR603_2 := zq hi603_2
                      have HC603_2 := zq hl603_2
                      clear hi603_2 hl603_2
                      have HR603_3 := zq hi603_3
                      have HC603_3 := zq hl603_3
                      clear hi603_3 hl603_3
                      replace p603 := eq_true p603
                      replace q603 := eq_true q603
                      have ea_ := Option.some.inj (hx600_1.symm.trans hx603_1)
                      injection ea_ with ea_ en_ ec_
                      subst ea_
                      subst ec_
                      clear en_
                      have ea_ := Option.some.inj (hx600_2.symm.trans hx603_2)
                      injection ea_ with ea_ en_ ec_
                      subst ea_
                      subst ec_
                      clear en_
                      have ea_ := Option.some.inj (hx600_3.symm.trans hx603_3)
                      injection ea_ with ea_ en_ ec_
                      subst ea_
                      subst ec_
                      clear en_
                      refine start_ (n := 32) (S := fun w' => w'.cell? ad598 = some (.int .i64 ((rd_T30 l0 0).f0)) ∧ w'.cell? ⟨ad598.block, ad598.off + 1, none⟩ = some (.slice A599_1 ((rd_T30 l0 0).f1).length c599_1) ∧ w'.cell? ⟨ad598.block, ad598.off + 2, none⟩ = some (.slice A599_2 ((rd_T30 l0 0).f2).length c599_2) ∧ w'.cell? ⟨ad598.block, ad598.off + 3, none⟩ = some (.slice A599_3 ((rd_T30 l0 0).f3).length c599_3) ∧ w'.cell? ad600 = some (.int .i64 ((rd_T30 t591 0).f0)) ∧ w'.cell? ⟨ad600.block, ad600.off + 1, none⟩ = some (.slice A600_1 ((rd_T30 t591 0).f1).length c600_1) ∧ w'.cell? ⟨ad600.block, ad600.off + 2, none⟩ = some (.slice A600_2 ((rd_T30 t591 0).f2).length c600_2) ∧ w'.cell? ⟨ad600.block, ad600.off + 3, none⟩ = some (.slice A600_3 ((rd_T30 t591 0).f3).length c600_3) ∧ w'.cell? ad600 = some (.int .i64 ((rd_T30 t591 0).f0)) ∧ w'.cell? ⟨ad600.block, ad600.off + 1, none⟩ = some (.slice A600_1 ((rd_T30 t591 0).f1).length c600_1) ∧ w'.cell? ⟨ad600.block, ad600.off + 2, none⟩ = some (.slice A600_2 ((rd_T30 t591 0).f2).length c600_2) ∧ w'.cell? ⟨ad600.block, ad600.off + 3, none⟩ = some (.slice A600_3 ((rd_T30 t591 0).f3).length c600_3) ∧ w'.cell? ad600 = some (.int .i64 ((rd_T30 t591 0).f0)) ∧ w'.cell? ⟨ad600.block, ad600.off + 1, none⟩ = some (.slice A600_1 ((rd_T30 t591 0).f1).length c600_1) ∧ w'.cell? ⟨ad600.block, ad600.off + 2, none⟩ = some (.slice A600_2 ((rd_T30 t591 0).f2).length c600_2) ∧ w'.cell? ⟨ad600.block, ad600.off + 3, none⟩ = some (.slice A600_3 ((rd_T30 t591 0).f3).length c600_3)) (ds := []) #[Z,Z,Z,Z,Z,Z,Z,Z,Z,Z,Z,Z,Z,Z,Z,Z,Z,Z,Z,Z,Z,Z,Z,Z,Z,Z,Z,Z,Z,Z,Z,Z] J4 rfl rfl ⟨((HB.out.cell (World.block_lt_of_cell? w _ hw599_0)).trans hw599_0), ((HB.out.cell (World.block_lt_of_cell? w _ hw599_1)).trans hw599_1), ((HB.out.cell (World.block_lt_of_cell? w _ hw599_2)).trans hw599_2), ((HB.out.cell (World.block_lt_of_cell? w _ hw599_3)).trans hw599_3), hx600_0, hx600_1, hx600_2, hx600_3, hx602_0, hx602_1, hx602_2, hx602_3, hx603_0, hx603_1, hx603_2, hx603_3⟩ (fun hHeld => ?_); refine with_tabW decklelaw11_TightShape.tab10 decklelaw11_TightShape.bits10 (fun HT_ HW_ => ?_)
                      generalize wc.drew = w32 at HO_5 HB HL600_1 HL600_2 HL600_3 HL602_1 HL602_2 HL602_3 HL603_1 HL603_2 HL603_3 HR599_1 HR599_2 HR599_3 HR600_1 HR600_2 HR600_3 HR602_1 HR602_2 HR602_3 HR603_1 HR603_2 HR603_3 hx599_0 hx599_1 hx599_2 hx599_3 hx600_0 hx600_1 hx600_2 hx600_3 hx602_0 hx602_1 hx602_2 hx602_3 hx603_0 hx603_1 hx603_2 hx603_3 hHeld ⊢
                      refine pure_ (i := 0) (N := some 75) (v := ?_) (a' := ?_) #[Y,Z,Z,Z,Z,Z,Z,Z,Z,Z,Z,Z,Z,Z,Z,Z,Z,Z,Z,Z,Z,Z,Z,Z,Z,Z,Z,Z,Z,Z,Z,Z] rfl rfl (any_of HT_.out J4) (fun _ _ _ h => h) (Or.inl ⟨J28, ?_⟩) ?_ ?_
                      rotate_left
                      · exact pz0
                      rotate_left
                      · exact pz1
                      refine pure_ (i := 1) (N := some 76) (v := ?_) (a' := ?_) #[Y,Y,Z,Z,Z,Z,Z,Z,Z,Z,Z,Z,Z,Z,Z,Z,Z,Z,Z,Z,Z,Z,Z,Z,Z,Z,Z,Z,Z,Z,Z,Z] rfl rfl (any_of HT_.out J4) (fun _ _ _ h => h) (Or.inl ⟨J28, ?_⟩) ?_ ?_
                      rotate_left
                      · exact pz0
                      rotate_left
                      · exact pz1
                      refine pure_ (i := 2) (N := some 77) (v := ?_) (a' := ?_) #[Y,Y,Y,Z,Z,Z,Z,Z,Z,Z,Z,Z,Z,Z,Z,Z,Z,Z,Z,Z,Z,Z,Z,Z,Z,Z,Z,Z,Z,Z,Z,Z] rfl rfl (any_of HT_.out J4) (fun _ _ _ h => h) (Or.inl ⟨J28, ?_⟩) ?_ ?_
                      rotate_left
                      · exact pz0
                      rotate_left
                      · exact pz1
                      refine pure_ (i := 3) (N := some 78) (v := ?_) (a' := ?_) #[Y,Y,Y,Y,Z,Z,Z,Z,Z,Z,Z,Z,Z,Z,Z,Z,Z,Z,Z,Z,Z,Z,Z,Z,Z,Z,Z,Z,Z,Z,Z,Z] rfl rfl (any_of HT_.out J4) (fun _ _ _ h => h) (Or.inl ⟨J28, ?_⟩) ?_ ?_
                      rotate_left
                      · exact pz0
                      rotate_left
                      · exact pz1
                      refine pure_ (i := 4) (N := some 79) (v := ?_) (a' := ?_) #[Y,Y,Y,Y,Y,Z,Z,Z,Z,Z,Z,Z,Z,Z,Z,Z,Z,Z,Z,Z,Z,Z,Z,Z,Z,Z,Z,Z,Z,Z,Z,Z] rfl rfl (any_of HT_.out J4) (fun _ _ _ h => h) (Or.inl ⟨J28, ?_⟩) ?_ ?_
                      rotate_left
                      · exact pz0
                      rotate_left
                      · exact pz1
                      refine pure_ (i := 5) (N := some 80) (v := ?_) (a' := ?_) #[Y,Y,Y,Y,Y,Y,Z,Z,Z,Z,Z,Z,Z,Z,Z,Z,Z,Z,Z,Z,Z,Z,Z,Z,Z,Z,Z,Z,Z,Z,Z,Z] rfl rfl (any_of HT_.out J4) (fun _ _ _ h => h) (Or.inl ⟨J28, ?_⟩) ?_ ?_
                      rotate_left
                      · exact pz0
                      rotate_left
                      · exact pz1
                      refine pure_ (i := 6) (N := some 81) (v := ?_) (a' := ?_) #[Y,Y,Y,Y,Y,Y,Y,Z,Z,Z,Z,Z,Z,Z,Z,Z,Z,Z,Z,Z,Z,Z,Z,Z,Z,Z,Z,Z,Z,Z,Z,Z] rfl rfl (any_of HT_.out J4) (fun _ _ _ h => h) (Or.inl ⟨J28, ?_⟩) ?_ ?_
                      rotate_left
                      · exact pz0
                      rotate_left
                      · exact pz1
                      refine pure_ (i := 7) (N := some 82) (v := ?_) (a' := ?_) #[Y,Y,Y,Y,Y,Y,Y,Y,Z,Z,Z,Z,Z,Z,Z,Z,Z,Z,Z,Z,Z,Z,Z,Z,Z,Z,Z,Z,Z,Z,Z,Z] rfl rfl (any_of HT_.out J4) (fun _ _ _ h => h) (Or.inl ⟨J28, ?_⟩) ?_ ?_
                      rotate_left
                      · exact pz0
                      rotate_left
                      · exact pz1
                      refine pure_ (i := 8) (N := some 83) (v := ?_) (a' := ?_) #[Y,Y,Y,Y,Y,Y,Y,Y,Y,Z,Z,Z,Z,Z,Z,Z,Z,Z,Z,Z,Z,Z,Z,Z,Z,Z,Z,Z,Z,Z,Z,Z] rfl rfl (any_of HT_.out J4) (fun _ _ _ h => h) (Or.inl ⟨J28, ?_⟩) ?_ ?_
                      rotate_left
                      · exact pz0
                      rotate_left
                      · exact pz1
                      refine pure_ (i := 9) (N := some 84) (v := ?_) (a' := ?_) #[Y,Y,Y,Y,Y,Y,Y,Y,Y,Y,Z,Z,Z,Z,Z,Z,Z,Z,Z,Z,Z,Z,Z,Z,Z,Z,Z,Z,Z,Z,Z,Z] rfl rfl (any_of HT_.out J4) (fun _ _ _ h => h) (Or.inl ⟨J28, ?_⟩) ?_ ?_
                      rotate_left
                      · exact pz0
                      rotate_left
                      · exact pz1
                      refine pure_ (i := 11) (N := some 86) (v := ?_) (a' := ?_) #[Y,Y,Y,Y,Y,Y,Y,Y,Y,Y,Z,Y,Z,Z,Z,Z,Z,Z,Z,Z,Z,Z,Z,Z,Z,Z,Z,Z,Z,Z,Z,Z] rfl rfl (any_of HT_.out J4) (fun _ _ _ h => h) (Or.inl ⟨J28, ?_⟩) ?_ ?_
                      rotate_left
                      · exact pz0
                      rotate_left
                      · exact pz1
                      refine pure_ (i := 12) (N := some 87) (v := ?_) (a' := ?_) #[Y,Y,Y,Y,Y,Y,Y,Y,Y,Y,Z,Y,Y,Z,Z,Z,Z,Z,Z,Z,Z,Z,Z,Z,Z,Z,Z,Z,Z,Z,Z,Z] rfl rfl (any_of HT_.out J4) (fun _ _ _ h => h) (Or.inl ⟨J28, ?_⟩) ?_ ?_
                      rotate_left
                      · exact pz0
                      rotate_left
                      · exact pz1
                      refine pure_ (i := 13) (N := some 88) (v := ?_) (a' := ?_) #[Y,Y,Y,Y,Y,Y,Y,Y,Y,Y,Z,Y,Y,Y,Z,Z,Z,Z,Z,Z,Z,Z,Z,Z,Z,Z,Z,Z,Z,Z,Z,Z] rfl rfl (any_of HT_.out J4) (fun _ _ _ h => h) (Or.inl ⟨J28, ?_⟩) ?_ ?_
                      rotate_left
                      · exact pz0
                      rotate_left
                      · exact pz1
                      refine take_ (i := 10) (N := some 85) (v := ?_) (a' := ?_) #[Y,Y,Y,Y,Y,Y,Y,Y,Y,Y,Y,Y,Y,Y,Z,Z,Z,Z,Z,Z,Z,Z,Z,Z,Z,Z,Z,Z,Z,Z,Z,Z] rfl rfl (take_ofW HT_.out HW_.out J4) (fun _ _ _ h => h) (Or.inl ⟨J28, ?_⟩) hHeld ?_ ?_
                      rotate_left
                      · rintro w' ⟨s0, s1, s2, s3, s4, s5, s6, s7, s8, s9, s10, s11, s12, s13, s14, s15⟩
                        go_simp
                        with_reducible rfl
                      rotate_left
                      · exact pz1
                      refine take_ (i := 14) (N := some 89) (v := ?_) (a' := ?_) #[Y,Y,Y,Y,Y,Y,Y,Y,Y,Y,Y,Y,Y,Y,Y,Z,Z,Z,Z,Z,Z,Z,Z,Z,Z,Z,Z,Z,Z,Z,Z,Z] rfl rfl (take_ofW HT_.out HW_.out J4) (fun _ _ _ h => h) (Or.inl ⟨J28, ?_⟩) hHeld ?_ ?_
                      rotate_left
                      · rintro w' ⟨s0, s1, s2, s3, s4, s5, s6, s7, s8, s9, s10, s11, s12, s13, s14, s15⟩
                        go_simp
                        with_reducible rfl
                      rotate_left
                      · exact pz1
                      refine one_ (i := 15) (N := some 90) #[Y,Y,Y,Y,Y,Y,Y,Y,Y,Y,Y,Y,Y,Y,Y,Y,Z,Z,Z,Z,Z,Z,Z,Z,Z,Z,Z,Z,Z,Z,Z,Z] rfl rfl (one_of HT_.out J4) J17 (fun K hK => ?_)
                      refine goes_ Try.func21 J4 rfl #[.slice A599_2 ((rd_T30 l0 0).f2).length c599_2, .slice A600_2 ((rd_T30 t591 0).f2).length c600_2] J28 rfl rfl J1 ?_
                      with_reducible refine (deckleref01_Same.calls kj9 _ _ ((rd_T30 l0 0).f2) _ _ ((rd_T30 t591 0).f2) true _ ?side1 ?side2 ?side3 ?side4 A27.out).mono ?_
                      (case side1 => exact zc (Kd.C_below HR599_2.out HB.out))
                      (case side2 => exact HC599_2.out)
                      (case side3 => repeat (first | exact J86 | (with_reducible refine Kd.C_alloc ?_ _) | (with_reducible refine Kd.C_drewN ?_ _) | (with_reducible refine Kd.C_drew ?_)))
                      (case side4 => exact HC600_2.out)
                      rintro e w' ⟨rfl, ⟨nd, rfl⟩⟩
                      refine ⟨_, rfl, ?_⟩
                      refine hK.out _ _ ⟨((HB.out.cell (World.block_lt_of_cell? w _ hw599_0)).trans hw599_0), ((HB.out.cell (World.block_lt_of_cell? w _ hw599_1)).trans hw599_1), ((HB.out.cell (World.block_lt_of_cell? w _ hw599_2)).trans hw599_2), ((HB.out.cell (World.block_lt_of_cell? w _ hw599_3)).trans hw599_3), hHeld.2.2.2.2.1, hHeld.2.2.2.2.2.1, hHeld.2.2.2.2.2.2.1, hHeld.2.2.2.2.2.2.2.1, hHeld.2.2.2.2.2.2.2.2.1, hHeld.2.2.2.2.2.2.2.2.2.1, hHeld.2.2.2.2.2.2.2.2.2.2.1, hHeld.2.2.2.2.2.2.2.2.2.2.2.1, hHeld.2.2.2.2.2.2.2.2.2.2.2.2.1, hHeld.2.2.2.2.2.2.2.2.2.2.2.2.2.1, hHeld.2.2.2.2.2.2.2.2.2.2.2.2.2.2.1, hHeld.2.2.2.2.2.2.2.2.2.2.2.2.2.2.2⟩ (fun hHeld => ?_)
                      clear hK K
                      refine norm_ (a' := ?_) ?_ ?_
                      rotate_left
                      · show Act.put _ (some 90) _ = _
                        simp only [Act.put, List.setIfInBounds_toArray, List.set_cons_zero, List.set_cons_succ, i64_w, i32_w]
                        rfl
                      refine pure_ (i := 16) (N := some 91) (v := ?_) (a' := ?_) #[Y,Y,Y,Y,Y,Y,Y,Y,Y,Y,Y,Y,Y,Y,Y,Y,Y,Z,Z,Z,Z,Z,Z,Z,Z,Z,Z,Z,Z,Z,Z,Z] rfl rfl (any_of HT_.out J4) (fun _ _ _ h => h) (Or.inl ⟨J28, ?_⟩) ?_ ?_
                      rotate_left
                      · exact pz0
                      rotate_left
                      · exact pz1
                      refine pure_ (i := 17) (N := some 92) (v := ?_) (a' := ?_) #[Y,Y,Y,Y,Y,Y,Y,Y,Y,Y,Y,Y,Y,Y,Y,Y,Y,Y,Z,Z,Z,Z,Z,Z,Z,Z,Z,Z,Z,Z,Z,Z] rfl rfl (any_of HT_.out J4) (fun _ _ _ h => h) (Or.inl ⟨J28, ?_⟩) ?_ ?_
                      rotate_left
                      · exact pz0
                      rotate_left
                      · exact pz1
                      refine pure_ (i := 18) (N := some 93) (v := ?_) (a' := ?_) #[Y,Y,Y,Y,Y,Y,Y,Y,Y,Y,Y,Y,Y,Y,Y,Y,Y,Y,Y,Z,Z,Z,Z,Z,Z,Z,Z,Z,Z,Z,Z,Z] rfl rfl (any_of HT_.out J4) (fun _ _ _ h => h) (Or.inl ⟨J28, ?_⟩) ?_ ?_
                      rotate_left
                      · exact pz0
                      rotate_left
                      · exact pz1
                      refine pure_ (i := 19) (N := some 94) (v := ?_) (a' := ?_) #[Y,Y,Y,Y,Y,Y,Y,Y,Y,Y,Y,Y,Y,Y,Y,Y,Y,Y,Y,Y,Z,Z,Z,Z,Z,Z,Z,Z,Z,Z,Z,Z] rfl rfl (any_of HT_.out J4) (fun _ _ _ h => h) (Or.inl ⟨J28, ?_⟩) ?_ ?_
                      rotate_left
                      · exact pz0
                      rotate_left
                      · exact pz1
                      refine pure_ (i := 20) (N := some 95) (v := ?_) (a' := ?_) #[Y,Y,Y,Y,Y,Y,Y,Y,Y,Y,Y,Y,Y,Y,Y,Y,Y,Y,Y,Y,Y,Z,Z,Z,Z,Z,Z,Z,Z,Z,Z,Z] rfl rfl (any_of HT_.out J4) (fun _ _ _ h => h) (Or.inl ⟨J28, ?_⟩) ?_ ?_
                      rotate_left
                      · exact pz0
                      rotate_left
                      · exact pz1
                      refine take_ (i := 21) (N := some 96) (v := ?_) (a' := ?_) #[Y,Y,Y,Y,Y,Y,Y,Y,Y,Y,Y,Y,Y,Y,Y,Y,Y,Y,Y,Y,Y,Y,Z,Z,Z,Z,Z,Z,Z,Z,Z,Z] rfl rfl (take_ofW HT_.out HW_.out J4) (fun _ _ _ h => h) (Or.inl ⟨J28, ?_⟩) hHeld ?_ ?_
                      rotate_left
                      · rintro w' ⟨s0, s1, s2, s3, s4, s5, s6, s7, s8, s9, s10, s11, s12, s13, s14, s15⟩
                        go_simp
                        with_reducible rfl
                      rotate_left
                      · exact pz1
                      refine pure_ (i := 22) (N := some 97) (v := ?_) (a' := ?_) #[Y,Y,Y,Y,Y,Y,Y,Y,Y,Y,Y,Y,Y,Y,Y,Y,Y,Y,Y,Y,Y,Y,Y,Z,Z,Z,Z,Z,Z,Z,Z,Z] rfl rfl (any_of HT_.out J4) (fun _ _ _ h => h) (Or.inl ⟨J28, ?_⟩) ?_ ?_
                      rotate_left
                      · exact pz0
                      rotate_left
                      · exact pz1
                      refine pure_ (i := 23) (N := some 98) (v := ?_) (a' := ?_) #[Y,Y,Y,Y,Y,Y,Y,Y,Y,Y,Y,Y,Y,Y,Y,Y,Y,Y,Y,Y,Y,Y,Y,Y,Z,Z,Z,Z,Z,Z,Z,Z] rfl rfl (any_of HT_.out J4) (fun _ _ _ h => h) (Or.inl ⟨J28, ?_⟩) ?_ ?_
                      rotate_left
                      · exact pz0
                      rotate_left
                      · exact pz1
                      refine pure_ (i := 24) (N := some 99) (v := ?_) (a' := ?_) #[Y,Y,Y,Y,Y,Y,Y,Y,Y,Y,Y,Y,Y,Y,Y,Y,Y,Y,Y,Y,Y,Y,Y,Y,Y,Z,Z,Z,Z,Z,Z,Z] rfl rfl (any_of HT_.out J4) (fun _ _ _ h => h) (Or.inl ⟨J28, ?_⟩) ?_ ?_
                      rotate_left
                      · exact pz0
                      rotate_left
                      · exact pz1
                      refine pure_ (i := 25) (N := some 100) (v := ?_) (a' := ?_) #[Y,Y,Y,Y,Y,Y,Y,Y,Y,Y,Y,Y,Y,Y,Y,Y,Y,Y,Y,Y,Y,Y,Y,Y,Y,Y,Z,Z,Z,Z,Z,Z] rfl rfl (any_of HT_.out J4) (fun _ _ _ h => h) (Or.inl ⟨J28, ?_⟩) ?_ ?_
                      rotate_left
                      · exact pz0
                      rotate_left
                      · exact pz1
                      refine pure_ (i := 26) (N := some 101) (v := ?_) (a' := ?_) #[Y,Y,Y,Y,Y,Y,Y,Y,Y,Y,Y,Y,Y,Y,Y,Y,Y,Y,Y,Y,Y,Y,Y,Y,Y,Y,Y,Z,Z,Z,Z,Z] rfl rfl (any_of HT_.out J4) (fun _ _ _ h => h) (Or.inl ⟨J28, ?_⟩) ?_ ?_
                      rotate_left
                      · exact pz0
                      rotate_left
                      · exact pz1
                      refine take_ (i := 27) (N := some 102) (v := ?_) (a' := ?_) #[Y,Y,Y,Y,Y,Y,Y,Y,Y,Y,Y,Y,Y,Y,Y,Y,Y,Y,Y,Y,Y,Y,Y,Y,Y,Y,Y,Y,Z,Z,Z,Z] rfl rfl (take_ofW HT_.out HW_.out J4) (fun _ _ _ h => h) (Or.inl ⟨J28, ?_⟩) hHeld ?_ ?_
                      rotate_left
                      · rintro w' ⟨s0, s1, s2, s3, s4, s5, s6, s7, s8, s9, s10, s11, s12, s13, s14, s15⟩
                        go_simp
                        with_reducible rfl
                      rotate_left
                      · exact pz1
                      refine pure_ (i := 28) (N := some 103) (v := ?_) (a' := ?_) #[Y,Y,Y,Y,Y,Y,Y,Y,Y,Y,Y,Y,Y,Y,Y,Y,Y,Y,Y,Y,Y,Y,Y,Y,Y,Y,Y,Y,Y,Z,Z,Z] rfl rfl (any_of HT_.out J4) (fun _ _ _ h => h) (Or.inl ⟨J28, ?_⟩) ?_ ?_
                      rotate_left
                      · exact pz0
                      rotate_left
                      · exact pz1
                      refine pure_ (i := 29) (N := some 104) (v := ?_) (a' := ?_) #[Y,Y,Y,Y,Y,Y,Y,Y,Y,Y,Y,Y,Y,Y,Y,Y,Y,Y,Y,Y,Y,Y,Y,Y,Y,Y,Y,Y,Y,Y,Z,Z] rfl rfl (any_of HT_.out J4) (fun _ _ _ h => h) (Or.inl ⟨J28, ?_⟩) ?_ ?_
                      rotate_left
                      · exact pz0
                      rotate_left
                      · exact pz1
                      refine pure_ (i := 30) (N := some 105) (v := ?_) (a' := ?_) #[Y,Y,Y,Y,Y,Y,Y,Y,Y,Y,Y,Y,Y,Y,Y,Y,Y,Y,Y,Y,Y,Y,Y,Y,Y,Y,Y,Y,Y,Y,Y,Z] rfl rfl (any_of HT_.out J4) (fun _ _ _ h => h) (Or.inl ⟨J28, ?_⟩) ?_ ?_
                      rotate_left
                      · exact pz0
                      rotate_left
                      · exact pz1
                      refine pure_ (i := 31) (N := some 2) (v := ?_) (a' := ?_) #[Y,Y,Y,Y,Y,Y,Y,Y,Y,Y,Y,Y,Y,Y,Y,Y,Y,Y,Y,Y,Y,Y,Y,Y,Y,Y,Y,Y,Y,Y,Y,Y] rfl rfl (any_of HT_.out J4) (fun _ _ _ h => h) (Or.inl ⟨J28, ?_⟩) ?_ ?_
                      rotate_left
                      · exact pz0
                      rotate_left
                      · exact pz1
                      refine done_ (done_of HT_.out J4) ?_
                      try go_wp2
                      go_ret
                      exact ⟨J3, J0⟩
                  · replace c28 := Bool.eq_false_iff.mpr c28
                    subst c28
                    rw [if_neg (show ¬ (false = true) by decide)] at H
                    exact absurd H J30
                · rw [if_neg c26] at H
                  exact absurd H J30
              · rw [if_neg c25] at H
                exact absurd H J30
            · replace c24 := Bool.eq_false_iff.mpr c24
              subst c24
              rw [if_neg (show ¬ (false = true) by decide)] at H
              exact absurd H J30
          rw [if_neg c23] at H
          have c23b0 : (((rd_T30 l0 0).f0) == 1) = false := beq_eq_false_iff_ne.mpr c23
          have c23b1 : (((rd_T30 l0 0).f0) != 1) = true := bne_iff_ne.mpr c23
          by_cases c34 : ((rd_T30 l0 0).f0) = 2
          rotate_left
          · rw [if_neg c34] at H
            have c34b0 : (((rd_T30 l0 0).f0) == 2) = false := beq_eq_false_iff_ne.mpr c34
            have c34b1 : (((rd_T30 l0 0).f0) != 2) = true := bne_iff_ne.mpr c34
            by_cases c45 : t589 = true
            · subst c45
              rw [if_pos rfl] at H
              by_cases c46 : ((rd_T30 l0 0).f0) = 5
              · rw [if_pos c46] at H
                have c46b0 : (((rd_T30 l0 0).f0) == 5) = true := beq_iff_eq.mpr c46
                have c46b1 : (((rd_T30 l0 0).f0) != 5) = false := bne_eq_false_iff_eq.mpr c46
                clear c46
                obtain rfl := Option.some.inj H
                have p598 : 0 ≤ (0 : Int) := J15
                have q598 : 0 < (l0.length : Int) := of_decide_eq_true J2
                obtain ⟨ad598, A598_1, c598_1, A598_2, c598_2, A598_3, c598_3, e598, hx598_0, hx598_1, hx598_2, hx598_3, hl598_1, hi598_1, hl598_2, hi598_2, hl598_3, hi598_3⟩ := at_T30 HR0.out 0 p598 q598
                cases e598
                have qi598 : (0 < l0.length) = True := eq_true J15
                (try rw [show ((0 : Int)).toNat = 0 from rfl] at hx598_0)
                (try rw [show 0 * 4 = 0 from rfl] at hx598_0)
                (try rw [Addr.add_zero'] at hx598_0)
                (try rw [show ((0 : Int)).toNat = 0 from rfl] at hx598_1)
                (try rw [show 0 * 4 = 0 from rfl] at hx598_1)
                (try rw [Addr.add_zero'] at hx598_1)
                (try rw [show ((0 : Int)).toNat = 0 from rfl] at hx598_2)
                (try rw [show 0 * 4 = 0 from rfl] at hx598_2)
                (try rw [Addr.add_zero'] at hx598_2)
                (try rw [show ((0 : Int)).toNat = 0 from rfl] at hx598_3)
                (try rw [show 0 * 4 = 0 from rfl] at hx598_3)
                (try rw [Addr.add_zero'] at hx598_3)
                replace hx598_0 := (HB.out.cell (World.block_lt_of_cell? w _ hx598_0)).trans hx598_0
                replace hx598_1 := (HB.out.cell (World.block_lt_of_cell? w _ hx598_1)).trans hx598_1
                replace hx598_2 := (HB.out.cell (World.block_lt_of_cell? w _ hx598_2)).trans hx598_2
                replace hx598_3 := (HB.out.cell (World.block_lt_of_cell? w _ hx598_3)).trans hx598_3
                have HR598_1 := zq hi598_1
                have HC598_1 := zq hl598_1
                clear hi598_1 hl598_1
                have HR598_2 := zq hi598_2
                have HC598_2 := zq hl598_2
                clear hi598_2 hl598_2
                have HR598_3 := zq hi598_3
                have HC598_3 := zq hl598_3
                clear hi598_3 hl598_3
                replace p598 := eq_true p598
                replace q598 := eq_true q598
                have p604 : 0 ≤ (0 : Int) := J15
                have q604 : 0 < (l0.length : Int) := of_decide_eq_true J2
                obtain ⟨ad604, A604_1, c604_1, A604_2, c604_2, A604_3, c604_3, e604, hx604_0, hx604_1, hx604_2, hx604_3, hl604_1, hi604_1, hl604_2, hi604_2, hl604_3, hi604_3⟩ := at_T30 HR0.out 0 p604 q604
                obtain rfl : ad598 = ad604 := (by injection e604)
                have qi604 : (0 < l0.length) = True := eq_true J15
                (try rw [show ((0 : Int)).toNat = 0 from rfl] at hx604_0)
                (try rw [show 0 * 4 = 0 from rfl] at hx604_0)
                (try rw [Addr.add_zero'] at hx604_0)
                (try rw [show ((0 : Int)).toNat = 0 from rfl] at hx604_1)
                (try rw [show 0 * 4 = 0 from rfl] at hx604_1)
                (try rw [Addr.add_zero'] at hx604_1)
                (try rw [show ((0 : Int)).toNat = 0 from rfl] at hx604_2)
                (try rw [show 0 * 4 = 0 from rfl] at hx604_2)
                (try rw [Addr.add_zero'] at hx604_2)
                (try rw [show ((0 : Int)).toNat = 0 from rfl] at hx604_3)
                (try rw [show 0 * 4 = 0 from rfl] at hx604_3)
                (try rw [Addr.add_zero'] at hx604_3)
                replace hx604_0 := (HB.out.cell (World.block_lt_of_cell? w _ hx604_0)).trans hx604_0
                replace hx604_1 := (HB.out.cell (World.block_lt_of_cell? w _ hx604_1)).trans hx604_1
                replace hx604_2 := (HB.out.cell (World.block_lt_of_cell? w _ hx604_2)).trans hx604_2
                replace hx604_3 := (HB.out.cell (World.block_lt_of_cell? w _ hx604_3)).trans hx604_3
                have HR604_1 := zq hi604_1
                have HC604_1 := zq hl604_1
                clear hi604_1 hl604_1
                have HR604_2 := zq hi604_2
                have HC604_2 := zq hl604_2
                clear hi604_2 hl604_2
                have HR604_3 := zq hi604_3
                have HC604_3 := zq hl604_3
                clear hi604_3 hl604_3
                replace p604 := eq_true p604
                replace q604 := eq_true q604
                have ea_ := Option.some.inj (hx598_1.symm.trans hx604_1)
                injection ea_ with ea_ en_ ec_
                subst ea_
                subst ec_
                clear en_
                have ea_ := Option.some.inj (hx598_2.symm.trans hx604_2)
                injection ea_ with ea_ en_ ec_
                subst ea_
                subst ec_
                clear en_
                have ea_ := Option.some.inj (hx598_3.symm.trans hx604_3)
                injection ea_ with ea_ en_ ec_
                subst ea_
                subst ec_
                clear en_
                try go_wp2
                replace HO_5 := zq (Kd.N_drew HO_5.out)
                replace HB := zq (below_drew1 HB.out)
                have p610 : 0 ≤ (0 : Int) := J15
                have q610 : 0 < (l0.length : Int) := of_decide_eq_true J2
                obtain ⟨ad610, A610_1, c610_1, A610_2, c610_2, A610_3, c610_3, e610, hx610_0, hx610_1, hx610_2, hx610_3, hl610_1, hi610_1, hl610_2, hi610_2, hl610_3, hi610_3⟩ := at_T30 HR0.out 0 p610 q610
                have hw610_3 := hx610_3
                (try rw [show ((0 : Int)).toNat = 0 from rfl] at hw610_3)
                (try rw [show 0 * 4 = 0 from rfl] at hw610_3)
                (try rw [Addr.add_zero'] at hw610_3)
                have hw610_2 := hx610_2
                (try rw [show ((0 : Int)).toNat = 0 from rfl] at hw610_2)
                (try rw [show 0 * 4 = 0 from rfl] at hw610_2)
                (try rw [Addr.add_zero'] at hw610_2)
                have hw610_1 := hx610_1
                (try rw [show ((0 : Int)).toNat = 0 from rfl] at hw610_1)
                (try rw [show 0 * 4 = 0 from rfl] at hw610_1)
                (try rw [Addr.add_zero'] at hw610_1)
                have hw610_0 := hx610_0
                (try rw [show ((0 : Int)).toNat = 0 from rfl] at hw610_0)
                (try rw [show 0 * 4 = 0 from rfl] at hw610_0)
                (try rw [Addr.add_zero'] at hw610_0)
                obtain rfl : ad598 = ad610 := (by injection e610)
                have qi610 : (0 < l0.length) = True := eq_true J15
                (try rw [show ((0 : Int)).toNat = 0 from rfl] at hx610_0)
                (try rw [show 0 * 4 = 0 from rfl] at hx610_0)
                (try rw [Addr.add_zero'] at hx610_0)
                (try rw [show ((0 : Int)).toNat = 0 from rfl] at hx610_1)
                (try rw [show 0 * 4 = 0 from rfl] at hx610_1)
                (try rw [Addr.add_zero'] at hx610_1)
                (try rw [show ((0 : Int)).toNat = 0 from rfl] at hx610_2)
                (try rw [show 0 * 4 = 0 from rfl] at hx610_2)
                (try rw [Addr.add_zero'] at hx610_2)
                (try rw [show ((0 : Int)).toNat = 0 from rfl] at hx610_3)
                (try rw [show 0 * 4 = 0 from rfl] at hx610_3)
                (try rw [Addr.add_zero'] at hx610_3)
                replace hx610_0 := (HB.out.cell (World.block_lt_of_cell? w _ hx610_0)).trans hx610_0
                replace hx610_1 := (HB.out.cell (World.block_lt_of_cell? w _ hx610_1)).trans hx610_1
                replace hx610_2 := (HB.out.cell (World.block_lt_of_cell? w _ hx610_2)).trans hx610_2
                replace hx610_3 := (HB.out.cell (World.block_lt_of_cell? w _ hx610_3)).trans hx610_3
                have HR610_1 := zq hi610_1
                have HC610_1 := zq hl610_1
                clear hi610_1 hl610_1
                have HR610_2 := zq hi610_2
                have HC610_2 := zq hl610_2
                clear hi610_2 hl610_2
                have HR610_3 := zq hi610_3
                have HC610_3 := zq hl610_3
                clear hi610_3 hl610_3
                replace p610 := eq_true p610
                replace q610 := eq_true q610
                refine start_ (n := 22) (S := fun w' => w'.cell? ad598 = some (.int .i64 ((rd_T30 l0 0).f0)) ∧ w'.cell? ⟨ad598.block, ad598.off + 1, none⟩ = some (.slice A610_1 ((rd_T30 l0 0).f1).length c610_1) ∧ w'.cell? ⟨ad598.block, ad598.off + 2, none⟩ = some (.slice A610_2 ((rd_T30 l0 0).f2).length c610_2) ∧ w'.cell? ⟨ad598.block, ad598.off + 3, none⟩ = some (.slice A610_3 ((rd_T30 l0 0).f3).length c610_3)) (ds := []) #[Z,Z,Z,Z,Z,Z,Z,Z,Z,Z,Z,Z,Z,Z,Z,Z,Z,Z,Z,Z,Z,Z] J4 rfl rfl ⟨((HB.out.cell (World.block_lt_of_cell? w _ hw610_0)).trans hw610_0), ((HB.out.cell (World.block_lt_of_cell? w _ hw610_1)).trans hw610_1), ((HB.out.cell (World.block_lt_of_cell? w _ hw610_2)).trans hw610_2), ((HB.out.cell (World.block_lt_of_cell? w _ hw610_3)).trans hw610_3)⟩ (fun hHeld => ?_); refine with_tabW decklelaw11_TightShape.tab9 decklelaw11_TightShape.bits9 (fun HT_ HW_ => ?_)
                generalize wc.drew = w47 at HO_5 HB HR610_1 HR610_2 HR610_3 hx610_0 hx610_1 hx610_2 hx610_3 hHeld ⊢
                refine pure_ (i := 0) (N := some 54) (v := ?_) (a' := ?_) #[Y,Z,Z,Z,Z,Z,Z,Z,Z,Z,Z,Z,Z,Z,Z,Z,Z,Z,Z,Z,Z,Z] rfl rfl (any_of HT_.out J4) (fun _ _ _ h => h) (Or.inl ⟨J28, ?_⟩) ?_ ?_
                rotate_left
                · exact pz0
                rotate_left
                · exact pz1
                refine pure_ (i := 1) (N := some 55) (v := ?_) (a' := ?_) #[Y,Y,Z,Z,Z,Z,Z,Z,Z,Z,Z,Z,Z,Z,Z,Z,Z,Z,Z,Z,Z,Z] rfl rfl (any_of HT_.out J4) (fun _ _ _ h => h) (Or.inl ⟨J28, ?_⟩) ?_ ?_
                rotate_left
                · exact pz0
                rotate_left
                · exact pz1
                refine pure_ (i := 2) (N := some 56) (v := ?_) (a' := ?_) #[Y,Y,Y,Z,Z,Z,Z,Z,Z,Z,Z,Z,Z,Z,Z,Z,Z,Z,Z,Z,Z,Z] rfl rfl (any_of HT_.out J4) (fun _ _ _ h => h) (Or.inl ⟨J28, ?_⟩) ?_ ?_
                rotate_left
                · exact pz0
                rotate_left
                · exact pz1
                refine pure_ (i := 3) (N := some 57) (v := ?_) (a' := ?_) #[Y,Y,Y,Y,Z,Z,Z,Z,Z,Z,Z,Z,Z,Z,Z,Z,Z,Z,Z,Z,Z,Z] rfl rfl (any_of HT_.out J4) (fun _ _ _ h => h) (Or.inl ⟨J28, ?_⟩) ?_ ?_
                rotate_left
                · exact pz0
                rotate_left
                · exact pz1
                refine pure_ (i := 4) (N := some 58) (v := ?_) (a' := ?_) #[Y,Y,Y,Y,Y,Z,Z,Z,Z,Z,Z,Z,Z,Z,Z,Z,Z,Z,Z,Z,Z,Z] rfl rfl (any_of HT_.out J4) (fun _ _ _ h => h) (Or.inl ⟨J28, ?_⟩) ?_ ?_
                rotate_left
                · exact pz0
                rotate_left
                · exact pz1
                refine take_ (i := 5) (N := some 59) (v := ?_) (a' := ?_) #[Y,Y,Y,Y,Y,Y,Z,Z,Z,Z,Z,Z,Z,Z,Z,Z,Z,Z,Z,Z,Z,Z] rfl rfl (take_ofW HT_.out HW_.out J4) (fun _ _ _ h => h) (Or.inl ⟨J28, ?_⟩) hHeld ?_ ?_
                rotate_left
                · rintro w' ⟨s0, s1, s2, s3⟩
                  go_simp
                  with_reducible rfl
                rotate_left
                · exact pz1
                refine pure_ (i := 6) (N := some 60) (v := ?_) (a' := ?_) #[Y,Y,Y,Y,Y,Y,Y,Z,Z,Z,Z,Z,Z,Z,Z,Z,Z,Z,Z,Z,Z,Z] rfl rfl (any_of HT_.out J4) (fun _ _ _ h => h) (Or.inl ⟨J28, ?_⟩) ?_ ?_
                rotate_left
                · exact pz0
                rotate_left
                · exact pz1
                refine pure_ (i := 7) (N := some 61) (v := ?_) (a' := ?_) #[Y,Y,Y,Y,Y,Y,Y,Y,Z,Z,Z,Z,Z,Z,Z,Z,Z,Z,Z,Z,Z,Z] rfl rfl (any_of HT_.out J4) (fun _ _ _ h => h) (Or.inl ⟨J28, ?_⟩) ?_ ?_
                rotate_left
                · exact pz0
                rotate_left
                · exact pz1
                refine pure_ (i := 8) (N := some 62) (v := undef) (a' := ?_) #[Y,Y,Y,Y,Y,Y,Y,Y,Y,Z,Z,Z,Z,Z,Z,Z,Z,Z,Z,Z,Z,Z] rfl rfl (any_of HT_.out J4) (fun _ _ _ h => h) (Or.inr ⟨J28, rfl⟩) ?_ ?_
                rotate_left
                · exact pz1
                refine pure_ (i := 9) (N := some 63) (v := undef) (a' := ?_) #[Y,Y,Y,Y,Y,Y,Y,Y,Y,Y,Z,Z,Z,Z,Z,Z,Z,Z,Z,Z,Z,Z] rfl rfl (any_of HT_.out J4) (fun _ _ _ h => h) (Or.inr ⟨J28, rfl⟩) ?_ ?_
                rotate_left
                · exact pz1
                refine pure_ (i := 10) (N := some 64) (v := undef) (a' := ?_) #[Y,Y,Y,Y,Y,Y,Y,Y,Y,Y,Y,Z,Z,Z,Z,Z,Z,Z,Z,Z,Z,Z] rfl rfl (any_of HT_.out J4) (fun _ _ _ h => h) (Or.inr ⟨J28, rfl⟩) ?_ ?_
                rotate_left
                · exact pz1
                refine pure_ (i := 11) (N := some 65) (v := undef) (a' := ?_) #[Y,Y,Y,Y,Y,Y,Y,Y,Y,Y,Y,Y,Z,Z,Z,Z,Z,Z,Z,Z,Z,Z] rfl rfl (any_of HT_.out J4) (fun _ _ _ h => h) (Or.inr ⟨J28, rfl⟩) ?_ ?_
                rotate_left
                · exact pz1
                refine pure_ (i := 12) (N := some 66) (v := undef) (a' := ?_) #[Y,Y,Y,Y,Y,Y,Y,Y,Y,Y,Y,Y,Y,Z,Z,Z,Z,Z,Z,Z,Z,Z] rfl rfl (any_of HT_.out J4) (fun _ _ _ h => h) (Or.inr ⟨J28, rfl⟩) ?_ ?_
                rotate_left
                · exact pz1
                refine pure_ (i := 13) (N := some 67) (v := undef) (a' := ?_) #[Y,Y,Y,Y,Y,Y,Y,Y,Y,Y,Y,Y,Y,Y,Z,Z,Z,Z,Z,Z,Z,Z] rfl rfl (any_of HT_.out J4) (fun _ _ _ h => h) (Or.inr ⟨J28, rfl⟩) ?_ ?_
                rotate_left
                · exact pz1
                refine pure_ (i := 14) (N := some 68) (v := undef) (a' := ?_) #[Y,Y,Y,Y,Y,Y,Y,Y,Y,Y,Y,Y,Y,Y,Y,Z,Z,Z,Z,Z,Z,Z] rfl rfl (any_of HT_.out J4) (fun _ _ _ h => h) (Or.inr ⟨J28, rfl⟩) ?_ ?_
                rotate_left
                · exact pz1
                refine pure_ (i := 15) (N := some 69) (v := undef) (a' := ?_) #[Y,Y,Y,Y,Y,Y,Y,Y,Y,Y,Y,Y,Y,Y,Y,Y,Z,Z,Z,Z,Z,Z] rfl rfl (any_of HT_.out J4) (fun _ _ _ h => h) (Or.inr ⟨J28, rfl⟩) ?_ ?_
                rotate_left
                · exact pz1
                refine pure_ (i := 16) (N := some 70) (v := undef) (a' := ?_) #[Y,Y,Y,Y,Y,Y,Y,Y,Y,Y,Y,Y,Y,Y,Y,Y,Y,Z,Z,Z,Z,Z] rfl rfl (any_of HT_.out J4) (fun _ _ _ h => h) (Or.inr ⟨J28, rfl⟩) ?_ ?_
                rotate_left
                · exact pz1
                refine pure_ (i := 17) (N := some 71) (v := undef) (a' := ?_) #[Y,Y,Y,Y,Y,Y,Y,Y,Y,Y,Y,Y,Y,Y,Y,Y,Y,Y,Z,Z,Z,Z] rfl rfl (any_of HT_.out J4) (fun _ _ _ h => h) (Or.inr ⟨J28, rfl⟩) ?_ ?_
                rotate_left
                · exact pz1
                refine pure_ (i := 18) (N := some 72) (v := undef) (a' := ?_) #[Y,Y,Y,Y,Y,Y,Y,Y,Y,Y,Y,Y,Y,Y,Y,Y,Y,Y,Y,Z,Z,Z] rfl rfl (any_of HT_.out J4) (fun _ _ _ h => h) (Or.inr ⟨J28, rfl⟩) ?_ ?_
                rotate_left
                · exact pz1
                refine pure_ (i := 19) (N := some 73) (v := ?_) (a' := ?_) #[Y,Y,Y,Y,Y,Y,Y,Y,Y,Y,Y,Y,Y,Y,Y,Y,Y,Y,Y,Y,Z,Z] rfl rfl (any_of HT_.out J4) (fun _ _ _ h => h) (Or.inl ⟨J28, ?_⟩) ?_ ?_
                rotate_left
                · exact pz0
                rotate_left
                · exact pz1
                refine pure_ (i := 20) (N := some 74) (v := ?_) (a' := ?_) #[Y,Y,Y,Y,Y,Y,Y,Y,Y,Y,Y,Y,Y,Y,Y,Y,Y,Y,Y,Y,Y,Z] rfl rfl (any_of HT_.out J4) (fun _ _ _ h => h) (Or.inl ⟨J28, ?_⟩) ?_ ?_
                rotate_left
                · exact pz0
                rotate_left
                · exact pz1
                refine pure_ (i := 21) (N := some 2) (v := ?_) (a' := ?_) #[Y,Y,Y,Y,Y,Y,Y,Y,Y,Y,Y,Y,Y,Y,Y,Y,Y,Y,Y,Y,Y,Y] rfl rfl (any_of HT_.out J4) (fun _ _ _ h => h) (Or.inl ⟨J28, ?_⟩) ?_ ?_
                rotate_left
                · exact pz0
                rotate_left
                · exact pz1
                refine done_ (done_of HT_.out J4) ?_
                try go_wp2
                go_ret
                exact ⟨J3, J0⟩
              · rw [if_neg c46] at H
                have c46b0 : (((rd_T30 l0 0).f0) == 5) = false := beq_eq_false_iff_ne.mpr c46
                have c46b1 : (((rd_T30 l0 0).f0) != 5) = true := bne_iff_ne.mpr c46
                by_cases c48 : 0 < (t591.length : Int)
                · rw [if_pos c48] at H
                  have c48b0 := decide_eq_true c48
                  have c48b1 : decide (0 < t591.length) = true := decide_eq_true J15
                  clear c48
                  obtain rfl := Option.some.inj H
                  have p598 : 0 ≤ (0 : Int) := J15
                  have q598 : 0 < (l0.length : Int) := of_decide_eq_true J2
                  obtain ⟨ad598, A598_1, c598_1, A598_2, c598_2, A598_3, c598_3, e598, hx598_0, hx598_1, hx598_2, hx598_3, hl598_1, hi598_1, hl598_2, hi598_2, hl598_3, hi598_3⟩ := at_T30 HR0.out 0 p598 q598
                  cases e598
                  have qi598 : (0 < l0.length) = True := eq_true J15
                  (try rw [show ((0 : Int)).toNat = 0 from rfl] at hx598_0)
                  (try rw [show 0 * 4 = 0 from rfl] at hx598_0)
                  (try rw [Addr.add_zero'] at hx598_0)
                  (try rw [show ((0 : Int)).toNat = 0 from rfl] at hx598_1)
                  (try rw [show 0 * 4 = 0 from rfl] at hx598_1)
                  (try rw [Addr.add_zero'] at hx598_1)
                  (try rw [show ((0 : Int)).toNat = 0 from rfl] at hx598_2)
                  (try rw [show 0 * 4 = 0 from rfl] at hx598_2)
                  (try rw [Addr.add_zero'] at hx598_2)
                  (try rw [show ((0 : Int)).toNat = 0 from rfl] at hx598_3)
                  (try rw [show 0 * 4 = 0 from rfl] at hx598_3)
                  (try rw [Addr.add_zero'] at hx598_3)
                  replace hx598_0 := (HB.out.cell (World.block_lt_of_cell? w _ hx598_0)).trans hx598_0
                  replace hx598_1 := (HB.out.cell (World.block_lt_of_cell? w _ hx598_1)).trans hx598_1
                  replace hx598_2 := (HB.out.cell (World.block_lt_of_cell? w _ hx598_2)).trans hx598_2
                  replace hx598_3 := (HB.out.cell (World.block_lt_of_cell? w _ hx598_3)).trans hx598_3
                  have HR598_1 := zq hi598_1
                  have HC598_1 := zq hl598_1
                  clear hi598_1 hl598_1
                  have HR598_2 := zq hi598_2
                  have HC598_2 := zq hl598_2
                  clear hi598_2 hl598_2
                  have HR598_3 := zq hi598_3
                  have HC598_3 := zq hl598_3
                  clear hi598_3 hl598_3
                  replace p598 := eq_true p598
                  replace q598 := eq_true q598
                  have p604 : 0 ≤ (0 : Int) := J15
                  have q604 : 0 < (l0.length : Int) := of_decide_eq_true J2
                  obtain ⟨ad604, A604_1, c604_1, A604_2, c604_2, A604_3, c604_3, e604, hx604_0, hx604_1, hx604_2, hx604_3, hl604_1, hi604_1, hl604_2, hi604_2, hl604_3, hi604_3⟩ := at_T30 HR0.out 0 p604 q604
                  obtain rfl : ad598 = ad604 := (by injection e604)
                  have qi604 : (0 < l0.length) = True := eq_true J15
                  (try rw [show ((0 : Int)).toNat = 0 from rfl] at hx604_0)
                  (try rw [show 0 * 4 = 0 from rfl] at hx604_0)
                  (try rw [Addr.add_zero'] at hx604_0)
                  (try rw [show ((0 : Int)).toNat = 0 from rfl] at hx604_1)
                  (try rw [show 0 * 4 = 0 from rfl] at hx604_1)
                  (try rw [Addr.add_zero'] at hx604_1)
                  (try rw [show ((0 : Int)).toNat = 0 from rfl] at hx604_2)
                  (try rw [show 0 * 4 = 0 from rfl] at hx604_2)
                  (try rw [Addr.add_zero'] at hx604_2)
                  (try rw [show ((0 : Int)).toNat = 0 from rfl] at hx604_3)
                  (try rw [show 0 * 4 = 0 from rfl] at hx604_3)
                  (try rw [Addr.add_zero'] at hx604_3)
                  replace hx604_0 := (HB.out.cell (World.block_lt_of_cell? w _ hx604_0)).trans hx604_0
                  replace hx604_1 := (HB.out.cell (World.block_lt_of_cell? w _ hx604_1)).trans hx604_1
                  replace hx604_2 := (HB.out.cell (World.block_lt_of_cell? w _ hx604_2)).trans hx604_2
                  replace hx604_3 := (HB.out.cell (World.block_lt_of_cell? w _ hx604_3)).trans hx604_3
                  have HR604_1 := zq hi604_1
                  have HC604_1 := zq hl604_1
                  clear hi604_1 hl604_1
                  have HR604_2 := zq hi604_2
                  have HC604_2 := zq hl604_2
                  clear hi604_2 hl604_2
                  have HR604_3 := zq hi604_3
                  have HC604_3 := zq hl604_3
                  clear hi604_3 hl604_3
                  replace p604 := eq_true p604
                  replace q604 := eq_true q604
                  have ea_ := Option.some.inj (hx598_1.symm.trans hx604_1)
                  injection ea_ with ea_ en_ ec_
                  subst ea_
                  subst ec_
                  clear en_
                  have ea_ := Option.some.inj (hx598_2.symm.trans hx604_2)
                  injection ea_ with ea_ en_ ec_
                  subst ea_
                  subst ec_
                  clear en_
                  have ea_ := Option.some.inj (hx598_3.symm.trans hx604_3)
                  injection ea_ with ea_ en_ ec_
                  subst ea_
                  subst ec_
                  clear en_
                  try go_wp2
                  replace HO_5 := zq (Kd.N_drew HO_5.out)
                  replace HB := zq (below_drew1 HB.out)
                  have p610 : 0 ≤ (0 : Int) := J15
                  have q610 : 0 < (l0.length : Int) := of_decide_eq_true J2
                  obtain ⟨ad610, A610_1, c610_1, A610_2, c610_2, A610_3, c610_3, e610, hx610_0, hx610_1, hx610_2, hx610_3, hl610_1, hi610_1, hl610_2, hi610_2, hl610_3, hi610_3⟩ := at_T30 HR0.out 0 p610 q610
                  have hw610_3 := hx610_3
                  (try rw [show ((0 : Int)).toNat = 0 from rfl] at hw610_3)
                  (try rw [show 0 * 4 = 0 from rfl] at hw610_3)
                  (try rw [Addr.add_zero'] at hw610_3)
                  have hw610_2 := hx610_2
                  (try rw [show ((0 : Int)).toNat = 0 from rfl] at hw610_2)
                  (try rw [show 0 * 4 = 0 from rfl] at hw610_2)
                  (try rw [Addr.add_zero'] at hw610_2)
                  have hw610_1 := hx610_1
                  (try rw [show ((0 : Int)).toNat = 0 from rfl] at hw610_1)
                  (try rw [show 0 * 4 = 0 from rfl] at hw610_1)
                  (try rw [Addr.add_zero'] at hw610_1)
                  have hw610_0 := hx610_0
                  (try rw [show ((0 : Int)).toNat = 0 from rfl] at hw610_0)
                  (try rw [show 0 * 4 = 0 from rfl] at hw610_0)
                  (try rw [Addr.add_zero'] at hw610_0)
                  obtain rfl : ad598 = ad610 := (by injection e610)
                  have qi610 : (0 < l0.length) = True := eq_true J15
                  (try rw [show ((0 : Int)).toNat = 0 from rfl] at hx610_0)
                  (try rw [show 0 * 4 = 0 from rfl] at hx610_0)
                  (try rw [Addr.add_zero'] at hx610_0)
                  (try rw [show ((0 : Int)).toNat = 0 from rfl] at hx610_1)
                  (try rw [show 0 * 4 = 0 from rfl] at hx610_1)
                  (try rw [Addr.add_zero'] at hx610_1)
                  (try rw [show ((0 : Int)).toNat = 0 from rfl] at hx610_2)
                  (try rw [show 0 * 4 = 0 from rfl] at hx610_2)
                  (try rw [Addr.add_zero'] at hx610_2)
                  (try rw [show ((0 : Int)).toNat = 0 from rfl] at hx610_3)
                  (try rw [show 0 * 4 = 0 from rfl] at hx610_3)
                  (try rw [Addr.add_zero'] at hx610_3)
                  replace hx610_0 := (HB.out.cell (World.block_lt_of_cell? w _ hx610_0)).trans hx610_0
                  replace hx610_1 := (HB.out.cell (World.block_lt_of_cell? w _ hx610_1)).trans hx610_1
                  replace hx610_2 := (HB.out.cell (World.block_lt_of_cell? w _ hx610_2)).trans hx610_2
                  replace hx610_3 := (HB.out.cell (World.block_lt_of_cell? w _ hx610_3)).trans hx610_3
                  have HR610_1 := zq hi610_1
                  have HC610_1 := zq hl610_1
                  clear hi610_1 hl610_1
                  have HR610_2 := zq hi610_2
                  have HC610_2 := zq hl610_2
                  clear hi610_2 hl610_2
                  have HR610_3 := zq hi610_3
                  have HC610_3 := zq hl610_3
                  clear hi610_3 hl610_3
                  replace p610 := eq_true p610
                  replace q610 := eq_true q610
                  have p611 : 0 ≤ (0 : Int) := J15
                  have q611 : 0 < (l0.length : Int) := of_decide_eq_true J2
                  obtain ⟨ad611, A611_1, c611_1, A611_2, c611_2, A611_3, c611_3, e611, hx611_0, hx611_1, hx611_2, hx611_3, hl611_1, hi611_1, hl611_2, hi611_2, hl611_3, hi611_3⟩ := at_T30 HR0.out 0 p611 q611
                  have hw611_3 := hx611_3
                  (try rw [show ((0 : Int)).toNat = 0 from rfl] at hw611_3)
                  (try rw [show 0 * 4 = 0 from rfl] at hw611_3)
                  (try rw [Addr.add_zero'] at hw611_3)
                  have hw611_2 := hx611_2
                  (try rw [show ((0 : Int)).toNat = 0 from rfl] at hw611_2)
                  (try rw [show 0 * 4 = 0 from rfl] at hw611_2)
                  (try rw [Addr.add_zero'] at hw611_2)
                  have hw611_1 := hx611_1
                  (try rw [show ((0 : Int)).toNat = 0 from rfl] at hw611_1)
                  (try rw [show 0 * 4 = 0 from rfl] at hw611_1)
                  (try rw [Addr.add_zero'] at hw611_1)
                  have hw611_0 := hx611_0
                  (try rw [show ((0 : Int)).toNat = 0 from rfl] at hw611_0)
                  (try rw [show 0 * 4 = 0 from rfl] at hw611_0)
                  (try rw [Addr.add_zero'] at hw611_0)
                  obtain rfl : ad598 = ad611 := (by injection e611)
                  have qi611 : (0 < l0.length) = True := eq_true J15
                  (try rw [show ((0 : Int)).toNat = 0 from rfl] at hx611_0)
                  (try rw [show 0 * 4 = 0 from rfl] at hx611_0)
                  (try rw [Addr.add_zero'] at hx611_0)
                  (try rw [show ((0 : Int)).toNat = 0 from rfl] at hx611_1)
                  (try rw [show 0 * 4 = 0 from rfl] at hx611_1)
                  (try rw [Addr.add_zero'] at hx611_1)
                  (try rw [show ((0 : Int)).toNat = 0 from rfl] at hx611_2)
                  (try rw [show 0 * 4 = 0 from rfl] at hx611_2)
                  (try rw [Addr.add_zero'] at hx611_2)
                  (try rw [show ((0 : Int)).toNat = 0 from rfl] at hx611_3)
                  (try rw [show 0 * 4 = 0 from rfl] at hx611_3)
                  (try rw [Addr.add_zero'] at hx611_3)
                  replace hx611_0 := (HB.out.cell (World.block_lt_of_cell? w _ hx611_0)).trans hx611_0
                  replace hx611_1 := (HB.out.cell (World.block_lt_of_cell? w _ hx611_1)).trans hx611_1
                  replace hx611_2 := (HB.out.cell (World.block_lt_of_cell? w _ hx611_2)).trans hx611_2
                  replace hx611_3 := (HB.out.cell (World.block_lt_of_cell? w _ hx611_3)).trans hx611_3
                  have HR611_1 := zq hi611_1
                  have HC611_1 := zq hl611_1
                  clear hi611_1 hl611_1
                  have HR611_2 := zq hi611_2
                  have HC611_2 := zq hl611_2
                  clear hi611_2 hl611_2
                  have HR611_3 := zq hi611_3
                  have HC611_3 := zq hl611_3
                  clear hi611_3 hl611_3
                  replace p611 := eq_true p611
                  replace q611 := eq_true q611
                  have ea_ := Option.some.inj (hx610_1.symm.trans hx611_1)
                  injection ea_ with ea_ en_ ec_
                  subst ea_
                  subst ec_
                  clear en_
                  have ea_ := Option.some.inj (hx610_2.symm.trans hx611_2)
                  injection ea_ with ea_ en_ ec_
                  subst ea_
                  subst ec_
                  clear en_
                  have ea_ := Option.some.inj (hx610_3.symm.trans hx611_3)
                  injection ea_ with ea_ en_ ec_
                  subst ea_
                  subst ec_
                  clear en_
                  obtain ⟨Ao50, co50, eo50⟩ := Kd.N_slice HO_5.out
                  (first | subst eo50 | (injection eo50 with f1_ f2_ f3_; have f4_ := f1_.symm; have f5_ := f3_.symm; clear f1_ f2_ f3_; subst f4_; subst f5_))
                  have p612 : 0 ≤ (0 : Int) := J15
                  have q612 : 0 < (t591.length : Int) := of_decide_eq_true J2
                  obtain ⟨ad612, A612_1, c612_1, A612_2, c612_2, A612_3, c612_3, e612, hx612_0, hx612_1, hx612_2, hx612_3, hl612_1, hi612_1, hl612_2, hi612_2, hl612_3, hi612_3⟩ := at_T30 (Kd.N_reads' HO_5.out).2.2 0 p612 q612
                  cases e612
                  obtain ⟨ce612, hce612, hMe612, hcc612⟩ := Kd.N_get HO_5.out z30 0 p612 (by first | exact q612 | exact of_decide_eq_true J2 | (have e_ := (Kd.N_reads' HO_5.out).1; omega))
                  obtain ⟨ua612_1, uc612_1, ua612_2, uc612_2, ua612_3, uc612_3, rfl, ul612_1, ge612_1, ul612_2, ge612_2, ul612_3, ge612_3⟩ := k30_openF hMe612
                  have hv612_1 := hcc612 1 _ rfl
                  rw [add_field _ _ 1 J15] at hv612_1
                  replace hv612_1 := Option.some.inj (hv612_1.symm.trans hx612_1)
                  injection hv612_1 with hva_ hvn_ hvc_
                  rw [hva_] at ge612_1
                  rw [hvc_] at ul612_1
                  have HL612_1 := zq (show Kd.V (Kd.int .i64) 3 _ w.heap.size _ _ ((rd_T30 t591 0).f1) from Kd.V_mk ul612_1 ge612_1)
                  clear hva_ hvn_ hvc_ ge612_1 ul612_1
                  have hv612_2 := hcc612 2 _ rfl
                  rw [add_field _ _ 2 J15] at hv612_2
                  replace hv612_2 := Option.some.inj (hv612_2.symm.trans hx612_2)
                  injection hv612_2 with hva_ hvn_ hvc_
                  rw [hva_] at ge612_2
                  rw [hvc_] at ul612_2
                  have HL612_2 := zq (show Kd.V (Kd.int .i64) 3 _ w.heap.size _ _ ((rd_T30 t591 0).f2) from Kd.V_mk ul612_2 ge612_2)
                  clear hva_ hvn_ hvc_ ge612_2 ul612_2
                  have hv612_3 := hcc612 3 _ rfl
                  rw [add_field _ _ 3 J15] at hv612_3
                  replace hv612_3 := Option.some.inj (hv612_3.symm.trans hx612_3)
                  injection hv612_3 with hva_ hvn_ hvc_
                  rw [hva_] at ge612_3
                  rw [hvc_] at ul612_3
                  have HL612_3 := zq (show Kd.V k38 38 _ w.heap.size _ _ ((rd_T30 t591 0).f3) from Kd.V_mk ul612_3 ge612_3)
                  clear hva_ hvn_ hvc_ ge612_3 ul612_3
                  clear hcc612 hce612
                  have qi612 : (0 < t591.length) = True := eq_true J15
                  (try rw [show ((0 : Int)).toNat = 0 from rfl] at hx612_0)
                  (try rw [show 0 * 4 = 0 from rfl] at hx612_0)
                  (try rw [Addr.add_zero'] at hx612_0)
                  (try rw [show ((0 : Int)).toNat = 0 from rfl] at hx612_1)
                  (try rw [show 0 * 4 = 0 from rfl] at hx612_1)
                  (try rw [Addr.add_zero'] at hx612_1)
                  (try rw [show ((0 : Int)).toNat = 0 from rfl] at hx612_2)
                  (try rw [show 0 * 4 = 0 from rfl] at hx612_2)
                  (try rw [Addr.add_zero'] at hx612_2)
                  (try rw [show ((0 : Int)).toNat = 0 from rfl] at hx612_3)
                  (try rw [show 0 * 4 = 0 from rfl] at hx612_3)
                  (try rw [Addr.add_zero'] at hx612_3)
                  have HR612_1 := zq hi612_1
                  have HC612_1 := zq hl612_1
                  clear hi612_1 hl612_1
                  have HR612_2 := zq hi612_2
                  have HC612_2 := zq hl612_2
                  clear hi612_2 hl612_2
                  have HR612_3 := zq hi612_3
                  have HC612_3 := zq hl612_3
                  clear hi612_3 hl612_3
                  replace p612 := eq_true p612
                  replace q612 := eq_true q612
                  refine start_ (n := 22) (S := fun w' => w'.cell? ad598 = some (.int .i64 ((rd_T30 l0 0).f0)) ∧ w'.cell? ⟨ad598.block, ad598.off + 1, none⟩ = some (.slice A610_1 ((rd_T30 l0 0).f1).length c610_1) ∧ w'.cell? ⟨ad598.block, ad598.off + 2, none⟩ = some (.slice A610_2 ((rd_T30 l0 0).f2).length c610_2) ∧ w'.cell? ⟨ad598.block, ad598.off + 3, none⟩ = some (.slice A610_3 ((rd_T30 l0 0).f3).length c610_3) ∧ w'.cell? ad598 = some (.int .i64 ((rd_T30 l0 0).f0)) ∧ w'.cell? ⟨ad598.block, ad598.off + 1, none⟩ = some (.slice A610_1 ((rd_T30 l0 0).f1).length c610_1) ∧ w'.cell? ⟨ad598.block, ad598.off + 2, none⟩ = some (.slice A610_2 ((rd_T30 l0 0).f2).length c610_2) ∧ w'.cell? ⟨ad598.block, ad598.off + 3, none⟩ = some (.slice A610_3 ((rd_T30 l0 0).f3).length c610_3) ∧ w'.cell? ad612 = some (.int .i64 ((rd_T30 t591 0).f0)) ∧ w'.cell? ⟨ad612.block, ad612.off + 1, none⟩ = some (.slice A612_1 ((rd_T30 t591 0).f1).length c612_1) ∧ w'.cell? ⟨ad612.block, ad612.off + 2, none⟩ = some (.slice A612_2 ((rd_T30 t591 0).f2).length c612_2) ∧ w'.cell? ⟨ad612.block, ad612.off + 3, none⟩ = some (.slice A612_3 ((rd_T30 t591 0).f3).length c612_3)) (ds := []) #[Z,Z,Z,Z,Z,Z,Z,Z,Z,Z,Z,Z,Z,Z,Z,Z,Z,Z,Z,Z,Z,Z] J4 rfl rfl ⟨((HB.out.cell (World.block_lt_of_cell? w _ hw610_0)).trans hw610_0), ((HB.out.cell (World.block_lt_of_cell? w _ hw610_1)).trans hw610_1), ((HB.out.cell (World.block_lt_of_cell? w _ hw610_2)).trans hw610_2), ((HB.out.cell (World.block_lt_of_cell? w _ hw610_3)).trans hw610_3), ((HB.out.cell (World.block_lt_of_cell? w _ hw611_0)).trans hw611_0), ((HB.out.cell (World.block_lt_of_cell? w _ hw611_1)).trans hw611_1), ((HB.out.cell (World.block_lt_of_cell? w _ hw611_2)).trans hw611_2), ((HB.out.cell (World.block_lt_of_cell? w _ hw611_3)).trans hw611_3), hx612_0, hx612_1, hx612_2, hx612_3⟩ (fun hHeld => ?_); refine with_tabW decklelaw11_TightShape.tab9 decklelaw11_TightShape.bits9 (fun HT_ HW_ => ?_)
                  generalize wc.drew = w49 at HO_5 HB HL612_1 HL612_2 HL612_3 HR610_1 HR610_2 HR610_3 HR611_1 HR611_2 HR611_3 HR612_1 HR612_2 HR612_3 hx610_0 hx610_1 hx610_2 hx610_3 hx611_0 hx611_1 hx611_2 hx611_3 hx612_0 hx612_1 hx612_2 hx612_3 hHeld ⊢
                  refine pure_ (i := 0) (N := some 54) (v := ?_) (a' := ?_) #[Y,Z,Z,Z,Z,Z,Z,Z,Z,Z,Z,Z,Z,Z,Z,Z,Z,Z,Z,Z,Z,Z] rfl rfl (any_of HT_.out J4) (fun _ _ _ h => h) (Or.inl ⟨J28, ?_⟩) ?_ ?_
                  rotate_left
                  · exact pz0
                  rotate_left
                  · exact pz1
                  refine pure_ (i := 1) (N := some 55) (v := ?_) (a' := ?_) #[Y,Y,Z,Z,Z,Z,Z,Z,Z,Z,Z,Z,Z,Z,Z,Z,Z,Z,Z,Z,Z,Z] rfl rfl (any_of HT_.out J4) (fun _ _ _ h => h) (Or.inl ⟨J28, ?_⟩) ?_ ?_
                  rotate_left
                  · exact pz0
                  rotate_left
                  · exact pz1
                  refine pure_ (i := 2) (N := some 56) (v := ?_) (a' := ?_) #[Y,Y,Y,Z,Z,Z,Z,Z,Z,Z,Z,Z,Z,Z,Z,Z,Z,Z,Z,Z,Z,Z] rfl rfl (any_of HT_.out J4) (fun _ _ _ h => h) (Or.inl ⟨J28, ?_⟩) ?_ ?_
                  rotate_left
                  · exact pz0
                  rotate_left
                  · exact pz1
                  refine pure_ (i := 3) (N := some 57) (v := ?_) (a' := ?_) #[Y,Y,Y,Y,Z,Z,Z,Z,Z,Z,Z,Z,Z,Z,Z,Z,Z,Z,Z,Z,Z,Z] rfl rfl (any_of HT_.out J4) (fun _ _ _ h => h) (Or.inl ⟨J28, ?_⟩) ?_ ?_
                  rotate_left
                  · exact pz0
                  rotate_left
                  · exact pz1
                  refine pure_ (i := 4) (N := some 58) (v := ?_) (a' := ?_) #[Y,Y,Y,Y,Y,Z,Z,Z,Z,Z,Z,Z,Z,Z,Z,Z,Z,Z,Z,Z,Z,Z] rfl rfl (any_of HT_.out J4) (fun _ _ _ h => h) (Or.inl ⟨J28, ?_⟩) ?_ ?_
                  rotate_left
                  · exact pz0
                  rotate_left
                  · exact pz1
                  refine take_ (i := 5) (N := some 59) (v := ?_) (a' := ?_) #[Y,Y,Y,Y,Y,Y,Z,Z,Z,Z,Z,Z,Z,Z,Z,Z,Z,Z,Z,Z,Z,Z] rfl rfl (take_ofW HT_.out HW_.out J4) (fun _ _ _ h => h) (Or.inl ⟨J28, ?_⟩) hHeld ?_ ?_
                  rotate_left
                  · rintro w' ⟨s0, s1, s2, s3, s4, s5, s6, s7, s8, s9, s10, s11⟩
                    go_simp
                    with_reducible rfl
                  rotate_left
                  · exact pz1
                  refine pure_ (i := 6) (N := some 60) (v := ?_) (a' := ?_) #[Y,Y,Y,Y,Y,Y,Y,Z,Z,Z,Z,Z,Z,Z,Z,Z,Z,Z,Z,Z,Z,Z] rfl rfl (any_of HT_.out J4) (fun _ _ _ h => h) (Or.inl ⟨J28, ?_⟩) ?_ ?_
                  rotate_left
                  · exact pz0
                  rotate_left
                  · exact pz1
                  refine pure_ (i := 7) (N := some 61) (v := ?_) (a' := ?_) #[Y,Y,Y,Y,Y,Y,Y,Y,Z,Z,Z,Z,Z,Z,Z,Z,Z,Z,Z,Z,Z,Z] rfl rfl (any_of HT_.out J4) (fun _ _ _ h => h) (Or.inl ⟨J28, ?_⟩) ?_ ?_
                  rotate_left
                  · exact pz0
                  rotate_left
                  · exact pz1
                  refine pure_ (i := 8) (N := some 62) (v := ?_) (a' := ?_) #[Y,Y,Y,Y,Y,Y,Y,Y,Y,Z,Z,Z,Z,Z,Z,Z,Z,Z,Z,Z,Z,Z] rfl rfl (any_of HT_.out J4) (fun _ _ _ h => h) (Or.inl ⟨J28, ?_⟩) ?_ ?_
                  rotate_left
                  · exact pz0
                  rotate_left
                  · exact pz1
                  refine pure_ (i := 9) (N := some 63) (v := ?_) (a' := ?_) #[Y,Y,Y,Y,Y,Y,Y,Y,Y,Y,Z,Z,Z,Z,Z,Z,Z,Z,Z,Z,Z,Z] rfl rfl (any_of HT_.out J4) (fun _ _ _ h => h) (Or.inl ⟨J28, ?_⟩) ?_ ?_
                  rotate_left
                  · exact pz0
                  rotate_left
                  · exact pz1
                  refine pure_ (i := 10) (N := some 64) (v := ?_) (a' := ?_) #[Y,Y,Y,Y,Y,Y,Y,Y,Y,Y,Y,Z,Z,Z,Z,Z,Z,Z,Z,Z,Z,Z] rfl rfl (any_of HT_.out J4) (fun _ _ _ h => h) (Or.inl ⟨J28, ?_⟩) ?_ ?_
                  rotate_left
                  · exact pz0
                  rotate_left
                  · exact pz1
                  refine pure_ (i := 13) (N := some 67) (v := ?_) (a' := ?_) #[Y,Y,Y,Y,Y,Y,Y,Y,Y,Y,Y,Z,Z,Y,Z,Z,Z,Z,Z,Z,Z,Z] rfl rfl (any_of HT_.out J4) (fun _ _ _ h => h) (Or.inl ⟨J28, ?_⟩) ?_ ?_
                  rotate_left
                  · exact pz0
                  rotate_left
                  · exact pz1
                  refine pure_ (i := 14) (N := some 68) (v := ?_) (a' := ?_) #[Y,Y,Y,Y,Y,Y,Y,Y,Y,Y,Y,Z,Z,Y,Y,Z,Z,Z,Z,Z,Z,Z] rfl rfl (any_of HT_.out J4) (fun _ _ _ h => h) (Or.inl ⟨J28, ?_⟩) ?_ ?_
                  rotate_left
                  · exact pz0
                  rotate_left
                  · exact pz1
                  refine pure_ (i := 15) (N := some 69) (v := ?_) (a' := ?_) #[Y,Y,Y,Y,Y,Y,Y,Y,Y,Y,Y,Z,Z,Y,Y,Y,Z,Z,Z,Z,Z,Z] rfl rfl (any_of HT_.out J4) (fun _ _ _ h => h) (Or.inl ⟨J28, ?_⟩) ?_ ?_
                  rotate_left
                  · exact pz0
                  rotate_left
                  · exact pz1
                  refine take_ (i := 11) (N := some 65) (v := ?_) (a' := ?_) #[Y,Y,Y,Y,Y,Y,Y,Y,Y,Y,Y,Y,Z,Y,Y,Y,Z,Z,Z,Z,Z,Z] rfl rfl (take_ofW HT_.out HW_.out J4) (fun _ _ _ h => h) (Or.inl ⟨J28, ?_⟩) hHeld ?_ ?_
                  rotate_left
                  · rintro w' ⟨s0, s1, s2, s3, s4, s5, s6, s7, s8, s9, s10, s11⟩
                    go_simp
                    with_reducible rfl
                  rotate_left
                  · exact pz1
                  refine pure_ (i := 12) (N := some 66) (v := ?_) (a' := ?_) #[Y,Y,Y,Y,Y,Y,Y,Y,Y,Y,Y,Y,Y,Y,Y,Y,Z,Z,Z,Z,Z,Z] rfl rfl (any_of HT_.out J4) (fun _ _ _ h => h) (Or.inl ⟨J28, ?_⟩) ?_ ?_
                  rotate_left
                  · exact pz0
                  rotate_left
                  · exact pz1
                  refine take_ (i := 16) (N := some 70) (v := ?_) (a' := ?_) #[Y,Y,Y,Y,Y,Y,Y,Y,Y,Y,Y,Y,Y,Y,Y,Y,Y,Z,Z,Z,Z,Z] rfl rfl (take_ofW HT_.out HW_.out J4) (fun _ _ _ h => h) (Or.inl ⟨J28, ?_⟩) hHeld ?_ ?_
                  rotate_left
                  · rintro w' ⟨s0, s1, s2, s3, s4, s5, s6, s7, s8, s9, s10, s11⟩
                    go_simp
                    with_reducible rfl
                  rotate_left
                  · exact pz1
                  refine pure_ (i := 17) (N := some 71) (v := ?_) (a' := ?_) #[Y,Y,Y,Y,Y,Y,Y,Y,Y,Y,Y,Y,Y,Y,Y,Y,Y,Y,Z,Z,Z,Z] rfl rfl (any_of HT_.out J4) (fun _ _ _ h => h) (Or.inl ⟨J28, ?_⟩) ?_ ?_
                  rotate_left
                  · exact pz0
                  rotate_left
                  · exact pz1
                  refine pure_ (i := 18) (N := some 72) (v := ?_) (a' := ?_) #[Y,Y,Y,Y,Y,Y,Y,Y,Y,Y,Y,Y,Y,Y,Y,Y,Y,Y,Y,Z,Z,Z] rfl rfl (any_of HT_.out J4) (fun _ _ _ h => h) (Or.inl ⟨J28, ?_⟩) ?_ ?_
                  rotate_left
                  · exact pz0
                  rotate_left
                  · exact pz1
                  refine pure_ (i := 19) (N := some 73) (v := ?_) (a' := ?_) #[Y,Y,Y,Y,Y,Y,Y,Y,Y,Y,Y,Y,Y,Y,Y,Y,Y,Y,Y,Y,Z,Z] rfl rfl (any_of HT_.out J4) (fun _ _ _ h => h) (Or.inl ⟨J28, ?_⟩) ?_ ?_
                  rotate_left
                  · exact pz0
                  rotate_left
                  · exact pz1
                  refine pure_ (i := 20) (N := some 74) (v := ?_) (a' := ?_) #[Y,Y,Y,Y,Y,Y,Y,Y,Y,Y,Y,Y,Y,Y,Y,Y,Y,Y,Y,Y,Y,Z] rfl rfl (any_of HT_.out J4) (fun _ _ _ h => h) (Or.inl ⟨J28, ?_⟩) ?_ ?_
                  rotate_left
                  · exact pz0
                  rotate_left
                  · exact pz1
                  refine pure_ (i := 21) (N := some 2) (v := ?_) (a' := ?_) #[Y,Y,Y,Y,Y,Y,Y,Y,Y,Y,Y,Y,Y,Y,Y,Y,Y,Y,Y,Y,Y,Y] rfl rfl (any_of HT_.out J4) (fun _ _ _ h => h) (Or.inl ⟨J28, ?_⟩) ?_ ?_
                  rotate_left
                  · exact pz0
                  rotate_left
                  · exact pz1
                  refine done_ (done_of HT_.out J4) ?_
                  try go_wp2
                  go_ret
                  exact ⟨J3, J0⟩
                · rw [if_neg c48] at H
                  exact absurd H J30
            · replace c45 := Bool.eq_false_iff.mpr c45
              subst c45
              rw [if_neg (show ¬ (false = true) by decide)] at H
              exact absurd H J30
          rw [if_pos c34] at H
          have c34b0 : (((rd_T30 l0 0).f0) == 2) = true := beq_iff_eq.mpr c34
          have c34b1 : (((rd_T30 l0 0).f0) != 2) = false := bne_eq_false_iff_eq.mpr c34
          clear c34
          by_cases c35 : t589 = true
          rotate_left
          · replace c35 := Bool.eq_false_iff.mpr c35
            subst c35
            rw [if_neg (show ¬ (false = true) by decide)] at H
            exact absurd H J30
          subst c35
          rw [if_pos rfl] at H
          by_cases c36 : (t591.length : Int) = 1
          rotate_left
          · rw [if_neg c36] at H
            exact absurd H J30
          rw [if_pos c36] at H
          have c36b0 : ((t591.length : Int) == 1) = true := beq_iff_eq.mpr c36
          have c36b1 : ((t591.length : Int) != 1) = false := bne_eq_false_iff_eq.mpr c36
          clear c36
          by_cases c37 : 0 < (t591.length : Int)
          rotate_left
          · rw [if_neg c37] at H
            exact absurd H J30
          rw [if_pos c37] at H
          have c37b0 := decide_eq_true c37
          have c37b1 : decide (0 < t591.length) = true := decide_eq_true J15
          clear c37
          replace H := Option.bind_eq_some_iff.mp H
          obtain ⟨t607, A380, H⟩ := H
          have A38 := zq A380
          clear A380
          by_cases c39 : t607 = true
          rotate_left
          · replace c39 := Bool.eq_false_iff.mpr c39
            subst c39
            rw [if_neg (show ¬ (false = true) by decide)] at H
            exact absurd H J30
          subst c39
          rw [if_pos rfl] at H
          by_cases c40 : ((rd_T30 t591 0).f0) = 1
          · rw [if_pos c40] at H
            have c40b0 : (((rd_T30 t591 0).f0) == 1) = true := beq_iff_eq.mpr c40
            have c40b1 : (((rd_T30 t591 0).f0) != 1) = false := bne_eq_false_iff_eq.mpr c40
            clear c40
            obtain rfl := Option.some.inj H
            have p598 : 0 ≤ (0 : Int) := J15
            have q598 : 0 < (l0.length : Int) := of_decide_eq_true J2
            obtain ⟨ad598, A598_1, c598_1, A598_2, c598_2, A598_3, c598_3, e598, hx598_0, hx598_1, hx598_2, hx598_3, hl598_1, hi598_1, hl598_2, hi598_2, hl598_3, hi598_3⟩ := at_T30 HR0.out 0 p598 q598
            cases e598
            have qi598 : (0 < l0.length) = True := eq_true J15
            (try rw [show ((0 : Int)).toNat = 0 from rfl] at hx598_0)
            (try rw [show 0 * 4 = 0 from rfl] at hx598_0)
            (try rw [Addr.add_zero'] at hx598_0)
            (try rw [show ((0 : Int)).toNat = 0 from rfl] at hx598_1)
            (try rw [show 0 * 4 = 0 from rfl] at hx598_1)
            (try rw [Addr.add_zero'] at hx598_1)
            (try rw [show ((0 : Int)).toNat = 0 from rfl] at hx598_2)
            (try rw [show 0 * 4 = 0 from rfl] at hx598_2)
            (try rw [Addr.add_zero'] at hx598_2)
            (try rw [show ((0 : Int)).toNat = 0 from rfl] at hx598_3)
            (try rw [show 0 * 4 = 0 from rfl] at hx598_3)
            (try rw [Addr.add_zero'] at hx598_3)
            replace hx598_0 := (HB.out.cell (World.block_lt_of_cell? w _ hx598_0)).trans hx598_0
            replace hx598_1 := (HB.out.cell (World.block_lt_of_cell? w _ hx598_1)).trans hx598_1
            replace hx598_2 := (HB.out.cell (World.block_lt_of_cell? w _ hx598_2)).trans hx598_2
            replace hx598_3 := (HB.out.cell (World.block_lt_of_cell? w _ hx598_3)).trans hx598_3
            have HR598_1 := zq hi598_1
            have HC598_1 := zq hl598_1
            clear hi598_1 hl598_1
            have HR598_2 := zq hi598_2
            have HC598_2 := zq hl598_2
            clear hi598_2 hl598_2
            have HR598_3 := zq hi598_3
            have HC598_3 := zq hl598_3
            clear hi598_3 hl598_3
            replace p598 := eq_true p598
            replace q598 := eq_true q598
            have p604 : 0 ≤ (0 : Int) := J15
            have q604 : 0 < (l0.length : Int) := of_decide_eq_true J2
            obtain ⟨ad604, A604_1, c604_1, A604_2, c604_2, A604_3, c604_3, e604, hx604_0, hx604_1, hx604_2, hx604_3, hl604_1, hi604_1, hl604_2, hi604_2, hl604_3, hi604_3⟩ := at_T30 HR0.out 0 p604 q604
            obtain rfl : ad598 = ad604 := (by injection e604)
            have qi604 : (0 < l0.length) = True := eq_true J15
            (try rw [show ((0 : Int)).toNat = 0 from rfl] at hx604_0)
            (try rw [show 0 * 4 = 0 from rfl] at hx604_0)
            (try rw [Addr.add_zero'] at hx604_0)
            (try rw [show ((0 : Int)).toNat = 0 from rfl] at hx604_1)
            (try rw [show 0 * 4 = 0 from rfl] at hx604_1)
            (try rw [Addr.add_zero'] at hx604_1)
            (try rw [show ((0 : Int)).toNat = 0 from rfl] at hx604_2)
            (try rw [show 0 * 4 = 0 from rfl] at hx604_2)
            (try rw [Addr.add_zero'] at hx604_2)
            (try rw [show ((0 : Int)).toNat = 0 from rfl] at hx604_3)
            (try rw [show 0 * 4 = 0 from rfl] at hx604_3)
            (try rw [Addr.add_zero'] at hx604_3)
            replace hx604_0 := (HB.out.cell (World.block_lt_of_cell? w _ hx604_0)).trans hx604_0
            replace hx604_1 := (HB.out.cell (World.block_lt_of_cell? w _ hx604_1)).trans hx604_1
            replace hx604_2 := (HB.out.cell (World.block_lt_of_cell? w _ hx604_2)).trans hx604_2
            replace hx604_3 := (HB.out.cell (World.block_lt_of_cell? w _ hx604_3)).trans hx604_3
            have HR604_1 := zq hi604_1
            have HC604_1 := zq hl604_1
            clear hi604_1 hl604_1
            have HR604_2 := zq hi604_2
            have HC604_2 := zq hl604_2
            clear hi604_2 hl604_2
            have HR604_3 := zq hi604_3
            have HC604_3 := zq hl604_3
            clear hi604_3 hl604_3
            replace p604 := eq_true p604
            replace q604 := eq_true q604
            have ea_ := Option.some.inj (hx598_1.symm.trans hx604_1)
            injection ea_ with ea_ en_ ec_
            subst ea_
            subst ec_
            clear en_
            have ea_ := Option.some.inj (hx598_2.symm.trans hx604_2)
            injection ea_ with ea_ en_ ec_
            subst ea_
            subst ec_
            clear en_
            have ea_ := Option.some.inj (hx598_3.symm.trans hx604_3)
            injection ea_ with ea_ en_ ec_
            subst ea_
            subst ec_
            clear en_
            try go_wp2
            replace HO_5 := zq (Kd.N_drew HO_5.out)
            replace HB := zq (below_drew1 HB.out)
            obtain ⟨Ao42, co42, eo42⟩ := Kd.N_slice HO_5.out
            (first | subst eo42 | (injection eo42 with f1_ f2_ f3_; have f4_ := f1_.symm; have f5_ := f3_.symm; clear f1_ f2_ f3_; subst f4_; subst f5_))
            have p605 : 0 ≤ (0 : Int) := J15
            have q605 : 0 < (l0.length : Int) := of_decide_eq_true J2
            obtain ⟨ad605, A605_1, c605_1, A605_2, c605_2, A605_3, c605_3, e605, hx605_0, hx605_1, hx605_2, hx605_3, hl605_1, hi605_1, hl605_2, hi605_2, hl605_3, hi605_3⟩ := at_T30 HR0.out 0 p605 q605
            have hw605_3 := hx605_3
            (try rw [show ((0 : Int)).toNat = 0 from rfl] at hw605_3)
            (try rw [show 0 * 4 = 0 from rfl] at hw605_3)
            (try rw [Addr.add_zero'] at hw605_3)
            have hw605_2 := hx605_2
            (try rw [show ((0 : Int)).toNat = 0 from rfl] at hw605_2)
            (try rw [show 0 * 4 = 0 from rfl] at hw605_2)
            (try rw [Addr.add_zero'] at hw605_2)
            have hw605_1 := hx605_1
            (try rw [show ((0 : Int)).toNat = 0 from rfl] at hw605_1)
            (try rw [show 0 * 4 = 0 from rfl] at hw605_1)
            (try rw [Addr.add_zero'] at hw605_1)
            have hw605_0 := hx605_0
            (try rw [show ((0 : Int)).toNat = 0 from rfl] at hw605_0)
            (try rw [show 0 * 4 = 0 from rfl] at hw605_0)
            (try rw [Addr.add_zero'] at hw605_0)
            obtain rfl : ad598 = ad605 := (by injection e605)
            have qi605 : (0 < l0.length) = True := eq_true J15
            (try rw [show ((0 : Int)).toNat = 0 from rfl] at hx605_0)
            (try rw [show 0 * 4 = 0 from rfl] at hx605_0)
            (try rw [Addr.add_zero'] at hx605_0)
            (try rw [show ((0 : Int)).toNat = 0 from rfl] at hx605_1)
            (try rw [show 0 * 4 = 0 from rfl] at hx605_1)
            (try rw [Addr.add_zero'] at hx605_1)
            (try rw [show ((0 : Int)).toNat = 0 from rfl] at hx605_2)
            (try rw [show 0 * 4 = 0 from rfl] at hx605_2)
            (try rw [Addr.add_zero'] at hx605_2)
            (try rw [show ((0 : Int)).toNat = 0 from rfl] at hx605_3)
            (try rw [show 0 * 4 = 0 from rfl] at hx605_3)
            (try rw [Addr.add_zero'] at hx605_3)
            replace hx605_0 := (HB.out.cell (World.block_lt_of_cell? w _ hx605_0)).trans hx605_0
            replace hx605_1 := (HB.out.cell (World.block_lt_of_cell? w _ hx605_1)).trans hx605_1
            replace hx605_2 := (HB.out.cell (World.block_lt_of_cell? w _ hx605_2)).trans hx605_2
            replace hx605_3 := (HB.out.cell (World.block_lt_of_cell? w _ hx605_3)).trans hx605_3
            have HR605_1 := zq hi605_1
            have HC605_1 := zq hl605_1
            clear hi605_1 hl605_1
            have HR605_2 := zq hi605_2
            have HC605_2 := zq hl605_2
            clear hi605_2 hl605_2
            have HR605_3 := zq hi605_3
            have HC605_3 := zq hl605_3
            clear hi605_3 hl605_3
            replace p605 := eq_true p605
            replace q605 := eq_true q605
            have p606 : 0 ≤ (0 : Int) := J15
            have q606 : 0 < (t591.length : Int) := of_decide_eq_true J2
            obtain ⟨ad606, A606_1, c606_1, A606_2, c606_2, A606_3, c606_3, e606, hx606_0, hx606_1, hx606_2, hx606_3, hl606_1, hi606_1, hl606_2, hi606_2, hl606_3, hi606_3⟩ := at_T30 (Kd.N_reads' HO_5.out).2.2 0 p606 q606
            cases e606
            obtain ⟨ce606, hce606, hMe606, hcc606⟩ := Kd.N_get HO_5.out z30 0 p606 (by first | exact q606 | exact of_decide_eq_true J2 | (have e_ := (Kd.N_reads' HO_5.out).1; omega))
            obtain ⟨ua606_1, uc606_1, ua606_2, uc606_2, ua606_3, uc606_3, rfl, ul606_1, ge606_1, ul606_2, ge606_2, ul606_3, ge606_3⟩ := k30_openF hMe606
            have hv606_1 := hcc606 1 _ rfl
            rw [add_field _ _ 1 J15] at hv606_1
            replace hv606_1 := Option.some.inj (hv606_1.symm.trans hx606_1)
            injection hv606_1 with hva_ hvn_ hvc_
            rw [hva_] at ge606_1
            rw [hvc_] at ul606_1
            have HL606_1 := zq (show Kd.V (Kd.int .i64) 3 _ w.heap.size _ _ ((rd_T30 t591 0).f1) from Kd.V_mk ul606_1 ge606_1)
            clear hva_ hvn_ hvc_ ge606_1 ul606_1
            have hv606_2 := hcc606 2 _ rfl
            rw [add_field _ _ 2 J15] at hv606_2
            replace hv606_2 := Option.some.inj (hv606_2.symm.trans hx606_2)
            injection hv606_2 with hva_ hvn_ hvc_
            rw [hva_] at ge606_2
            rw [hvc_] at ul606_2
            have HL606_2 := zq (show Kd.V (Kd.int .i64) 3 _ w.heap.size _ _ ((rd_T30 t591 0).f2) from Kd.V_mk ul606_2 ge606_2)
            clear hva_ hvn_ hvc_ ge606_2 ul606_2
            have hv606_3 := hcc606 3 _ rfl
            rw [add_field _ _ 3 J15] at hv606_3
            replace hv606_3 := Option.some.inj (hv606_3.symm.trans hx606_3)
            injection hv606_3 with hva_ hvn_ hvc_
            rw [hva_] at ge606_3
            rw [hvc_] at ul606_3
            have HL606_3 := zq (show Kd.V k38 38 _ w.heap.size _ _ ((rd_T30 t591 0).f3) from Kd.V_mk ul606_3 ge606_3)
            clear hva_ hvn_ hvc_ ge606_3 ul606_3
            clear hcc606 hce606
            have qi606 : (0 < t591.length) = True := eq_true J15
            (try rw [show ((0 : Int)).toNat = 0 from rfl] at hx606_0)
            (try rw [show 0 * 4 = 0 from rfl] at hx606_0)
            (try rw [Addr.add_zero'] at hx606_0)
            (try rw [show ((0 : Int)).toNat = 0 from rfl] at hx606_1)
            (try rw [show 0 * 4 = 0 from rfl] at hx606_1)
            (try rw [Addr.add_zero'] at hx606_1)
            (try rw [show ((0 : Int)).toNat = 0 from rfl] at hx606_2)
            (try rw [show 0 * 4 = 0 from rfl] at hx606_2)
            (try rw [Addr.add_zero'] at hx606_2)
            (try rw [show ((0 : Int)).toNat = 0 from rfl] at hx606_3)
            (try rw [show 0 * 4 = 0 from rfl] at hx606_3)
            (try rw [Addr.add_zero'] at hx606_3)
            have HR606_1 := zq hi606_1
            have HC606_1 := zq hl606_1
            clear hi606_1 hl606_1
            have HR606_2 := zq hi606_2
            have HC606_2 := zq hl606_2
            clear hi606_2 hl606_2
            have HR606_3 := zq hi606_3
            have HC606_3 := zq hl606_3
            clear hi606_3 hl606_3
            replace p606 := eq_true p606
            replace q606 := eq_true q606
            have p608 : 0 ≤ (0 : Int) := J15
            have q608 : 0 < (t591.length : Int) := of_decide_eq_true J2
            obtain ⟨ad608, A608_1, c608_1, A608_2, c608_2, A608_3, c608_3, e608, hx608_0, hx608_1, hx608_2, hx608_3, hl608_1, hi608_1, hl608_2, hi608_2, hl608_3, hi608_3⟩ := at_T30 (Kd.N_reads' HO_5.out).2.2 0 p608 q608
            obtain rfl : ad606 = ad608 := (by injection e608)
            obtain ⟨ce608, hce608, hMe608, hcc608⟩ := Kd.N_get HO_5.out z30 0 p608 (by first | exact q608 | exact of_decide_eq_true J2 | (have e_ := (Kd.N_reads' HO_5.out).1; omega))
            obtain ⟨ua608_1, uc608_1, ua608_2, uc608_2, ua608_3, uc608_3, rfl, ul608_1, ge608_1, ul608_2, ge608_2, ul608_3, ge608_3⟩ := k30_openF hMe608
            have hv608_1 := hcc608 1 _ rfl
            rw [add_field _ _ 1 J15] at hv608_1
            replace hv608_1 := Option.some.inj (hv608_1.symm.trans hx608_1)
            injection hv608_1 with hva_ hvn_ hvc_
            rw [hva_] at ge608_1
            rw [hvc_] at ul608_1
            have HL608_1 := zq (show Kd.V (Kd.int .i64) 3 _ w.heap.size _ _ ((rd_T30 t591 0).f1) from Kd.V_mk ul608_1 ge608_1)
            clear hva_ hvn_ hvc_ ge608_1 ul608_1
            have hv608_2 := hcc608 2 _ rfl
            rw [add_field _ _ 2 J15] at hv608_2
            replace hv608_2 := Option.some.inj (hv608_2.symm.trans hx608_2)
            injection hv608_2 with hva_ hvn_ hvc_
            rw [hva_] at ge608_2
            rw [hvc_] at ul608_2
            have HL608_2 := zq (show Kd.V (Kd.int .i64) 3 _ w.heap.size _ _ ((rd_T30 t591 0).f2) from Kd.V_mk ul608_2 ge608_2)
            clear hva_ hvn_ hvc_ ge608_2 ul608_2
            have hv608_3 := hcc608 3 _ rfl
            rw [add_field _ _ 3 J15] at hv608_3
            replace hv608_3 := Option.some.inj (hv608_3.symm.trans hx608_3)
            injection hv608_3 with hva_ hvn_ hvc_
            rw [hva_] at ge608_3
            rw [hvc_] at ul608_3
            have HL608_3 := zq (show Kd.V k38 38 _ w.heap.size _ _ ((rd_T30 t591 0).f3) from Kd.V_mk ul608_3 ge608_3)
            clear hva_ hvn_ hvc_ ge608_3 ul608_3
            clear hcc608 hce608
            have qi608 : (0 < t591.length) = True := eq_true J15
            (try rw [show ((0 : Int)).toNat = 0 from rfl] at hx608_0)
            (try rw [show 0 * 4 = 0 from rfl] at hx608_0)
            (try rw [Addr.add_zero'] at hx608_0)
            (try rw [show ((0 : Int)).toNat = 0 from rfl] at hx608_1)
            (try rw [show 0 * 4 = 0 from rfl] at hx608_1)
            (try rw [Addr.add_zero'] at hx608_1)
            (try rw [show ((0 : Int)).toNat = 0 from rfl] at hx608_2)
            (try rw [show 0 * 4 = 0 from rfl] at hx608_2)
            (try rw [Addr.add_zero'] at hx608_2)
            (try rw [show ((0 : Int)).toNat = 0 from rfl] at hx608_3)
            (try rw [show 0 * 4 = 0 from rfl] at hx608_3)
            (try rw [Addr.add_zero'] at hx608_3)
            have HR608_1 := zq hi608_1
            have HC608_1 := zq hl608_1
            clear hi608_1 hl608_1
            have HR608_2 := zq hi608_2
            have HC608_2 := zq hl608_2
            clear hi608_2 hl608_2
            have HR608_3 := zq hi608_3
            have HC608_3 := zq hl608_3
            clear hi608_3 hl608_3
            replace p608 := eq_true p608
            replace q608 := eq_true q608
            have ea_ := Option.some.inj (hx606_1.symm.trans hx608_1)
            injection ea_ with ea_ en_ ec_
            subst ea_
            subst ec_
            clear en_
            have ea_ := Option.some.inj (hx606_2.symm.trans hx608_2)
            injection ea_ with ea_ en_ ec_
            subst ea_
            subst ec_
            clear en_
            have ea_ := Option.some.inj (hx606_3.symm.trans hx608_3)
            injection ea_ with ea_ en_ ec_
            subst ea_
            subst ec_
            clear en_
            refine start_ (n := 32) (S := fun w' => w'.cell? ad598 = some (.int .i64 ((rd_T30 l0 0).f0)) ∧ w'.cell? ⟨ad598.block, ad598.off + 1, none⟩ = some (.slice A605_1 ((rd_T30 l0 0).f1).length c605_1) ∧ w'.cell? ⟨ad598.block, ad598.off + 2, none⟩ = some (.slice A605_2 ((rd_T30 l0 0).f2).length c605_2) ∧ w'.cell? ⟨ad598.block, ad598.off + 3, none⟩ = some (.slice A605_3 ((rd_T30 l0 0).f3).length c605_3) ∧ w'.cell? ad606 = some (.int .i64 ((rd_T30 t591 0).f0)) ∧ w'.cell? ⟨ad606.block, ad606.off + 1, none⟩ = some (.slice A606_1 ((rd_T30 t591 0).f1).length c606_1) ∧ w'.cell? ⟨ad606.block, ad606.off + 2, none⟩ = some (.slice A606_2 ((rd_T30 t591 0).f2).length c606_2) ∧ w'.cell? ⟨ad606.block, ad606.off + 3, none⟩ = some (.slice A606_3 ((rd_T30 t591 0).f3).length c606_3) ∧ w'.cell? ad606 = some (.int .i64 ((rd_T30 t591 0).f0)) ∧ w'.cell? ⟨ad606.block, ad606.off + 1, none⟩ = some (.slice A606_1 ((rd_T30 t591 0).f1).length c606_1) ∧ w'.cell? ⟨ad606.block, ad606.off + 2, none⟩ = some (.slice A606_2 ((rd_T30 t591 0).f2).length c606_2) ∧ w'.cell? ⟨ad606.block, ad606.off + 3, none⟩ = some (.slice A606_3 ((rd_T30 t591 0).f3).length c606_3)) (ds := []) #[Z,Z,Z,Z,Z,Z,Z,Z,Z,Z,Z,Z,Z,Z,Z,Z,Z,Z,Z,Z,Z,Z,Z,Z,Z,Z,Z,Z,Z,Z,Z,Z] J4 rfl rfl ⟨((HB.out.cell (World.block_lt_of_cell? w _ hw605_0)).trans hw605_0), ((HB.out.cell (World.block_lt_of_cell? w _ hw605_1)).trans hw605_1), ((HB.out.cell (World.block_lt_of_cell? w _ hw605_2)).trans hw605_2), ((HB.out.cell (World.block_lt_of_cell? w _ hw605_3)).trans hw605_3), hx606_0, hx606_1, hx606_2, hx606_3, hx608_0, hx608_1, hx608_2, hx608_3⟩ (fun hHeld => ?_); refine with_tabW decklelaw11_TightShape.tab10 decklelaw11_TightShape.bits10 (fun HT_ HW_ => ?_)
            generalize wc.drew = w41 at HO_5 HB HL606_1 HL606_2 HL606_3 HL608_1 HL608_2 HL608_3 HR605_1 HR605_2 HR605_3 HR606_1 HR606_2 HR606_3 HR608_1 HR608_2 HR608_3 hx605_0 hx605_1 hx605_2 hx605_3 hx606_0 hx606_1 hx606_2 hx606_3 hx608_0 hx608_1 hx608_2 hx608_3 hHeld ⊢
            refine pure_ (i := 0) (N := some 75) (v := ?_) (a' := ?_) #[Y,Z,Z,Z,Z,Z,Z,Z,Z,Z,Z,Z,Z,Z,Z,Z,Z,Z,Z,Z,Z,Z,Z,Z,Z,Z,Z,Z,Z,Z,Z,Z] rfl rfl (any_of HT_.out J4) (fun _ _ _ h => h) (Or.inl ⟨J28, ?_⟩) ?_ ?_
            rotate_left
            · exact pz0
            rotate_left
            · exact pz1
            refine pure_ (i := 1) (N := some 76) (v := ?_) (a' := ?_) #[Y,Y,Z,Z,Z,Z,Z,Z,Z,Z,Z,Z,Z,Z,Z,Z,Z,Z,Z,Z,Z,Z,Z,Z,Z,Z,Z,Z,Z,Z,Z,Z] rfl rfl (any_of HT_.out J4) (fun _ _ _ h => h) (Or.inl ⟨J28, ?_⟩) ?_ ?_
            rotate_left
            · exact pz0
            rotate_left
            · exact pz1
            refine pure_ (i := 2) (N := some 77) (v := ?_) (a' := ?_) #[Y,Y,Y,Z,Z,Z,Z,Z,Z,Z,Z,Z,Z,Z,Z,Z,Z,Z,Z,Z,Z,Z,Z,Z,Z,Z,Z,Z,Z,Z,Z,Z] rfl rfl (any_of HT_.out J4) (fun _ _ _ h => h) (Or.inl ⟨J28, ?_⟩) ?_ ?_
            rotate_left
            · exact pz0
            rotate_left
            · exact pz1
            refine pure_ (i := 3) (N := some 78) (v := ?_) (a' := ?_) #[Y,Y,Y,Y,Z,Z,Z,Z,Z,Z,Z,Z,Z,Z,Z,Z,Z,Z,Z,Z,Z,Z,Z,Z,Z,Z,Z,Z,Z,Z,Z,Z] rfl rfl (any_of HT_.out J4) (fun _ _ _ h => h) (Or.inl ⟨J28, ?_⟩) ?_ ?_
            rotate_left
            · exact pz0
            rotate_left
            · exact pz1
            refine pure_ (i := 4) (N := some 79) (v := ?_) (a' := ?_) #[Y,Y,Y,Y,Y,Z,Z,Z,Z,Z,Z,Z,Z,Z,Z,Z,Z,Z,Z,Z,Z,Z,Z,Z,Z,Z,Z,Z,Z,Z,Z,Z] rfl rfl (any_of HT_.out J4) (fun _ _ _ h => h) (Or.inl ⟨J28, ?_⟩) ?_ ?_
            rotate_left
            · exact pz0
            rotate_left
            · exact pz1
            refine pure_ (i := 5) (N := some 80) (v := ?_) (a' := ?_) #[Y,Y,Y,Y,Y,Y,Z,Z,Z,Z,Z,Z,Z,Z,Z,Z,Z,Z,Z,Z,Z,Z,Z,Z,Z,Z,Z,Z,Z,Z,Z,Z] rfl rfl (any_of HT_.out J4) (fun _ _ _ h => h) (Or.inl ⟨J28, ?_⟩) ?_ ?_
            rotate_left
            · exact pz0
            rotate_left
            · exact pz1
            refine pure_ (i := 6) (N := some 81) (v := ?_) (a' := ?_) #[Y,Y,Y,Y,Y,Y,Y,Z,Z,Z,Z,Z,Z,Z,Z,Z,Z,Z,Z,Z,Z,Z,Z,Z,Z,Z,Z,Z,Z,Z,Z,Z] rfl rfl (any_of HT_.out J4) (fun _ _ _ h => h) (Or.inl ⟨J28, ?_⟩) ?_ ?_
            rotate_left
            · exact pz0
            rotate_left
            · exact pz1
            refine pure_ (i := 7) (N := some 82) (v := ?_) (a' := ?_) #[Y,Y,Y,Y,Y,Y,Y,Y,Z,Z,Z,Z,Z,Z,Z,Z,Z,Z,Z,Z,Z,Z,Z,Z,Z,Z,Z,Z,Z,Z,Z,Z] rfl rfl (any_of HT_.out J4) (fun _ _ _ h => h) (Or.inl ⟨J28, ?_⟩) ?_ ?_
            rotate_left
            · exact pz0
            rotate_left
            · exact pz1
            refine pure_ (i := 8) (N := some 83) (v := ?_) (a' := ?_) #[Y,Y,Y,Y,Y,Y,Y,Y,Y,Z,Z,Z,Z,Z,Z,Z,Z,Z,Z,Z,Z,Z,Z,Z,Z,Z,Z,Z,Z,Z,Z,Z] rfl rfl (any_of HT_.out J4) (fun _ _ _ h => h) (Or.inl ⟨J28, ?_⟩) ?_ ?_
            rotate_left
            · exact pz0
            rotate_left
            · exact pz1
            refine pure_ (i := 9) (N := some 84) (v := ?_) (a' := ?_) #[Y,Y,Y,Y,Y,Y,Y,Y,Y,Y,Z,Z,Z,Z,Z,Z,Z,Z,Z,Z,Z,Z,Z,Z,Z,Z,Z,Z,Z,Z,Z,Z] rfl rfl (any_of HT_.out J4) (fun _ _ _ h => h) (Or.inl ⟨J28, ?_⟩) ?_ ?_
            rotate_left
            · exact pz0
            rotate_left
            · exact pz1
            refine pure_ (i := 11) (N := some 86) (v := ?_) (a' := ?_) #[Y,Y,Y,Y,Y,Y,Y,Y,Y,Y,Z,Y,Z,Z,Z,Z,Z,Z,Z,Z,Z,Z,Z,Z,Z,Z,Z,Z,Z,Z,Z,Z] rfl rfl (any_of HT_.out J4) (fun _ _ _ h => h) (Or.inl ⟨J28, ?_⟩) ?_ ?_
            rotate_left
            · exact pz0
            rotate_left
            · exact pz1
            refine pure_ (i := 12) (N := some 87) (v := ?_) (a' := ?_) #[Y,Y,Y,Y,Y,Y,Y,Y,Y,Y,Z,Y,Y,Z,Z,Z,Z,Z,Z,Z,Z,Z,Z,Z,Z,Z,Z,Z,Z,Z,Z,Z] rfl rfl (any_of HT_.out J4) (fun _ _ _ h => h) (Or.inl ⟨J28, ?_⟩) ?_ ?_
            rotate_left
            · exact pz0
            rotate_left
            · exact pz1
            refine pure_ (i := 13) (N := some 88) (v := ?_) (a' := ?_) #[Y,Y,Y,Y,Y,Y,Y,Y,Y,Y,Z,Y,Y,Y,Z,Z,Z,Z,Z,Z,Z,Z,Z,Z,Z,Z,Z,Z,Z,Z,Z,Z] rfl rfl (any_of HT_.out J4) (fun _ _ _ h => h) (Or.inl ⟨J28, ?_⟩) ?_ ?_
            rotate_left
            · exact pz0
            rotate_left
            · exact pz1
            refine take_ (i := 10) (N := some 85) (v := ?_) (a' := ?_) #[Y,Y,Y,Y,Y,Y,Y,Y,Y,Y,Y,Y,Y,Y,Z,Z,Z,Z,Z,Z,Z,Z,Z,Z,Z,Z,Z,Z,Z,Z,Z,Z] rfl rfl (take_ofW HT_.out HW_.out J4) (fun _ _ _ h => h) (Or.inl ⟨J28, ?_⟩) hHeld ?_ ?_
            rotate_left
            · rintro w' ⟨s0, s1, s2, s3, s4, s5, s6, s7, s8, s9, s10, s11⟩
              go_simp
              with_reducible rfl
            rotate_left
            · exact pz1
            refine take_ (i := 14) (N := some 89) (v := ?_) (a' := ?_) #[Y,Y,Y,Y,Y,Y,Y,Y,Y,Y,Y,Y,Y,Y,Y,Z,Z,Z,Z,Z,Z,Z,Z,Z,Z,Z,Z,Z,Z,Z,Z,Z] rfl rfl (take_ofW HT_.out HW_.out J4) (fun _ _ _ h => h) (Or.inl ⟨J28, ?_⟩) hHeld ?_ ?_
            rotate_left
            · rintro w' ⟨s0, s1, s2, s3, s4, s5, s6, s7, s8, s9, s10, s11⟩
              go_simp
              with_reducible rfl
            rotate_left
            · exact pz1
            refine one_ (i := 15) (N := some 90) #[Y,Y,Y,Y,Y,Y,Y,Y,Y,Y,Y,Y,Y,Y,Y,Y,Z,Z,Z,Z,Z,Z,Z,Z,Z,Z,Z,Z,Z,Z,Z,Z] rfl rfl (one_of HT_.out J4) J17 (fun K hK => ?_)
            refine goes_ Try.func21 J4 rfl #[.slice A605_2 ((rd_T30 l0 0).f2).length c605_2, .slice A606_2 ((rd_T30 t591 0).f2).length c606_2] J28 rfl rfl J1 ?_
            with_reducible refine (deckleref01_Same.calls kj9 _ _ ((rd_T30 l0 0).f2) _ _ ((rd_T30 t591 0).f2) true _ ?side1 ?side2 ?side3 ?side4 A38.out).mono ?_
            (case side1 => exact zc (Kd.C_below HR605_2.out HB.out))
            (case side2 => exact HC605_2.out)
            (case side3 => repeat (first | exact J87 | (with_reducible refine Kd.C_alloc ?_ _) | (with_reducible refine Kd.C_drewN ?_ _) | (with_reducible refine Kd.C_drew ?_)))
            (case side4 => exact HC606_2.out)
            rintro e w' ⟨rfl, ⟨nd, rfl⟩⟩
            refine ⟨_, rfl, ?_⟩
            refine hK.out _ _ ⟨((HB.out.cell (World.block_lt_of_cell? w _ hw605_0)).trans hw605_0), ((HB.out.cell (World.block_lt_of_cell? w _ hw605_1)).trans hw605_1), ((HB.out.cell (World.block_lt_of_cell? w _ hw605_2)).trans hw605_2), ((HB.out.cell (World.block_lt_of_cell? w _ hw605_3)).trans hw605_3), hHeld.2.2.2.2.1, hHeld.2.2.2.2.2.1, hHeld.2.2.2.2.2.2.1, hHeld.2.2.2.2.2.2.2.1, hHeld.2.2.2.2.2.2.2.2.1, hHeld.2.2.2.2.2.2.2.2.2.1, hHeld.2.2.2.2.2.2.2.2.2.2.1, hHeld.2.2.2.2.2.2.2.2.2.2.2⟩ (fun hHeld => ?_)
            clear hK K
            refine norm_ (a' := ?_) ?_ ?_
            rotate_left
            · show Act.put _ (some 90) _ = _
              simp only [Act.put, List.setIfInBounds_toArray, List.set_cons_zero, List.set_cons_succ, i64_w, i32_w]
              rfl
            refine pure_ (i := 16) (N := some 91) (v := ?_) (a' := ?_) #[Y,Y,Y,Y,Y,Y,Y,Y,Y,Y,Y,Y,Y,Y,Y,Y,Y,Z,Z,Z,Z,Z,Z,Z,Z,Z,Z,Z,Z,Z,Z,Z] rfl rfl (any_of HT_.out J4) (fun _ _ _ h => h) (Or.inl ⟨J28, ?_⟩) ?_ ?_
            rotate_left
            · exact pz0
            rotate_left
            · exact pz1
            refine pure_ (i := 17) (N := some 92) (v := ?_) (a' := ?_) #[Y,Y,Y,Y,Y,Y,Y,Y,Y,Y,Y,Y,Y,Y,Y,Y,Y,Y,Z,Z,Z,Z,Z,Z,Z,Z,Z,Z,Z,Z,Z,Z] rfl rfl (any_of HT_.out J4) (fun _ _ _ h => h) (Or.inl ⟨J28, ?_⟩) ?_ ?_
            rotate_left
            · exact pz0
            rotate_left
            · exact pz1
            refine pure_ (i := 18) (N := some 93) (v := ?_) (a' := ?_) #[Y,Y,Y,Y,Y,Y,Y,Y,Y,Y,Y,Y,Y,Y,Y,Y,Y,Y,Y,Z,Z,Z,Z,Z,Z,Z,Z,Z,Z,Z,Z,Z] rfl rfl (any_of HT_.out J4) (fun _ _ _ h => h) (Or.inl ⟨J28, ?_⟩) ?_ ?_
            rotate_left
            · exact pz0
            rotate_left
            · exact pz1
            refine pure_ (i := 19) (N := some 94) (v := ?_) (a' := ?_) #[Y,Y,Y,Y,Y,Y,Y,Y,Y,Y,Y,Y,Y,Y,Y,Y,Y,Y,Y,Y,Z,Z,Z,Z,Z,Z,Z,Z,Z,Z,Z,Z] rfl rfl (any_of HT_.out J4) (fun _ _ _ h => h) (Or.inl ⟨J28, ?_⟩) ?_ ?_
            rotate_left
            · exact pz0
            rotate_left
            · exact pz1
            refine pure_ (i := 20) (N := some 95) (v := ?_) (a' := ?_) #[Y,Y,Y,Y,Y,Y,Y,Y,Y,Y,Y,Y,Y,Y,Y,Y,Y,Y,Y,Y,Y,Z,Z,Z,Z,Z,Z,Z,Z,Z,Z,Z] rfl rfl (any_of HT_.out J4) (fun _ _ _ h => h) (Or.inl ⟨J28, ?_⟩) ?_ ?_
            rotate_left
            · exact pz0
            rotate_left
            · exact pz1
            refine take_ (i := 21) (N := some 96) (v := ?_) (a' := ?_) #[Y,Y,Y,Y,Y,Y,Y,Y,Y,Y,Y,Y,Y,Y,Y,Y,Y,Y,Y,Y,Y,Y,Z,Z,Z,Z,Z,Z,Z,Z,Z,Z] rfl rfl (take_ofW HT_.out HW_.out J4) (fun _ _ _ h => h) (Or.inl ⟨J28, ?_⟩) hHeld ?_ ?_
            rotate_left
            · rintro w' ⟨s0, s1, s2, s3, s4, s5, s6, s7, s8, s9, s10, s11⟩
              go_simp
              with_reducible rfl
            rotate_left
            · exact pz1
            refine pure_ (i := 22) (N := some 97) (v := ?_) (a' := ?_) #[Y,Y,Y,Y,Y,Y,Y,Y,Y,Y,Y,Y,Y,Y,Y,Y,Y,Y,Y,Y,Y,Y,Y,Z,Z,Z,Z,Z,Z,Z,Z,Z] rfl rfl (any_of HT_.out J4) (fun _ _ _ h => h) (Or.inl ⟨J28, ?_⟩) ?_ ?_
            rotate_left
            · exact pz0
            rotate_left
            · exact pz1
            refine pure_ (i := 23) (N := some 98) (v := ?_) (a' := ?_) #[Y,Y,Y,Y,Y,Y,Y,Y,Y,Y,Y,Y,Y,Y,Y,Y,Y,Y,Y,Y,Y,Y,Y,Y,Z,Z,Z,Z,Z,Z,Z,Z] rfl rfl (any_of HT_.out J4) (fun _ _ _ h => h) (Or.inl ⟨J28, ?_⟩) ?_ ?_
            rotate_left
            · exact pz0
            rotate_left
            · exact pz1
            refine pure_ (i := 24) (N := some 99) (v := undef) (a' := ?_) #[Y,Y,Y,Y,Y,Y,Y,Y,Y,Y,Y,Y,Y,Y,Y,Y,Y,Y,Y,Y,Y,Y,Y,Y,Y,Z,Z,Z,Z,Z,Z,Z] rfl rfl (any_of HT_.out J4) (fun _ _ _ h => h) (Or.inr ⟨J28, rfl⟩) ?_ ?_
            rotate_left
            · exact pz1
            refine pure_ (i := 25) (N := some 100) (v := undef) (a' := ?_) #[Y,Y,Y,Y,Y,Y,Y,Y,Y,Y,Y,Y,Y,Y,Y,Y,Y,Y,Y,Y,Y,Y,Y,Y,Y,Y,Z,Z,Z,Z,Z,Z] rfl rfl (any_of HT_.out J4) (fun _ _ _ h => h) (Or.inr ⟨J28, rfl⟩) ?_ ?_
            rotate_left
            · exact pz1
            refine pure_ (i := 26) (N := some 101) (v := undef) (a' := ?_) #[Y,Y,Y,Y,Y,Y,Y,Y,Y,Y,Y,Y,Y,Y,Y,Y,Y,Y,Y,Y,Y,Y,Y,Y,Y,Y,Y,Z,Z,Z,Z,Z] rfl rfl (any_of HT_.out J4) (fun _ _ _ h => h) (Or.inr ⟨J28, rfl⟩) ?_ ?_
            rotate_left
            · exact pz1
            refine pure_ (i := 27) (N := some 102) (v := undef) (a' := ?_) #[Y,Y,Y,Y,Y,Y,Y,Y,Y,Y,Y,Y,Y,Y,Y,Y,Y,Y,Y,Y,Y,Y,Y,Y,Y,Y,Y,Y,Z,Z,Z,Z] rfl rfl (any_of HT_.out J4) (fun _ _ _ h => h) (Or.inr ⟨J28, rfl⟩) ?_ ?_
            rotate_left
            · exact pz1
            refine pure_ (i := 28) (N := some 103) (v := undef) (a' := ?_) #[Y,Y,Y,Y,Y,Y,Y,Y,Y,Y,Y,Y,Y,Y,Y,Y,Y,Y,Y,Y,Y,Y,Y,Y,Y,Y,Y,Y,Y,Z,Z,Z] rfl rfl (any_of HT_.out J4) (fun _ _ _ h => h) (Or.inr ⟨J28, rfl⟩) ?_ ?_
            rotate_left
            · exact pz1
            refine pure_ (i := 29) (N := some 104) (v := ?_) (a' := ?_) #[Y,Y,Y,Y,Y,Y,Y,Y,Y,Y,Y,Y,Y,Y,Y,Y,Y,Y,Y,Y,Y,Y,Y,Y,Y,Y,Y,Y,Y,Y,Z,Z] rfl rfl (any_of HT_.out J4) (fun _ _ _ h => h) (Or.inl ⟨J28, ?_⟩) ?_ ?_
            rotate_left
            · exact pz0
            rotate_left
            · exact pz1
            refine pure_ (i := 30) (N := some 105) (v := ?_) (a' := ?_) #[Y,Y,Y,Y,Y,Y,Y,Y,Y,Y,Y,Y,Y,Y,Y,Y,Y,Y,Y,Y,Y,Y,Y,Y,Y,Y,Y,Y,Y,Y,Y,Z] rfl rfl (any_of HT_.out J4) (fun _ _ _ h => h) (Or.inl ⟨J28, ?_⟩) ?_ ?_
            rotate_left
            · exact pz0
            rotate_left
            · exact pz1
            refine pure_ (i := 31) (N := some 2) (v := ?_) (a' := ?_) #[Y,Y,Y,Y,Y,Y,Y,Y,Y,Y,Y,Y,Y,Y,Y,Y,Y,Y,Y,Y,Y,Y,Y,Y,Y,Y,Y,Y,Y,Y,Y,Y] rfl rfl (any_of HT_.out J4) (fun _ _ _ h => h) (Or.inl ⟨J28, ?_⟩) ?_ ?_
            rotate_left
            · exact pz0
            rotate_left
            · exact pz1
            refine done_ (done_of HT_.out J4) ?_
            try go_wp2
            go_ret
            exact ⟨J3, J0⟩
          rw [if_neg c40] at H
          have c40b0 : (((rd_T30 t591 0).f0) == 1) = false := beq_eq_false_iff_ne.mpr c40
          have c40b1 : (((rd_T30 t591 0).f0) != 1) = true := bne_iff_ne.mpr c40
          obtain rfl := Option.some.inj H
          have p598 : 0 ≤ (0 : Int) := J15
          have q598 : 0 < (l0.length : Int) := of_decide_eq_true J2
          obtain ⟨ad598, A598_1, c598_1, A598_2, c598_2, A598_3, c598_3, e598, hx598_0, hx598_1, hx598_2, hx598_3, hl598_1, hi598_1, hl598_2, hi598_2, hl598_3, hi598_3⟩ := at_T30 HR0.out 0 p598 q598
          cases e598
          have qi598 : (0 < l0.length) = True := eq_true J15
          (try rw [show ((0 : Int)).toNat = 0 from rfl] at hx598_0)
          (try rw [show 0 * 4 = 0 from rfl] at hx598_0)
          (try rw [Addr.add_zero'] at hx598_0)
          (try rw [show ((0 : Int)).toNat = 0 from rfl] at hx598_1)
          (try rw [show 0 * 4 = 0 from rfl] at hx598_1)
          (try rw [Addr.add_zero'] at hx598_1)
          (try rw [show ((0 : Int)).toNat = 0 from rfl] at hx598_2)
          (try rw [show 0 * 4 = 0 from rfl] at hx598_2)
          (try rw [Addr.add_zero'] at hx598_2)
          (try rw [show ((0 : Int)).toNat = 0 from rfl] at hx598_3)
          (try rw [show 0 * 4 = 0 from rfl] at hx598_3)
          (try rw [Addr.add_zero'] at hx598_3)
          replace hx598_0 := (HB.out.cell (World.block_lt_of_cell? w _ hx598_0)).trans hx598_0
          replace hx598_1 := (HB.out.cell (World.block_lt_of_cell? w _ hx598_1)).trans hx598_1
          replace hx598_2 := (HB.out.cell (World.block_lt_of_cell? w _ hx598_2)).trans hx598_2
          replace hx598_3 := (HB.out.cell (World.block_lt_of_cell? w _ hx598_3)).trans hx598_3
          have HR598_1 := zq hi598_1
          have HC598_1 := zq hl598_1
          clear hi598_1 hl598_1
          have HR598_2 := zq hi598_2
          have HC598_2 := zq hl598_2
          clear hi598_2 hl598_2
          have HR598_3 := zq hi598_3
          have HC598_3 := zq hl598_3
          clear hi598_3 hl598_3
          replace p598 := eq_true p598
          replace q598 := eq_true q598
          have p604 : 0 ≤ (0 : Int) := J15
          have q604 : 0 < (l0.length : Int) := of_decide_eq_true J2
          obtain ⟨ad604, A604_1, c604_1, A604_2, c604_2, A604_3, c604_3, e604, hx604_0, hx604_1, hx604_2, hx604_3, hl604_1, hi604_1, hl604_2, hi604_2, hl604_3, hi604_3⟩ := at_T30 HR0.out 0 p604 q604
          obtain rfl : ad598 = ad604 := (by injection e604)
          have qi604 : (0 < l0.length) = True := eq_true J15
          (try rw [show ((0 : Int)).toNat = 0 from rfl] at hx604_0)
          (try rw [show 0 * 4 = 0 from rfl] at hx604_0)
          (try rw [Addr.add_zero'] at hx604_0)
          (try rw [show ((0 : Int)).toNat = 0 from rfl] at hx604_1)
          (try rw [show 0 * 4 = 0 from rfl] at hx604_1)
          (try rw [Addr.add_zero'] at hx604_1)
          (try rw [show ((0 : Int)).toNat = 0 from rfl] at hx604_2)
          (try rw [show 0 * 4 = 0 from rfl] at hx604_2)
          (try rw [Addr.add_zero'] at hx604_2)
          (try rw [show ((0 : Int)).toNat = 0 from rfl] at hx604_3)
          (try rw [show 0 * 4 = 0 from rfl] at hx604_3)
          (try rw [Addr.add_zero'] at hx604_3)
          replace hx604_0 := (HB.out.cell (World.block_lt_of_cell? w _ hx604_0)).trans hx604_0
          replace hx604_1 := (HB.out.cell (World.block_lt_of_cell? w _ hx604_1)).trans hx604_1
          replace hx604_2 := (HB.out.cell (World.block_lt_of_cell? w _ hx604_2)).trans hx604_2
          replace hx604_3 := (HB.out.cell (World.block_lt_of_cell? w _ hx604_3)).trans hx604_3
          have HR604_1 := zq hi604_1
          have HC604_1 := zq hl604_1
          clear hi604_1 hl604_1
          have HR604_2 := zq hi604_2
          have HC604_2 := zq hl604_2
          clear hi604_2 hl604_2
          have HR604_3 := zq hi604_3
          have HC604_3 := zq hl604_3
          clear hi604_3 hl604_3
          replace p604 := eq_true p604
          replace q604 := eq_true q604
          have ea_ := Option.some.inj (hx598_1.symm.trans hx604_1)
          injection ea_ with ea_ en_ ec_
          subst ea_
          subst ec_
          clear en_
          have ea_ := Option.some.inj (hx598_2.symm.trans hx604_2)
          injection ea_ with ea_ en_ ec_
          subst ea_
          subst ec_
          clear en_
          have ea_ := Option.some.inj (hx598_3.symm.trans hx604_3)
          injection ea_ with ea_ en_ ec_
          subst ea_
          subst ec_
          clear en_
          try go_wp2
          replace HO_5 := zq (Kd.N_drew HO_5.out)
          replace HB := zq (below_drew1 HB.out)
          obtain ⟨Ao44, co44, eo44⟩ := Kd.N_slice HO_5.out
          (first | subst eo44 | (injection eo44 with f1_ f2_ f3_; have f4_ := f1_.symm; have f5_ := f3_.symm; clear f1_ f2_ f3_; subst f4_; subst f5_))
          have p605 : 0 ≤ (0 : Int) := J15
          have q605 : 0 < (l0.length : Int) := of_decide_eq_true J2
          obtain ⟨ad605, A605_1, c605_1, A605_2, c605_2, A605_3, c605_3, e605, hx605_0, hx605_1, hx605_2, hx605_3, hl605_1, hi605_1, hl605_2, hi605_2, hl605_3, hi605_3⟩ := at_T30 HR0.out 0 p605 q605
          have hw605_3 := hx605_3
          (try rw [show ((0 : Int)).toNat = 0 from rfl] at hw605_3)
          (try rw [show 0 * 4 = 0 from rfl] at hw605_3)
          (try rw [Addr.add_zero'] at hw605_3)
          have hw605_2 := hx605_2
          (try rw [show ((0 : Int)).toNat = 0 from rfl] at hw605_2)
          (try rw [show 0 * 4 = 0 from rfl] at hw605_2)
          (try rw [Addr.add_zero'] at hw605_2)
          have hw605_1 := hx605_1
          (try rw [show ((0 : Int)).toNat = 0 from rfl] at hw605_1)
          (try rw [show 0 * 4 = 0 from rfl] at hw605_1)
          (try rw [Addr.add_zero'] at hw605_1)
          have hw605_0 := hx605_0
          (try rw [show ((0 : Int)).toNat = 0 from rfl] at hw605_0)
          (try rw [show 0 * 4 = 0 from rfl] at hw605_0)
          (try rw [Addr.add_zero'] at hw605_0)
          obtain rfl : ad598 = ad605 := (by injection e605)
          have qi605 : (0 < l0.length) = True := eq_true J15
          (try rw [show ((0 : Int)).toNat = 0 from rfl] at hx605_0)
          (try rw [show 0 * 4 = 0 from rfl] at hx605_0)
          (try rw [Addr.add_zero'] at hx605_0)
          (try rw [show ((0 : Int)).toNat = 0 from rfl] at hx605_1)
          (try rw [show 0 * 4 = 0 from rfl] at hx605_1)
          (try rw [Addr.add_zero'] at hx605_1)
          (try rw [show ((0 : Int)).toNat = 0 from rfl] at hx605_2)
          (try rw [show 0 * 4 = 0 from rfl] at hx605_2)
          (try rw [Addr.add_zero'] at hx605_2)
          (try rw [show ((0 : Int)).toNat = 0 from rfl] at hx605_3)
          (try rw [show 0 * 4 = 0 from rfl] at hx605_3)
          (try rw [Addr.add_zero'] at hx605_3)
          replace hx605_0 := (HB.out.cell (World.block_lt_of_cell? w _ hx605_0)).trans hx605_0
          replace hx605_1 := (HB.out.cell (World.block_lt_of_cell? w _ hx605_1)).trans hx605_1
          replace hx605_2 := (HB.out.cell (World.block_lt_of_cell? w _ hx605_2)).trans hx605_2
          replace hx605_3 := (HB.out.cell (World.block_lt_of_cell? w _ hx605_3)).trans hx605_3
          have HR605_1 := zq hi605_1
          have HC605_1 := zq hl605_1
          clear hi605_1 hl605_1
          have HR605_2 := zq hi605_2
          have HC605_2 := zq hl605_2
          clear hi605_2 hl605_2
          have HR605_3 := zq hi605_3
          have HC605_3 := zq hl605_3
          clear hi605_3 hl605_3
          replace p605 := eq_true p605
          replace q605 := eq_true q605
          have p606 : 0 ≤ (0 : Int) := J15
          have q606 : 0 < (t591.length : Int) := of_decide_eq_true J2
          obtain ⟨ad606, A606_1, c606_1, A606_2, c606_2, A606_3, c606_3, e606, hx606_0, hx606_1, hx606_2, hx606_3, hl606_1, hi606_1, hl606_2, hi606_2, hl606_3, hi606_3⟩ := at_T30 (Kd.N_reads' HO_5.out).2.2 0 p606 q606
          cases e606
          obtain ⟨ce606, hce606, hMe606, hcc606⟩ := Kd.N_get HO_5.out z30 0 p606 (by first | exact q606 | exact of_decide_eq_true J2 | (have e_ := (Kd.N_reads' HO_5.out).1; omega))
          obtain ⟨ua606_1, uc606_1, ua606_2, uc606_2, ua606_3, uc606_3, rfl, ul606_1, ge606_1, ul606_2, ge606_2, ul606_3, ge606_3⟩ := k30_openF hMe606
          have hv606_1 := hcc606 1 _ rfl
          rw [add_field _ _ 1 J15] at hv606_1
          replace hv606_1 := Option.some.inj (hv606_1.symm.trans hx606_1)
          injection hv606_1 with hva_ hvn_ hvc_
          rw [hva_] at ge606_1
          rw [hvc_] at ul606_1
          have HL606_1 := zq (show Kd.V (Kd.int .i64) 3 _ w.heap.size _ _ ((rd_T30 t591 0).f1) from Kd.V_mk ul606_1 ge606_1)
          clear hva_ hvn_ hvc_ ge606_1 ul606_1
          have hv606_2 := hcc606 2 _ rfl
          rw [add_field _ _ 2 J15] at hv606_2
          replace hv606_2 := Option.some.inj (hv606_2.symm.trans hx606_2)
          injection hv606_2 with hva_ hvn_ hvc_
          rw [hva_] at ge606_2
          rw [hvc_] at ul606_2
          have HL606_2 := zq (show Kd.V (Kd.int .i64) 3 _ w.heap.size _ _ ((rd_T30 t591 0).f2) from Kd.V_mk ul606_2 ge606_2)
          clear hva_ hvn_ hvc_ ge606_2 ul606_2
          have hv606_3 := hcc606 3 _ rfl
          rw [add_field _ _ 3 J15] at hv606_3
          replace hv606_3 := Option.some.inj (hv606_3.symm.trans hx606_3)
          injection hv606_3 with hva_ hvn_ hvc_
          rw [hva_] at ge606_3
          rw [hvc_] at ul606_3
          have HL606_3 := zq (show Kd.V k38 38 _ w.heap.size _ _ ((rd_T30 t591 0).f3) from Kd.V_mk ul606_3 ge606_3)
          clear hva_ hvn_ hvc_ ge606_3 ul606_3
          clear hcc606 hce606
          have qi606 : (0 < t591.length) = True := eq_true J15
          (try rw [show ((0 : Int)).toNat = 0 from rfl] at hx606_0)
          (try rw [show 0 * 4 = 0 from rfl] at hx606_0)
          (try rw [Addr.add_zero'] at hx606_0)
          (try rw [show ((0 : Int)).toNat = 0 from rfl] at hx606_1)
          (try rw [show 0 * 4 = 0 from rfl] at hx606_1)
          (try rw [Addr.add_zero'] at hx606_1)
          (try rw [show ((0 : Int)).toNat = 0 from rfl] at hx606_2)
          (try rw [show 0 * 4 = 0 from rfl] at hx606_2)
          (try rw [Addr.add_zero'] at hx606_2)
          (try rw [show ((0 : Int)).toNat = 0 from rfl] at hx606_3)
          (try rw [show 0 * 4 = 0 from rfl] at hx606_3)
          (try rw [Addr.add_zero'] at hx606_3)
          have HR606_1 := zq hi606_1
          have HC606_1 := zq hl606_1
          clear hi606_1 hl606_1
          have HR606_2 := zq hi606_2
          have HC606_2 := zq hl606_2
          clear hi606_2 hl606_2
          have HR606_3 := zq hi606_3
          have HC606_3 := zq hl606_3
          clear hi606_3 hl606_3
          replace p606 := eq_true p606
          replace q606 := eq_true q606
          have p608 : 0 ≤ (0 : Int) := J15
          have q608 : 0 < (t591.length : Int) := of_decide_eq_true J2
          obtain ⟨ad608, A608_1, c608_1, A608_2, c608_2, A608_3, c608_3, e608, hx608_0, hx608_1, hx608_2, hx608_3, hl608_1, hi608_1, hl608_2, hi608_2, hl608_3, hi608_3⟩ := at_T30 (Kd.N_reads' HO_5.out).2.2 0 p608 q608
          obtain rfl : ad606 = ad608 := (by injection e608)
          obtain ⟨ce608, hce608, hMe608, hcc608⟩ := Kd.N_get HO_5.out z30 0 p608 (by first | exact q608 | exact of_decide_eq_true J2 | (have e_ := (Kd.N_reads' HO_5.out).1; omega))
          obtain ⟨ua608_1, uc608_1, ua608_2, uc608_2, ua608_3, uc608_3, rfl, ul608_1, ge608_1, ul608_2, ge608_2, ul608_3, ge608_3⟩ := k30_openF hMe608
          have hv608_1 := hcc608 1 _ rfl
          rw [add_field _ _ 1 J15] at hv608_1
          replace hv608_1 := Option.some.inj (hv608_1.symm.trans hx608_1)
          injection hv608_1 with hva_ hvn_ hvc_
          rw [hva_] at ge608_1
          rw [hvc_] at ul608_1
          have HL608_1 := zq (show Kd.V (Kd.int .i64) 3 _ w.heap.size _ _ ((rd_T30 t591 0).f1) from Kd.V_mk ul608_1 ge608_1)
          clear hva_ hvn_ hvc_ ge608_1 ul608_1
          have hv608_2 := hcc608 2 _ rfl
          rw [add_field _ _ 2 J15] at hv608_2
          replace hv608_2 := Option.some.inj (hv608_2.symm.trans hx608_2)
          injection hv608_2 with hva_ hvn_ hvc_
          rw [hva_] at ge608_2
          rw [hvc_] at ul608_2
          have HL608_2 := zq (show Kd.V (Kd.int .i64) 3 _ w.heap.size _ _ ((rd_T30 t591 0).f2) from Kd.V_mk ul608_2 ge608_2)
          clear hva_ hvn_ hvc_ ge608_2 ul608_2
          have hv608_3 := hcc608 3 _ rfl
          rw [add_field _ _ 3 J15] at hv608_3
          replace hv608_3 := Option.some.inj (hv608_3.symm.trans hx608_3)
          injection hv608_3 with hva_ hvn_ hvc_
          rw [hva_] at ge608_3
          rw [hvc_] at ul608_3
          have HL608_3 := zq (show Kd.V k38 38 _ w.heap.size _ _ ((rd_T30 t591 0).f3) from Kd.V_mk ul608_3 ge608_3)
          clear hva_ hvn_ hvc_ ge608_3 ul608_3
          clear hcc608 hce608
          have qi608 : (0 < t591.length) = True := eq_true J15
          (try rw [show ((0 : Int)).toNat = 0 from rfl] at hx608_0)
          (try rw [show 0 * 4 = 0 from rfl] at hx608_0)
          (try rw [Addr.add_zero'] at hx608_0)
          (try rw [show ((0 : Int)).toNat = 0 from rfl] at hx608_1)
          (try rw [show 0 * 4 = 0 from rfl] at hx608_1)
          (try rw [Addr.add_zero'] at hx608_1)
          (try rw [show ((0 : Int)).toNat = 0 from rfl] at hx608_2)
          (try rw [show 0 * 4 = 0 from rfl] at hx608_2)
          (try rw [Addr.add_zero'] at hx608_2)
          (try rw [show ((0 : Int)).toNat = 0 from rfl] at hx608_3)
          (try rw [show 0 * 4 = 0 from rfl] at hx608_3)
          (try rw [Addr.add_zero'] at hx608_3)
          have HR608_1 := zq hi608_1
          have HC608_1 := zq hl608_1
          clear hi608_1 hl608_1
          have HR608_2 := zq hi608_2
          have HC608_2 := zq hl608_2
          clear hi608_2 hl608_2
          have HR608_3 := zq hi608_3
          have HC608_3 := zq hl608_3
          clear hi608_3 hl608_3
          replace p608 := eq_true p608
          replace q608 := eq_true q608
          have ea_ := Option.some.inj (hx606_1.symm.trans hx608_1)
          injection ea_ with ea_ en_ ec_
          subst ea_
          subst ec_
          clear en_
          have ea_ := Option.some.inj (hx606_2.symm.trans hx608_2)
          injection ea_ with ea_ en_ ec_
          subst ea_
          subst ec_
          clear en_
          have ea_ := Option.some.inj (hx606_3.symm.trans hx608_3)
          injection ea_ with ea_ en_ ec_
          subst ea_
          subst ec_
          clear en_
          have p609 : 0 ≤ (0 : Int) := J15
          have q609 : 0 < (t591.length : Int) := of_decide_eq_true J2
          obtain ⟨ad609, A609_1, c609_1, A609_2, c609_2, A609_3, c609_3, e609, hx609_0, hx609_1, hx609_2, hx609_3, hl609_1, hi609_1, hl609_2, hi609_2, hl609_3, hi609_3⟩ := at_T30 (Kd.N_reads' HO_5.out).2.2 0 p609 q609
          obtain rfl : ad606 = ad609 := (by injection e609)
          obtain ⟨ce609, hce609, hMe609, hcc609⟩ := Kd.N_get HO_5.out z30 0 p609 (by first | exact q609 | exact of_decide_eq_true J2 | (have e_ := (Kd.N_reads' HO_5.out).1; omega))
          obtain ⟨ua609_1, uc609_1, ua609_2, uc609_2, ua609_3, uc609_3, rfl, ul609_1, ge609_1, ul609_2, ge609_2, ul609_3, ge609_3⟩ := k30_openF hMe609
          have hv609_1 := hcc609 1 _ rfl
          rw [add_field _ _ 1 J15] at hv609_1
          replace hv609_1 := Option.some.inj (hv609_1.symm.trans hx609_1)
          injection hv609_1 with hva_ hvn_ hvc_
          rw [hva_] at ge609_1
          rw [hvc_] at ul609_1
          have HL609_1 := zq (show Kd.V (Kd.int .i64) 3 _ w.heap.size _ _ ((rd_T30 t591 0).f1) from Kd.V_mk ul609_1 ge609_1)
          clear hva_ hvn_ hvc_ ge609_1 ul609_1
          have hv609_2 := hcc609 2 _ rfl
          rw [add_field _ _ 2 J15] at hv609_2
          replace hv609_2 := Option.some.inj (hv609_2.symm.trans hx609_2)
          injection hv609_2 with hva_ hvn_ hvc_
          rw [hva_] at ge609_2
          rw [hvc_] at ul609_2
          have HL609_2 := zq (show Kd.V (Kd.int .i64) 3 _ w.heap.size _ _ ((rd_T30 t591 0).f2) from Kd.V_mk ul609_2 ge609_2)
          clear hva_ hvn_ hvc_ ge609_2 ul609_2
          have hv609_3 := hcc609 3 _ rfl
          rw [add_field _ _ 3 J15] at hv609_3
          replace hv609_3 := Option.some.inj (hv609_3.symm.trans hx609_3)
          injection hv609_3 with hva_ hvn_ hvc_
          rw [hva_] at ge609_3
          rw [hvc_] at ul609_3
          have HL609_3 := zq (show Kd.V k38 38 _ w.heap.size _ _ ((rd_T30 t591 0).f3) from Kd.V_mk ul609_3 ge609_3)
          clear hva_ hvn_ hvc_ ge609_3 ul609_3
          clear hcc609 hce609
          have qi609 : (0 < t591.length) = True := eq_true J15
          (try rw [show ((0 : Int)).toNat = 0 from rfl] at hx609_0)
          (try rw [show 0 * 4 = 0 from rfl] at hx609_0)
          (try rw [Addr.add_zero'] at hx609_0)
          (try rw [show ((0 : Int)).toNat = 0 from rfl] at hx609_1)
          (try rw [show 0 * 4 = 0 from rfl] at hx609_1)
          (try rw [Addr.add_zero'] at hx609_1)
          (try rw [show ((0 : Int)).toNat = 0 from rfl] at hx609_2)
          (try rw [show 0 * 4 = 0 from rfl] at hx609_2)
          (try rw [Addr.add_zero'] at hx609_2)
          (try rw [show ((0 : Int)).toNat = 0 from rfl] at hx609_3)
          (try rw [show 0 * 4 = 0 from rfl] at hx609_3)
          (try rw [Addr.add_zero'] at hx609_3)
          have HR609_1 := zq hi609_1
          have HC609_1 := zq hl609_1
          clear hi609_1 hl609_1
          have HR609_2 := zq hi609_2
          have HC609_2 := zq hl609_2
          clear hi609_2 hl609_2
          have HR609_3 := zq hi609_3
          have HC609_3 := zq hl609_3
          clear hi609_3 hl609_3
          replace p609 := eq_true p609
          replace q609 := eq_true q609
          have ea_ := Option.some.inj (hx606_1.symm.trans hx609_1)
          injection ea_ with ea_ en_ ec_
          subst ea_
          subst ec_
          clear en_
          have ea_ := Option.some.inj (hx606_2.symm.trans hx609_2)
          injection ea_ with ea_ en_ ec_
          subst ea_
          subst ec_
          clear en_
          have ea_ := Option.some.inj (hx606_3.symm.trans hx609_3)
          injection ea_ with ea_ en_ ec_
          subst ea_
          subst ec_
          clear en_
          refine start_ (n := 32) (S := fun w' => w'.cell? ad598 = some (.int .i64 ((rd_T30 l0 0).f0)) ∧ w'.cell? ⟨ad598.block, ad598.off + 1, none⟩ = some (.slice A605_1 ((rd_T30 l0 0).f1).length c605_1) ∧ w'.cell? ⟨ad598.block, ad598.off + 2, none⟩ = some (.slice A605_2 ((rd_T30 l0 0).f2).length c605_2) ∧ w'.cell? ⟨ad598.block, ad598.off + 3, none⟩ = some (.slice A605_3 ((rd_T30 l0 0).f3).length c605_3) ∧ w'.cell? ad606 = some (.int .i64 ((rd_T30 t591 0).f0)) ∧ w'.cell? ⟨ad606.block, ad606.off + 1, none⟩ = some (.slice A606_1 ((rd_T30 t591 0).f1).length c606_1) ∧ w'.cell? ⟨ad606.block, ad606.off + 2, none⟩ = some (.slice A606_2 ((rd_T30 t591 0).f2).length c606_2) ∧ w'.cell? ⟨ad606.block, ad606.off + 3, none⟩ = some (.slice A606_3 ((rd_T30 t591 0).f3).length c606_3) ∧ w'.cell? ad606 = some (.int .i64 ((rd_T30 t591 0).f0)) ∧ w'.cell? ⟨ad606.block, ad606.off + 1, none⟩ = some (.slice A606_1 ((rd_T30 t591 0).f1).length c606_1) ∧ w'.cell? ⟨ad606.block, ad606.off + 2, none⟩ = some (.slice A606_2 ((rd_T30 t591 0).f2).length c606_2) ∧ w'.cell? ⟨ad606.block, ad606.off + 3, none⟩ = some (.slice A606_3 ((rd_T30 t591 0).f3).length c606_3) ∧ w'.cell? ad606 = some (.int .i64 ((rd_T30 t591 0).f0)) ∧ w'.cell? ⟨ad606.block, ad606.off + 1, none⟩ = some (.slice A606_1 ((rd_T30 t591 0).f1).length c606_1) ∧ w'.cell? ⟨ad606.block, ad606.off + 2, none⟩ = some (.slice A606_2 ((rd_T30 t591 0).f2).length c606_2) ∧ w'.cell? ⟨ad606.block, ad606.off + 3, none⟩ = some (.slice A606_3 ((rd_T30 t591 0).f3).length c606_3)) (ds := []) #[Z,Z,Z,Z,Z,Z,Z,Z,Z,Z,Z,Z,Z,Z,Z,Z,Z,Z,Z,Z,Z,Z,Z,Z,Z,Z,Z,Z,Z,Z,Z,Z] J4 rfl rfl ⟨((HB.out.cell (World.block_lt_of_cell? w _ hw605_0)).trans hw605_0), ((HB.out.cell (World.block_lt_of_cell? w _ hw605_1)).trans hw605_1), ((HB.out.cell (World.block_lt_of_cell? w _ hw605_2)).trans hw605_2), ((HB.out.cell (World.block_lt_of_cell? w _ hw605_3)).trans hw605_3), hx606_0, hx606_1, hx606_2, hx606_3, hx608_0, hx608_1, hx608_2, hx608_3, hx609_0, hx609_1, hx609_2, hx609_3⟩ (fun hHeld => ?_); refine with_tabW decklelaw11_TightShape.tab10 decklelaw11_TightShape.bits10 (fun HT_ HW_ => ?_)
          generalize wc.drew = w43 at HO_5 HB HL606_1 HL606_2 HL606_3 HL608_1 HL608_2 HL608_3 HL609_1 HL609_2 HL609_3 HR605_1 HR605_2 HR605_3 HR606_1 HR606_2 HR606_3 HR608_1 HR608_2 HR608_3 HR609_1 HR609_2 HR609_3 hx605_0 hx605_1 hx605_2 hx605_3 hx606_0 hx606_1 hx606_2 hx606_3 hx608_0 hx608_1 hx608_2 hx608_3 hx609_0 hx609_1 hx609_2 hx609_3 hHeld ⊢
          refine pure_ (i := 0) (N := some 75) (v := ?_) (a' := ?_) #[Y,Z,Z,Z,Z,Z,Z,Z,Z,Z,Z,Z,Z,Z,Z,Z,Z,Z,Z,Z,Z,Z,Z,Z,Z,Z,Z,Z,Z,Z,Z,Z] rfl rfl (any_of HT_.out J4) (fun _ _ _ h => h) (Or.inl ⟨J28, ?_⟩) ?_ ?_
          rotate_left
          · exact pz0
          rotate_left
          · exact pz1
          refine pure_ (i := 1) (N := some 76) (v := ?_) (a' := ?_) #[Y,Y,Z,Z,Z,Z,Z,Z,Z,Z,Z,Z,Z,Z,Z,Z,Z,Z,Z,Z,Z,Z,Z,Z,Z,Z,Z,Z,Z,Z,Z,Z] rfl rfl (any_of HT_.out J4) (fun _ _ _ h => h) (Or.inl ⟨J28, ?_⟩) ?_ ?_
          rotate_left
          · exact pz0
          rotate_left
          · exact pz1
          refine pure_ (i := 2) (N := some 77) (v := ?_) (a' := ?_) #[Y,Y,Y,Z,Z,Z,Z,Z,Z,Z,Z,Z,Z,Z,Z,Z,Z,Z,Z,Z,Z,Z,Z,Z,Z,Z,Z,Z,Z,Z,Z,Z] rfl rfl (any_of HT_.out J4) (fun _ _ _ h => h) (Or.inl ⟨J28, ?_⟩) ?_ ?_
          rotate_left
          · exact pz0
          rotate_left
          · exact pz1
          refine pure_ (i := 3) (N := some 78) (v := ?_) (a' := ?_) #[Y,Y,Y,Y,Z,Z,Z,Z,Z,Z,Z,Z,Z,Z,Z,Z,Z,Z,Z,Z,Z,Z,Z,Z,Z,Z,Z,Z,Z,Z,Z,Z] rfl rfl (any_of HT_.out J4) (fun _ _ _ h => h) (Or.inl ⟨J28, ?_⟩) ?_ ?_
          rotate_left
          · exact pz0
          rotate_left
          · exact pz1
          refine pure_ (i := 4) (N := some 79) (v := ?_) (a' := ?_) #[Y,Y,Y,Y,Y,Z,Z,Z,Z,Z,Z,Z,Z,Z,Z,Z,Z,Z,Z,Z,Z,Z,Z,Z,Z,Z,Z,Z,Z,Z,Z,Z] rfl rfl (any_of HT_.out J4) (fun _ _ _ h => h) (Or.inl ⟨J28, ?_⟩) ?_ ?_
          rotate_left
          · exact pz0
          rotate_left
          · exact pz1
          refine pure_ (i := 5) (N := some 80) (v := ?_) (a' := ?_) #[Y,Y,Y,Y,Y,Y,Z,Z,Z,Z,Z,Z,Z,Z,Z,Z,Z,Z,Z,Z,Z,Z,Z,Z,Z,Z,Z,Z,Z,Z,Z,Z] rfl rfl (any_of HT_.out J4) (fun _ _ _ h => h) (Or.inl ⟨J28, ?_⟩) ?_ ?_
          rotate_left
          · exact pz0
          rotate_left
          · exact pz1
          refine pure_ (i := 6) (N := some 81) (v := ?_) (a' := ?_) #[Y,Y,Y,Y,Y,Y,Y,Z,Z,Z,Z,Z,Z,Z,Z,Z,Z,Z,Z,Z,Z,Z,Z,Z,Z,Z,Z,Z,Z,Z,Z,Z] rfl rfl (any_of HT_.out J4) (fun _ _ _ h => h) (Or.inl ⟨J28, ?_⟩) ?_ ?_
          rotate_left
          · exact pz0
          rotate_left
          · exact pz1
          refine pure_ (i := 7) (N := some 82) (v := ?_) (a' := ?_) #[Y,Y,Y,Y,Y,Y,Y,Y,Z,Z,Z,Z,Z,Z,Z,Z,Z,Z,Z,Z,Z,Z,Z,Z,Z,Z,Z,Z,Z,Z,Z,Z] rfl rfl (any_of HT_.out J4) (fun _ _ _ h => h) (Or.inl ⟨J28, ?_⟩) ?_ ?_
          rotate_left
          · exact pz0
          rotate_left
          · exact pz1
          refine pure_ (i := 8) (N := some 83) (v := ?_) (a' := ?_) #[Y,Y,Y,Y,Y,Y,Y,Y,Y,Z,Z,Z,Z,Z,Z,Z,Z,Z,Z,Z,Z,Z,Z,Z,Z,Z,Z,Z,Z,Z,Z,Z] rfl rfl (any_of HT_.out J4) (fun _ _ _ h => h) (Or.inl ⟨J28, ?_⟩) ?_ ?_
          rotate_left
          · exact pz0
          rotate_left
          · exact pz1
          refine pure_ (i := 9) (N := some 84) (v := ?_) (a' := ?_) #[Y,Y,Y,Y,Y,Y,Y,Y,Y,Y,Z,Z,Z,Z,Z,Z,Z,Z,Z,Z,Z,Z,Z,Z,Z,Z,Z,Z,Z,Z,Z,Z] rfl rfl (any_of HT_.out J4) (fun _ _ _ h => h) (Or.inl ⟨J28, ?_⟩) ?_ ?_
          rotate_left
          · exact pz0
          rotate_left
          · exact pz1
          refine pure_ (i := 11) (N := some 86) (v := ?_) (a' := ?_) #[Y,Y,Y,Y,Y,Y,Y,Y,Y,Y,Z,Y,Z,Z,Z,Z,Z,Z,Z,Z,Z,Z,Z,Z,Z,Z,Z,Z,Z,Z,Z,Z] rfl rfl (any_of HT_.out J4) (fun _ _ _ h => h) (Or.inl ⟨J28, ?_⟩) ?_ ?_
          rotate_left
          · exact pz0
          rotate_left
          · exact pz1
          refine pure_ (i := 12) (N := some 87) (v := ?_) (a' := ?_) #[Y,Y,Y,Y,Y,Y,Y,Y,Y,Y,Z,Y,Y,Z,Z,Z,Z,Z,Z,Z,Z,Z,Z,Z,Z,Z,Z,Z,Z,Z,Z,Z] rfl rfl (any_of HT_.out J4) (fun _ _ _ h => h) (Or.inl ⟨J28, ?_⟩) ?_ ?_
          rotate_left
          · exact pz0
          rotate_left
          · exact pz1
          refine pure_ (i := 13) (N := some 88) (v := ?_) (a' := ?_) #[Y,Y,Y,Y,Y,Y,Y,Y,Y,Y,Z,Y,Y,Y,Z,Z,Z,Z,Z,Z,Z,Z,Z,Z,Z,Z,Z,Z,Z,Z,Z,Z] rfl rfl (any_of HT_.out J4) (fun _ _ _ h => h) (Or.inl ⟨J28, ?_⟩) ?_ ?_
          rotate_left
          · exact pz0
          rotate_left
          · exact pz1
          refine take_ (i := 10) (N := some 85) (v := ?_) (a' := ?_) #[Y,Y,Y,Y,Y,Y,Y,Y,Y,Y,Y,Y,Y,Y,Z,Z,Z,Z,Z,Z,Z,Z,Z,Z,Z,Z,Z,Z,Z,Z,Z,Z] rfl rfl (take_ofW HT_.out HW_.out J4) (fun _ _ _ h => h) (Or.inl ⟨J28, ?_⟩) hHeld ?_ ?_
          rotate_left
          · rintro w' ⟨s0, s1, s2, s3, s4, s5, s6, s7, s8, s9, s10, s11, s12, s13, s14, s15⟩
            go_simp
            with_reducible rfl
          rotate_left
          · exact pz1
          refine take_ (i := 14) (N := some 89) (v := ?_) (a' := ?_) #[Y,Y,Y,Y,Y,Y,Y,Y,Y,Y,Y,Y,Y,Y,Y,Z,Z,Z,Z,Z,Z,Z,Z,Z,Z,Z,Z,Z,Z,Z,Z,Z] rfl rfl (take_ofW HT_.out HW_.out J4) (fun _ _ _ h => h) (Or.inl ⟨J28, ?_⟩) hHeld ?_ ?_
          rotate_left
          · rintro w' ⟨s0, s1, s2, s3, s4, s5, s6, s7, s8, s9, s10, s11, s12, s13, s14, s15⟩
            go_simp
            with_reducible rfl
          rotate_left
          · exact pz1
          refine one_ (i := 15) (N := some 90) #[Y,Y,Y,Y,Y,Y,Y,Y,Y,Y,Y,Y,Y,Y,Y,Y,Z,Z,Z,Z,Z,Z,Z,Z,Z,Z,Z,Z,Z,Z,Z,Z] rfl rfl (one_of HT_.out J4) J17 (fun K hK => ?_)
          refine goes_ Try.func21 J4 rfl #[.slice A605_2 ((rd_T30 l0 0).f2).length c605_2, .slice A606_2 ((rd_T30 t591 0).f2).length c606_2] J28 rfl rfl J1 ?_
          with_reducible refine (deckleref01_Same.calls kj9 _ _ ((rd_T30 l0 0).f2) _ _ ((rd_T30 t591 0).f2) true _ ?side1 ?side2 ?side3 ?side4 A38.out).mono ?_
          (case side1 => exact zc (Kd.C_below HR605_2.out HB.out))
          (case side2 => exact HC605_2.out)
          (case side3 => repeat (first | exact J87 | (with_reducible refine Kd.C_alloc ?_ _) | (with_reducible refine Kd.C_drewN ?_ _) | (with_reducible refine Kd.C_drew ?_)))
          (case side4 => exact HC606_2.out)
          rintro e w' ⟨rfl, ⟨nd, rfl⟩⟩
          refine ⟨_, rfl, ?_⟩
          refine hK.out _ _ ⟨((HB.out.cell (World.block_lt_of_cell? w _ hw605_0)).trans hw605_0), ((HB.out.cell (World.block_lt_of_cell? w _ hw605_1)).trans hw605_1), ((HB.out.cell (World.block_lt_of_cell? w _ hw605_2)).trans hw605_2), ((HB.out.cell (World.block_lt_of_cell? w _ hw605_3)).trans hw605_3), hHeld.2.2.2.2.1, hHeld.2.2.2.2.2.1, hHeld.2.2.2.2.2.2.1, hHeld.2.2.2.2.2.2.2.1, hHeld.2.2.2.2.2.2.2.2.1, hHeld.2.2.2.2.2.2.2.2.2.1, hHeld.2.2.2.2.2.2.2.2.2.2.1, hHeld.2.2.2.2.2.2.2.2.2.2.2.1, hHeld.2.2.2.2.2.2.2.2.2.2.2.2.1, hHeld.2.2.2.2.2.2.2.2.2.2.2.2.2.1, hHeld.2.2.2.2.2.2.2.2.2.2.2.2.2.2.1, hHeld.2.2.2.2.2.2.2.2.2.2.2.2.2.2.2⟩ (fun hHeld => ?_)
          clear hK K
          refine norm_ (a' := ?_) ?_ ?_
          rotate_left
          · show Act.put _ (some 90) _ = _
            simp only [Act.put, List.setIfInBounds_toArray, List.set_cons_zero, List.set_cons_succ, i64_w, i32_w]
            rfl
          refine pure_ (i := 16) (N := some 91) (v := ?_) (a' := ?_) #[Y,Y,Y,Y,Y,Y,Y,Y,Y,Y,Y,Y,Y,Y,Y,Y,Y,Z,Z,Z,Z,Z,Z,Z,Z,Z,Z,Z,Z,Z,Z,Z] rfl rfl (any_of HT_.out J4) (fun _ _ _ h => h) (Or.inl ⟨J28, ?_⟩) ?_ ?_
          rotate_left
          · exact pz0
          rotate_left
          · exact pz1
          refine pure_ (i := 17) (N := some 92) (v := ?_) (a' := ?_) #[Y,Y,Y,Y,Y,Y,Y,Y,Y,Y,Y,Y,Y,Y,Y,Y,Y,Y,Z,Z,Z,Z,Z,Z,Z,Z,Z,Z,Z,Z,Z,Z] rfl rfl (any_of HT_.out J4) (fun _ _ _ h => h) (Or.inl ⟨J28, ?_⟩) ?_ ?_
          rotate_left
          · exact pz0
          rotate_left
          · exact pz1
          refine pure_ (i := 18) (N := some 93) (v := ?_) (a' := ?_) #[Y,Y,Y,Y,Y,Y,Y,Y,Y,Y,Y,Y,Y,Y,Y,Y,Y,Y,Y,Z,Z,Z,Z,Z,Z,Z,Z,Z,Z,Z,Z,Z] rfl rfl (any_of HT_.out J4) (fun _ _ _ h => h) (Or.inl ⟨J28, ?_⟩) ?_ ?_
          rotate_left
          · exact pz0
          rotate_left
          · exact pz1
          refine pure_ (i := 19) (N := some 94) (v := ?_) (a' := ?_) #[Y,Y,Y,Y,Y,Y,Y,Y,Y,Y,Y,Y,Y,Y,Y,Y,Y,Y,Y,Y,Z,Z,Z,Z,Z,Z,Z,Z,Z,Z,Z,Z] rfl rfl (any_of HT_.out J4) (fun _ _ _ h => h) (Or.inl ⟨J28, ?_⟩) ?_ ?_
          rotate_left
          · exact pz0
          rotate_left
          · exact pz1
          refine pure_ (i := 20) (N := some 95) (v := ?_) (a' := ?_) #[Y,Y,Y,Y,Y,Y,Y,Y,Y,Y,Y,Y,Y,Y,Y,Y,Y,Y,Y,Y,Y,Z,Z,Z,Z,Z,Z,Z,Z,Z,Z,Z] rfl rfl (any_of HT_.out J4) (fun _ _ _ h => h) (Or.inl ⟨J28, ?_⟩) ?_ ?_
          rotate_left
          · exact pz0
          rotate_left
          · exact pz1
          refine take_ (i := 21) (N := some 96) (v := ?_) (a' := ?_) #[Y,Y,Y,Y,Y,Y,Y,Y,Y,Y,Y,Y,Y,Y,Y,Y,Y,Y,Y,Y,Y,Y,Z,Z,Z,Z,Z,Z,Z,Z,Z,Z] rfl rfl (take_ofW HT_.out HW_.out J4) (fun _ _ _ h => h) (Or.inl ⟨J28, ?_⟩) hHeld ?_ ?_
          rotate_left
          · rintro w' ⟨s0, s1, s2, s3, s4, s5, s6, s7, s8, s9, s10, s11, s12, s13, s14, s15⟩
            go_simp
            with_reducible rfl
          rotate_left
          · exact pz1
          refine pure_ (i := 22) (N := some 97) (v := ?_) (a' := ?_) #[Y,Y,Y,Y,Y,Y,Y,Y,Y,Y,Y,Y,Y,Y,Y,Y,Y,Y,Y,Y,Y,Y,Y,Z,Z,Z,Z,Z,Z,Z,Z,Z] rfl rfl (any_of HT_.out J4) (fun _ _ _ h => h) (Or.inl ⟨J28, ?_⟩) ?_ ?_
          rotate_left
          · exact pz0
          rotate_left
          · exact pz1
          refine pure_ (i := 23) (N := some 98) (v := ?_) (a' := ?_) #[Y,Y,Y,Y,Y,Y,Y,Y,Y,Y,Y,Y,Y,Y,Y,Y,Y,Y,Y,Y,Y,Y,Y,Y,Z,Z,Z,Z,Z,Z,Z,Z] rfl rfl (any_of HT_.out J4) (fun _ _ _ h => h) (Or.inl ⟨J28, ?_⟩) ?_ ?_
          rotate_left
          · exact pz0
          rotate_left
          · exact pz1
          refine pure_ (i := 24) (N := some 99) (v := ?_) (a' := ?_) #[Y,Y,Y,Y,Y,Y,Y,Y,Y,Y,Y,Y,Y,Y,Y,Y,Y,Y,Y,Y,Y,Y,Y,Y,Y,Z,Z,Z,Z,Z,Z,Z] rfl rfl (any_of HT_.out J4) (fun _ _ _ h => h) (Or.inl ⟨J28, ?_⟩) ?_ ?_
          rotate_left
          · exact pz0
          rotate_left
          · exact pz1
          refine pure_ (i := 25) (N := some 100) (v := ?_) (a' := ?_) #[Y,Y,Y,Y,Y,Y,Y,Y,Y,Y,Y,Y,Y,Y,Y,Y,Y,Y,Y,Y,Y,Y,Y,Y,Y,Y,Z,Z,Z,Z,Z,Z] rfl rfl (any_of HT_.out J4) (fun _ _ _ h => h) (Or.inl ⟨J28, ?_⟩) ?_ ?_
          rotate_left
          · exact pz0
          rotate_left
          · exact pz1
          refine pure_ (i := 26) (N := some 101) (v := ?_) (a' := ?_) #[Y,Y,Y,Y,Y,Y,Y,Y,Y,Y,Y,Y,Y,Y,Y,Y,Y,Y,Y,Y,Y,Y,Y,Y,Y,Y,Y,Z,Z,Z,Z,Z] rfl rfl (any_of HT_.out J4) (fun _ _ _ h => h) (Or.inl ⟨J28, ?_⟩) ?_ ?_
          rotate_left
          · exact pz0
          rotate_left
          · exact pz1
          refine take_ (i := 27) (N := some 102) (v := ?_) (a' := ?_) #[Y,Y,Y,Y,Y,Y,Y,Y,Y,Y,Y,Y,Y,Y,Y,Y,Y,Y,Y,Y,Y,Y,Y,Y,Y,Y,Y,Y,Z,Z,Z,Z] rfl rfl (take_ofW HT_.out HW_.out J4) (fun _ _ _ h => h) (Or.inl ⟨J28, ?_⟩) hHeld ?_ ?_
          rotate_left
          · rintro w' ⟨s0, s1, s2, s3, s4, s5, s6, s7, s8, s9, s10, s11, s12, s13, s14, s15⟩
            go_simp
            with_reducible rfl
          rotate_left
          · exact pz1
          refine pure_ (i := 28) (N := some 103) (v := ?_) (a' := ?_) #[Y,Y,Y,Y,Y,Y,Y,Y,Y,Y,Y,Y,Y,Y,Y,Y,Y,Y,Y,Y,Y,Y,Y,Y,Y,Y,Y,Y,Y,Z,Z,Z] rfl rfl (any_of HT_.out J4) (fun _ _ _ h => h) (Or.inl ⟨J28, ?_⟩) ?_ ?_
          rotate_left
          · exact pz0
          rotate_left
          · exact pz1
          refine pure_ (i := 29) (N := some 104) (v := ?_) (a' := ?_) #[Y,Y,Y,Y,Y,Y,Y,Y,Y,Y,Y,Y,Y,Y,Y,Y,Y,Y,Y,Y,Y,Y,Y,Y,Y,Y,Y,Y,Y,Y,Z,Z] rfl rfl (any_of HT_.out J4) (fun _ _ _ h => h) (Or.inl ⟨J28, ?_⟩) ?_ ?_
          rotate_left
          · exact pz0
          rotate_left
          · exact pz1
          refine pure_ (i := 30) (N := some 105) (v := ?_) (a' := ?_) #[Y,Y,Y,Y,Y,Y,Y,Y,Y,Y,Y,Y,Y,Y,Y,Y,Y,Y,Y,Y,Y,Y,Y,Y,Y,Y,Y,Y,Y,Y,Y,Z] rfl rfl (any_of HT_.out J4) (fun _ _ _ h => h) (Or.inl ⟨J28, ?_⟩) ?_ ?_
          rotate_left
          · exact pz0
          rotate_left
          · exact pz1
          refine pure_ (i := 31) (N := some 2) (v := ?_) (a' := ?_) #[Y,Y,Y,Y,Y,Y,Y,Y,Y,Y,Y,Y,Y,Y,Y,Y,Y,Y,Y,Y,Y,Y,Y,Y,Y,Y,Y,Y,Y,Y,Y,Y] rfl rfl (any_of HT_.out J4) (fun _ _ _ h => h) (Or.inl ⟨J28, ?_⟩) ?_ ?_
          rotate_left
          · exact pz0
          rotate_left
          · exact pz1
          refine done_ (done_of HT_.out J4) ?_
          try go_wp2
          go_ret
          exact ⟨J3, J0⟩
end Go.Proofs.Ytecdklheppcihaa.HTightNumbers
