/- What the Go functions of this claim answer, told as functions of numbers and lists, and that other memory stays as it was: words and walks, shortened by a program. -/
import Derived.Test.YtfjhiiaahbjaiaaDoorSSystemNumbersx0
import Derived.Test.YtfjhiiaahbjaiaaDoorSSystemNumbersx8
namespace Go.Proofs.YtfjhiiaahbjaiaaDoor.HSystemSigns
open Go.RowKit Go.Proofs.YtfjhiiaahbjaiaaDoorW.PrintWords Go.Proofs.YtfjhiiaahbjaiaaDoorW.PrintLast Go.Proofs.YtfjhiiaahbjaiaaDoorW.PrintMore
attribute [local go_sem] max2_int min2_int max_two min_two max_three min_three max_four min_four
set_option linter.unusedVariables false
set_option linter.unusedSimpArgs false
def utf8_ValidRune.j0 : Nat → Int → Bool → Option (Bool)
  | 0, _, _ => none
  | k + 1, x0, x3 => if x3 = true then (some true) else (if 57343 < x0 then (if x0 ≤ 1114111 then (some true) else (some false)) else (some false))
def utf8_ValidRune.f (k : Nat) (a0 : Int) : Option (Bool) := if 0 ≤ a0 then (utf8_ValidRune.j0 k a0 (decide (a0 < 55296))) else (utf8_ValidRune.j0 k a0 false)
theorem utf8_ValidRune.mono_l : ∀ k, (∀ y0 y1, LeO (utf8_ValidRune.j0 k y0 y1) (utf8_ValidRune.j0 (k + 1) y0 y1))
  | 0 => fun _ _ r h => by simp [utf8_ValidRune.j0] at h
  | k + 1 => by
    have ih0 := utf8_ValidRune.mono_l k
    · intro y0 y1
      unfold utf8_ValidRune.j0
      exact mz0
theorem utf8_ValidRune.mono : ∀ a0 k, LeO (utf8_ValidRune.f k a0) (utf8_ValidRune.f (k + 1) a0) := by
  intro a0 k
  have ih0 := utf8_ValidRune.mono_l k
  unfold utf8_ValidRune.f
  exact mz0
set_option maxHeartbeats 8000000 in
set_option maxRecDepth 100000 in
theorem utf8_ValidRune.calls (k : Nat) (a0 : Int) (r : Bool) (w : World) (h : utf8_ValidRune.f k a0 = some r) :
    Calls Tryd.prog 96 #[.int .i32 a0] w fun e w' => e = .returned (.bool r) ∧ Drawn0 w w' := by
  have H : (if 0 ≤ a0 then (utf8_ValidRune.j0 k a0 (decide (a0 < 55296))) else (utf8_ValidRune.j0 k a0 false)) = some r := h
  clear h
  have HC2 := zq H
  clear H
  go_enter Tryd.func96, Tryd.ntmps96
  go_upto_region 1 with (fail)
  go_cut [3] (fun v3 wc => ∃ (kq : Nat) (x3_1 : Bool), v3 = .bool x3_1 ∧ Aside0 (utf8_ValidRune.j0 kq a0 x3_1 = some r) ∧ Aside0 (kq ≤ k) ∧ Drawn0 w wc)
  case first =>
    have H := HC2.out
    clear HC2
    by_cases c3 : 0 ≤ a0
    rotate_left
    · rw [if_neg c3] at H
      have c3b0 := decide_eq_false c3
      clear c3
      (first | rw [c3b0] | (simp only [i64_w, i32_w]; rw [c3b0]) | skip)
      have H' := zq H
      clear H
      go_wp2
      go_meet
      case rel => exact ⟨_, (false), J4, H', ⟨J33⟩, J7⟩
    rw [if_pos c3] at H
    have c3b0 := decide_eq_true c3
    clear c3
    (first | rw [c3b0] | (simp only [i64_w, i32_w]; rw [c3b0]) | skip)
    have H' := zq H
    clear H
    go_wp2
    go_meet
    case rel => exact ⟨_, (decide (a0 < 55296)), J4, H', ⟨J33⟩, J7⟩
  case rest =>
    clear HC2
    try clear p2
    try clear c3
    try clear c3b0
    obtain ⟨kq, x3_1, rfl, HA, HJ1, ⟨mc1, rfl⟩⟩ := hcut
    cases kq with
    | zero => exact absurd HA.out (by simp [utf8_ValidRune.j0])
    | succ kj1 =>
      have H := HA.out
      clear HA
      simp only [utf8_ValidRune.j0] at H
      by_cases c4 : x3_1 = true
      · subst c4
        rw [if_pos rfl] at H
        obtain rfl := Option.some.inj H
        go_wp2
        go_ret
        exact ⟨J4, J7⟩
      replace c4 := Bool.eq_false_iff.mpr c4
      subst c4
      rw [if_neg (show ¬ (false = true) by decide)] at H
      by_cases c5 : 57343 < a0
      rotate_left
      · rw [if_neg c5] at H
        have c5b0 := decide_eq_false c5
        clear c5
        obtain rfl := Option.some.inj H
        go_wp2
        go_ret
        exact ⟨J4, J7⟩
      rw [if_pos c5] at H
      have c5b0 := decide_eq_true c5
      clear c5
      by_cases c6 : a0 ≤ 1114111
      rotate_left
      · rw [if_neg c6] at H
        have c6b0 := decide_eq_false c6
        clear c6
        obtain rfl := Option.some.inj H
        go_wp2
        go_ret
        exact ⟨J4, J7⟩
      rw [if_pos c6] at H
      have c6b0 := decide_eq_true c6
      clear c6
      obtain rfl := Option.some.inj H
      go_wp2
      go_ret
      exact ⟨J4, J7⟩
def array_fits.f (k : Nat) (a0 : Int) (a1 : Int) : Option (Bool) := if a0 = 1 then (some ((Go.bits .andNot .i64 a1 1) == 0)) else (if a0 = 2 then (some true) else (if a0 = 3 then (if a1 = (wrap64 (wrap32 (a1))) then ((utf8_ValidRune.f k (wrap32 (a1))).bind fun t229 => (some t229)) else (some false)) else (some false)))
theorem array_fits.mono : ∀ a0 a1 k, LeO (array_fits.f k a0 a1) (array_fits.f (k + 1) a0 a1) := by
  intro a0 a1 k
  unfold array_fits.f
  have im0 := @utf8_ValidRune.mono
  exact mz3
set_option maxHeartbeats 8000000 in
set_option maxRecDepth 100000 in
theorem array_fits.calls (k : Nat) (a0 : Int) (a1 : Int) (r : Bool) (w : World) (h : array_fits.f k a0 a1 = some r) :
    Calls Tryd.prog 89 #[.int .i64 a0, .int .i64 a1] w fun e w' => e = .returned (.bool r) ∧ Drawn0 w w' := by
  have H : (if a0 = 1 then (some ((Go.bits .andNot .i64 a1 1) == 0)) else (if a0 = 2 then (some true) else (if a0 = 3 then (if a1 = (wrap64 (wrap32 (a1))) then ((utf8_ValidRune.f k (wrap32 (a1))).bind fun t229 => (some t229)) else (some false)) else (some false)))) = some r := h
  clear h
  by_cases c3 : a0 = 1
  · rw [if_pos c3] at H
    have c3b0 : (a0 == 1) = true := beq_iff_eq.mpr c3
    have c3b1 : (a0 != 1) = false := bne_eq_false_iff_eq.mpr c3
    clear c3
    obtain rfl := Option.some.inj H
    go_enter Tryd.func89, Tryd.ntmps89
    go_wp2
    go_ret
    exact ⟨J4, J7⟩
  rw [if_neg c3] at H
  have c3b0 : (a0 == 1) = false := beq_eq_false_iff_ne.mpr c3
  have c3b1 : (a0 != 1) = true := bne_iff_ne.mpr c3
  by_cases c4 : a0 = 2
  · rw [if_pos c4] at H
    have c4b0 : (a0 == 2) = true := beq_iff_eq.mpr c4
    have c4b1 : (a0 != 2) = false := bne_eq_false_iff_eq.mpr c4
    clear c4
    obtain rfl := Option.some.inj H
    go_enter Tryd.func89, Tryd.ntmps89
    go_wp2
    go_ret
    exact ⟨J4, J7⟩
  rw [if_neg c4] at H
  have c4b0 : (a0 == 2) = false := beq_eq_false_iff_ne.mpr c4
  have c4b1 : (a0 != 2) = true := bne_iff_ne.mpr c4
  by_cases c5 : a0 = 3
  rotate_left
  · rw [if_neg c5] at H
    have c5b0 : (a0 == 3) = false := beq_eq_false_iff_ne.mpr c5
    have c5b1 : (a0 != 3) = true := bne_iff_ne.mpr c5
    obtain rfl := Option.some.inj H
    go_enter Tryd.func89, Tryd.ntmps89
    go_wp2
    go_ret
    exact ⟨J4, J7⟩
  rw [if_pos c5] at H
  have c5b0 : (a0 == 3) = true := beq_iff_eq.mpr c5
  have c5b1 : (a0 != 3) = false := bne_eq_false_iff_eq.mpr c5
  clear c5
  by_cases c6 : a1 = (wrap64 (wrap32 (a1)))
  rotate_left
  · rw [if_neg c6] at H
    have c6b0 : (a1 == (wrap64 (wrap32 (a1)))) = false := beq_eq_false_iff_ne.mpr c6
    have c6b1 : (a1 != (wrap64 (wrap32 (a1)))) = true := bne_iff_ne.mpr c6
    obtain rfl := Option.some.inj H
    go_enter Tryd.func89, Tryd.ntmps89
    go_wp2
    go_ret
    exact ⟨J4, J7⟩
  rw [if_pos c6] at H
  have c6b0 : (a1 == (wrap64 (wrap32 (a1)))) = true := beq_iff_eq.mpr c6
  have c6b1 : (a1 != (wrap64 (wrap32 (a1)))) = false := bne_eq_false_iff_eq.mpr c6
  clear c6
  replace H := Option.bind_eq_some_iff.mp H
  obtain ⟨t229, A70, H⟩ := H
  have A7 := zq A70
  clear A70
  obtain rfl := Option.some.inj H
  go_enter Tryd.func89, Tryd.ntmps89
  go_wp2_with (first | (go_at_call 96; (with_reducible refine (utf8_ValidRune.calls k (wrap32 (a1)) t229 _ A7.out).mono ?_); rintro e w' ⟨rfl, ⟨nd, rfl⟩⟩))
  go_ret
  exact ⟨J4, J7⟩
def array_items_1.f (k : Nat) (a0 : Int) (a1 : Int) : Option (Bool) := (array_fits.f k a1 a0).bind fun t230 => (some t230)
theorem array_items_1.mono : ∀ a0 a1 k, LeO (array_items_1.f k a0 a1) (array_items_1.f (k + 1) a0 a1) := by
  intro a0 a1 k
  unfold array_items_1.f
  have im0 := @array_fits.mono
  exact mz3
set_option maxHeartbeats 8000000 in
set_option maxRecDepth 100000 in
theorem array_items_1.calls (k : Nat) (a0 : Int) (a1 : Int) (gb_ : Nat) (r : Bool) (w : World) (hgb_ : w.cell? ⟨gb_, 0, none⟩ = some (.int .i64 a1)) (h : array_items_1.f k a0 a1 = some r) :
    Calls Tryd.prog 88 #[.int .i64 a0, .pointer (some ⟨gb_, 0, none⟩)] w fun e w' => e = .returned (.bool r) ∧ Drawn0 w w' := by
  have H : ((array_fits.f k a1 a0).bind fun t230 => (some t230)) = some r := h
  clear h
  replace H := Option.bind_eq_some_iff.mp H
  obtain ⟨t230, A30, H⟩ := H
  have A3 := zq A30
  clear A30
  obtain rfl := Option.some.inj H
  go_enter Tryd.func88, Tryd.ntmps88
  go_wp2_with (first | ((with_reducible refine gate_callee (f := 89) rfl ?_); refine goesL_ (some 7) rfl rfl Tryd.func89 J8 rfl #[.int .i64 a1, .int .i64 a0] rfl J1 ?_; (with_reducible refine (array_fits.calls k a1 a0 t230 _ A3.out).mono ?_); rintro e w' ⟨rfl, ⟨nd, rfl⟩⟩; refine ⟨_, rfl, ?_⟩))
  go_ret
  exact ⟨J4, J7⟩
theorem goesCv_ {P : Program} {ops : Array Oper} {Q : Exit → Act → World → Prop} {rest : List Oper} {oi : Oper} {a : Act} {w : World} (N : Option Tmp) (hd : oi.dst = N) (hg : oi.guard = none) {f : FuncId} {fn : Func} {as_ : Array Operand} {ts : Array TypeId} (hf : P.funcs[f]? = some fn) (hname : (fn.name == "runtime.NumGoroutine") = false) (hb : fn.body.isSome = true) (args cap all : Array Value) (hall : args ++ cap = all) (x : Operand)
    (hop : oi.op = .call { callee := .value x, args := as_, argTypes := ts }) (hx : a.eval x = .func (.func f) #[] cap) (hargs : as_.map a.eval = args)
    (h : Calls P f all w fun e w' => ∃ v, e = .returned v ∧ wpList P ops Q rest (a.put N v) w') : wpList P ops Q (oi :: rest) a w := by
  subst hall
  refine wpList_plain hg fun K hK => ?_
  have he := enters_ hf hname hb (args ++ cap) w
  have hrun : (execOp a.eval oi).run P w = .ok (.enter f (args ++ cap)) w := by
    unfold execOp
    simp [hop, hx, resolve, Deferred.ofValue, invoke, hargs, he]
  unfold Oper.wp
  rw [hrun, Oper.upon_enter]
  refine h.mono fun e w'' hh => ?_
  obtain ⟨v, rfl, hk⟩ := hh
  subst hd
  exact hK _ _ hk
def array_wrongs_int.l0 : Nat → Int → List Int → Int → Int → Option (Bool)
  | 0, _, _, _, _ => none
  | k + 1, x1, x7, x8, x9 => if x9 < x8 then (if 0 ≤ x9 then (if x9 < (x7.length : Int) then ((array_items_1.f k (rd x7 x9) x1).bind fun t232 => (if t232 = true then (array_wrongs_int.l0 k x1 x7 x8 (wrap64 (x9 + 1))) else (some true))) else (none)) else (none)) else (some false)
def array_wrongs_int.f (k : Nat) (l0 : List Int) (a1 : Int) : Option (Bool) := array_wrongs_int.l0 k a1 l0 (l0.length : Int) 0
theorem array_wrongs_int.mono_l : ∀ k, (∀ y0 y1 y2 y3, LeO (array_wrongs_int.l0 k y0 y1 y2 y3) (array_wrongs_int.l0 (k + 1) y0 y1 y2 y3))
  | 0 => fun _ _ _ _ r h => by simp [array_wrongs_int.l0] at h
  | k + 1 => by
    have ih0 := array_wrongs_int.mono_l k
    · intro y0 y1 y2 y3
      unfold array_wrongs_int.l0
      have im0 := @array_items_1.mono
      exact mz3
theorem array_wrongs_int.mono : ∀ a0 a1 k, LeO (array_wrongs_int.f k a0 a1) (array_wrongs_int.f (k + 1) a0 a1) := by
  intro a0 a1 k
  have ih0 := array_wrongs_int.mono_l k
  unfold array_wrongs_int.f
  have im0 := @array_items_1.mono
  exact mz3
set_option maxHeartbeats 8000000 in
set_option maxRecDepth 100000 in
theorem array_wrongs_int.calls (k : Nat) (A0 : Option Addr) (c0 : Nat) (l0 : List Int) (a1 : Int) (gb_ : Nat) (r : Bool) (w : World) (hgb_ : w.cell? ⟨gb_, 0, none⟩ = some (.int .i64 a1)) (hr0 : Kd.C (Kd.int .i64) w A0 l0.length l0) (hc0 : l0.length ≤ c0) (h : array_wrongs_int.f k l0 a1 = some r) :
    Calls Tryd.prog 90 #[.slice A0 l0.length c0, .func (.func 88) #[] #[.pointer (some ⟨gb_, 0, none⟩)]] w fun e w' => e = .returned (.bool r) ∧ Drawn0 w w' := by
  have HR0 := zq hr0
  have HC0 := zq hc0
  clear hr0 hc0
  have H : (array_wrongs_int.l0 k a1 l0 (l0.length : Int) 0) = some r := h
  clear h
  have H' := zq H
  clear H
  go_enter Tryd.func90, Tryd.ntmps90
  go_wp2
  go_loopg [9] k (fun kq v9 w' => ∃ (x9_1 : Int), v9 = .int .i64 x9_1 ∧ Aside0 (array_wrongs_int.l0 kq a1 l0 (l0.length : Int) x9_1 = some r) ∧ Aside0 (kq ≤ k) ∧ Drawn0 w w')
  case atStart => exact ⟨(0), J4, H', ⟨Nat.le_refl _⟩, J7⟩
  case round =>
    clear H'
    try clear p2
    obtain ⟨x9_1, rfl, HA, HK1, ⟨m1, rfl⟩⟩ := hrel
    cases gk with
    | zero => exact absurd HA.out (by simp [array_wrongs_int.l0])
    | succ k1 =>
      have H := HA.out
      clear HA
      simp only [array_wrongs_int.l0] at H
      by_cases c3 : x9_1 < (l0.length : Int)
      rotate_left
      · rw [if_neg c3] at H
        have c3b0 := decide_eq_false c3
        clear c3
        obtain rfl := Option.some.inj H
        go_wp2
        go_ret
        exact ⟨J4, J7⟩
      rw [if_pos c3] at H
      have c3b0 := decide_eq_true c3
      clear c3
      by_cases c4 : 0 ≤ x9_1
      rotate_left
      · rw [if_neg c4] at H
        exact absurd H J32
      rw [if_pos c4] at H
      have c4b0 := decide_eq_true c4
      clear c4
      by_cases c5 : x9_1 < (l0.length : Int)
      rotate_left
      · rw [if_neg c5] at H
        exact absurd H J32
      rw [if_pos c5] at H
      have c5b0 := decide_eq_true c5
      clear c5
      replace H := Option.bind_eq_some_iff.mp H
      obtain ⟨t232, A60, H⟩ := H
      have A6 := zq A60
      clear A60
      by_cases c7 : t232 = true
      rotate_left
      · replace c7 := Bool.eq_false_iff.mpr c7
        subst c7
        rw [if_neg (show ¬ (false = true) by decide)] at H
        obtain rfl := Option.some.inj H
        have p231 : 0 ≤ (x9_1 : Int) := of_decide_eq_true J3
        have q231 : x9_1 < (l0.length : Int) := of_decide_eq_true J3
        obtain ⟨ad231, e231, hx231_0⟩ := Kd.at_int HR0.out x9_1 p231 q231
        cases e231
        replace p231 := eq_true p231
        replace q231 := eq_true q231
        go_wp2_with (first | ((with_reducible refine gate_dst (N := 15) rfl ?_); refine goesCv_ (some 15) rfl rfl Tryd.func88 J8 rfl #[.int .i64 (rd l0 x9_1)] #[.pointer (some ⟨gb_, 0, none⟩)] #[.int .i64 (rd l0 x9_1), .pointer (some ⟨gb_, 0, none⟩)] rfl (.tmp 13) rfl rfl J1 ?_; (with_reducible refine (array_items_1.calls k1 (rd l0 x9_1) a1 gb_ false _ (by first | exact hgb_ | simpa using hgb_) A6.out).mono ?_); rintro e w' ⟨rfl, ⟨nd, rfl⟩⟩; refine ⟨_, rfl, ?_⟩))
        go_ret
        exact ⟨J4, J7⟩
      subst c7
      rw [if_pos rfl] at H
      have H' := zq H
      clear H
      have p231 : 0 ≤ (x9_1 : Int) := of_decide_eq_true J3
      have q231 : x9_1 < (l0.length : Int) := of_decide_eq_true J3
      obtain ⟨ad231, e231, hx231_0⟩ := Kd.at_int HR0.out x9_1 p231 q231
      cases e231
      replace p231 := eq_true p231
      replace q231 := eq_true q231
      go_wp2_with (first | ((with_reducible refine gate_dst (N := 15) rfl ?_); refine goesCv_ (some 15) rfl rfl Tryd.func88 J8 rfl #[.int .i64 (rd l0 x9_1)] #[.pointer (some ⟨gb_, 0, none⟩)] #[.int .i64 (rd l0 x9_1), .pointer (some ⟨gb_, 0, none⟩)] rfl (.tmp 13) rfl rfl J1 ?_; (with_reducible refine (array_items_1.calls k1 (rd l0 x9_1) a1 gb_ true _ (by first | exact hgb_ | simpa using hgb_) A6.out).mono ?_); rintro e w' ⟨rfl, ⟨nd, rfl⟩⟩; refine ⟨_, rfl, ?_⟩))
      go_roundg k1
      case measure => have := HK1.out; omega
      case rel => exact ⟨(wrap64 (x9_1 + 1)), J4, H', ⟨J73⟩, J7⟩
def api_Dec_91.l0 : Nat → List (S40) → Int → Int → Option (Bool)
  | 0, _, _, _ => none
  | k + 1, x7, x8, x9 => if x9 < x8 then (if 0 ≤ x9 then (if x9 < (x7.length : Int) then ((decimal_Right.f k ((rd_T40 x7 x9).f0) ((rd_T40 x7 x9).f1)).bind fun t235 => (if t235 = true then (api_Dec_91.l0 k x7 x8 (wrap64 (x9 + 1))) else (some true))) else (none)) else (none)) else (some false)
def api_Dec_91.f (k : Nat) (l0 : List (S40)) : Option (Bool) := api_Dec_91.l0 k l0 (l0.length : Int) 0
theorem api_Dec_91.mono_l : ∀ k, (∀ y0 y1 y2, LeO (api_Dec_91.l0 k y0 y1 y2) (api_Dec_91.l0 (k + 1) y0 y1 y2))
  | 0 => fun _ _ _ r h => by simp [api_Dec_91.l0] at h
  | k + 1 => by
    have ih0 := api_Dec_91.mono_l k
    · intro y0 y1 y2
      unfold api_Dec_91.l0
      have im0 := @decimal_Right.mono
      exact mz3
theorem api_Dec_91.mono : ∀ a0 k, LeO (api_Dec_91.f k a0) (api_Dec_91.f (k + 1) a0) := by
  intro a0 k
  have ih0 := api_Dec_91.mono_l k
  unfold api_Dec_91.f
  have im0 := @decimal_Right.mono
  exact mz3
set_option maxHeartbeats 8000000 in
set_option maxRecDepth 100000 in
theorem api_Dec_91.calls (k : Nat) (A0 : Option Addr) (c0 : Nat) (l0 : List (S40)) (r : Bool) (w : World) (hr0 : Kd.C k40 w A0 l0.length l0) (hc0 : l0.length ≤ c0) (h : api_Dec_91.f k l0 = some r) :
    Calls Tryd.prog 91 #[.slice A0 l0.length c0, .func (.func 28) #[] #[]] w fun e w' => e = .returned (.bool r) ∧ Below w.heap.size w w' := by
  have hu40 := Tryd.underlying40
  have HR0 := zq hr0
  have HC0 := zq hc0
  clear hr0 hc0
  have HB := zq (Below.refl w.heap.size w)
  have H : (api_Dec_91.l0 k l0 (l0.length : Int) 0) = some r := h
  clear h
  have H' := zq H
  clear H
  go_enter Tryd.func91, Tryd.ntmps91
  go_wp2
  go_loopg [9] k (fun kq v9 w' => ∃ (x9_1 : Int), v9 = .int .i64 x9_1 ∧ Aside0 (api_Dec_91.l0 kq l0 (l0.length : Int) x9_1 = some r) ∧ Aside0 (kq ≤ k) ∧ Aside0 (Below w.heap.size w w'))
  case atStart => exact ⟨(0), J4, H', ⟨Nat.le_refl _⟩, ⟨J0⟩⟩
  case round =>
    clear H'
    obtain ⟨x9_1, rfl, HA, HK1, HB⟩ := hrel
    cases gk with
    | zero => exact absurd HA.out (by simp [api_Dec_91.l0])
    | succ k1 =>
      have H := HA.out
      clear HA
      simp only [api_Dec_91.l0] at H
      by_cases c2 : x9_1 < (l0.length : Int)
      rotate_left
      · rw [if_neg c2] at H
        have c2b0 := decide_eq_false c2
        clear c2
        obtain rfl := Option.some.inj H
        go_wp2
        go_ret
        exact ⟨J2, J0⟩
      rw [if_pos c2] at H
      have c2b0 := decide_eq_true c2
      clear c2
      by_cases c3 : 0 ≤ x9_1
      rotate_left
      · rw [if_neg c3] at H
        exact absurd H J32
      rw [if_pos c3] at H
      have c3b0 := decide_eq_true c3
      clear c3
      by_cases c4 : x9_1 < (l0.length : Int)
      rotate_left
      · rw [if_neg c4] at H
        exact absurd H J32
      rw [if_pos c4] at H
      have c4b0 := decide_eq_true c4
      clear c4
      replace H := Option.bind_eq_some_iff.mp H
      obtain ⟨t235, A50, H⟩ := H
      have A5 := zq A50
      clear A50
      by_cases c6 : t235 = true
      rotate_left
      · replace c6 := Bool.eq_false_iff.mpr c6
        subst c6
        rw [if_neg (show ¬ (false = true) by decide)] at H
        obtain rfl := Option.some.inj H
        have p233 : 0 ≤ (x9_1 : Int) := of_decide_eq_true J3
        have q233 : x9_1 < (l0.length : Int) := of_decide_eq_true J3
        obtain ⟨ad233, e233, hx233_0, hx233_1⟩ := at_T40 HR0.out x9_1 p233 q233
        cases e233
        replace hx233_0 := (HB.out.cell (World.block_lt_of_cell? w _ hx233_0)).trans hx233_0
        replace hx233_1 := (HB.out.cell (World.block_lt_of_cell? w _ hx233_1)).trans hx233_1
        replace p233 := eq_true p233
        replace q233 := eq_true q233
        go_wp2_with (first | ((with_reducible refine gate_dst (N := 6) rfl ?_); refine bxw 6 40 #[.int .i64 0, .int .i64 0] ?_; intro gb234 hg w10 hbox hb; have BK234 := zq (hbox); have GE234 := zq ((J12 : w.heap.size ≤ gb234)); replace HB := zq (below_step J0 hb); clear hb hbox hg; obtain ⟨hcz11_0, hcz11_1, hfz11_0, hfz11_1⟩ := cz2 BK234.out) | ((with_reducible refine gate_dst (N := 15) rfl ?_); refine goesLv_ (some 15) rfl rfl Tryd.func28 J8 rfl #[.agg #[.int .i64 ((rd_T40 l0 x9_1).f0), .int .i64 ((rd_T40 l0 x9_1).f1)]] (.tmp 13) rfl rfl J1 ?_; (with_reducible refine (decimal_Right.calls k1 ((rd_T40 l0 x9_1).f0) ((rd_T40 l0 x9_1).f1) false _ A5.out).mono ?_); rintro e w12 ⟨rfl, hb⟩; refine ⟨_, rfl, ?_⟩; replace HB := zq (below_step (zs1 GE234.out) hb); (try clear hb)))
        go_ret
        exact ⟨J2, J112⟩
      subst c6
      rw [if_pos rfl] at H
      have H' := zq H
      clear H
      have p233 : 0 ≤ (x9_1 : Int) := of_decide_eq_true J3
      have q233 : x9_1 < (l0.length : Int) := of_decide_eq_true J3
      obtain ⟨ad233, e233, hx233_0, hx233_1⟩ := at_T40 HR0.out x9_1 p233 q233
      cases e233
      replace hx233_0 := (HB.out.cell (World.block_lt_of_cell? w _ hx233_0)).trans hx233_0
      replace hx233_1 := (HB.out.cell (World.block_lt_of_cell? w _ hx233_1)).trans hx233_1
      replace p233 := eq_true p233
      replace q233 := eq_true q233
      go_wp2_with (first | ((with_reducible refine gate_dst (N := 6) rfl ?_); refine bxw 6 40 #[.int .i64 0, .int .i64 0] ?_; intro gb234 hg w7 hbox hb; have BK234 := zq (hbox); have GE234 := zq ((J12 : w.heap.size ≤ gb234)); replace HB := zq (below_step J0 hb); clear hb hbox hg; obtain ⟨hcz8_0, hcz8_1, hfz8_0, hfz8_1⟩ := cz2 BK234.out) | ((with_reducible refine gate_dst (N := 15) rfl ?_); refine goesLv_ (some 15) rfl rfl Tryd.func28 J8 rfl #[.agg #[.int .i64 ((rd_T40 l0 x9_1).f0), .int .i64 ((rd_T40 l0 x9_1).f1)]] (.tmp 13) rfl rfl J1 ?_; (with_reducible refine (decimal_Right.calls k1 ((rd_T40 l0 x9_1).f0) ((rd_T40 l0 x9_1).f1) true _ A5.out).mono ?_); rintro e w9 ⟨rfl, hb⟩; refine ⟨_, rfl, ?_⟩; replace BK234 := zq (blk_below (g := gb234) (o := .cells #[.int .i64 ((rd_T40 l0 x9_1).f0), .int .i64 ((rd_T40 l0 x9_1).f1)] 40 (0, 0)) (by (with_reducible repeat (first | refine blk_drewN ?_ _ | refine blk_drew ?_ | refine blk_alloc ?_ _)); refine blk_put (cs := #[.int .i64 ((rd_T40 l0 x9_1).f0), .int .i64 0]) ?_ 1 _ rfl; (with_reducible repeat (first | refine blk_drewN ?_ _ | refine blk_drew ?_ | refine blk_alloc ?_ _)); refine blk_put (cs := #[.int .i64 0, .int .i64 0]) ?_ 0 _ rfl; (with_reducible repeat (first | refine blk_drewN ?_ _ | refine blk_drew ?_ | refine blk_alloc ?_ _)); exact BK234.out) hb); replace HB := zq (below_step (zs1 GE234.out) hb); (try clear hb)))
      go_roundg k1
      case measure => have := HK1.out; omega
      case rel => exact ⟨(wrap64 (x9_1 + 1)), J4, H', ⟨J73⟩, ⟨J112⟩⟩
end Go.Proofs.YtfjhiiaahbjaiaaDoor.HSystemSigns
