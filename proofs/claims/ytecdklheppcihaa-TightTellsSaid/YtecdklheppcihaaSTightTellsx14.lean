/- Words and walks, shortened by a program: what this claim's functions answer, and that other memory stays. -/
import Derived.Test.YtecdklheppcihaaSTightTellsx0
import Derived.Test.YtecdklheppcihaaSTightTellsx7
import Derived.Test.YtecdklheppcihaaSTightTellsx11
import Derived.Test.YtecdklheppcihaaSTightTellsx12
import Derived.Test.YtecdklheppcihaaSTightTellsx13
namespace Go.Proofs.Ytecdklheppcihaa.HTightTells
open Go.RowKit Go.Proofs.YtecdklheppcihaaW.PrintWords Go.Proofs.YtecdklheppcihaaW.PrintWords.Kd Go.Proofs.YtecdklheppcihaaW.PrintLast Go.Proofs.YtecdklheppcihaaW.PrintMore Go.Proofs.YtecdklheppcihaaW.PrintMore.Kd
attribute [local go_sem] Xbp Xbn Xbu Xbt Xbg Xbf Xbo Xbm
set_option linter.unusedVariables false
set_option linter.unusedSimpArgs false
theorem lit_V {e base : Nat} {W : World} {ok : Nat → Prop} {v : Value} {xs : List Int} (h : (Kd.int .i64).R e W base ok v xs) : Kd.V (Kd.int .i64) e W base (fun k => base ≤ k) v xs := Kd.R_V (af (bb h) (fun _ hk => hk.2.1))
def hyvlit20.f : Option (List Int) := some [97]
def hyvlit22.f : Option (List Int) := some [2]
theorem unguard_ {P : Program} {ops : Array Oper} {Q : Exit → Act → World → Prop} {rest : List Oper} {o : Oper} {a : Act} {W : World} {x : Nat × Bool} (_hs : o.guard = some x) (hw : Region.wanted o (yielded ops a.tmps) = true) (h : wpList P ops Q ({ o with guard := none } :: rest) a W) : wpList P ops Q (o :: rest) a W := Xw hw h
theorem goesV_ {P : Program} {ops : Array Oper} {Q : Exit → Act → World → Prop} {oi : Oper} {N : Option Tmp} {a : Act} {w : World} {K : Act → World → Prop} {f : FuncId} {fn : Func} {as_ : Array Operand} {ts : Array TypeId} (hf : P.funcs[f]? = some fn) (hname : (fn.name == "runtime.NumGoroutine") = false) (hb : fn.body.isSome = true) (args : Array Value)
  (hw : Region.wanted oi (yielded ops a.tmps) = true) (hN : oi.dst = N) (x : Operand) (hop : oi.op = .call { callee := .value x, args := as_, argTypes := ts }) (hx : a.eval x = .func (.func f) #[] #[]) (hargs : as_.map a.eval = args)
  (h : Calls P f args w fun e w' => ∃ v, e = .returned v ∧ K (a.put N v) w') : if Region.wanted oi (yielded ops a.tmps) = true then Oper.wp P oi a w K Q else K (a.put N undef) w := by
 refine call_ f args hw hN ?_ h
 have he := enters_ hf hname hb args w
 unfold execOp
 simp [hop, hx, resolve, Deferred.ofValue, invoke, hargs, he]
def decklelaw11_small.f (k : Nat)  : Option (Bool) := (hyvlit20.f).bind fun t378 => ((hyvlit22.f).bind fun t382 => ((Xaw.f 3).bind fun bt386 => ((Xaw.f 1).bind fun bt396 => ((Xav.f k (([(⟨5, t382, ([] : List Int), ([] : List (S38))⟩ : S30), (⟨bt386.1, bt386.2.1, bt386.2.2.1, bt386.2.2.2⟩ : S30), (⟨bt396.1, bt396.2.1, bt396.2.2.1, bt396.2.2.2⟩ : S30)] : List (S30)))).bind fun bt409 => ((Xaw.f 0).bind fun bt413 => ((Xaw.f 1).bind fun bt423 => ((Xav.f k (([(⟨5, t382, ([] : List Int), ([] : List (S38))⟩ : S30), (⟨bt413.1, bt413.2.1, bt413.2.2.1, bt413.2.2.2⟩ : S30), (⟨bt423.1, bt423.2.1, bt423.2.2.1, bt423.2.2.2⟩ : S30)] : List (S30)))).bind fun bt436 => ((Xaw.f 1).bind fun bt440 => ((Xav.f k (([(⟨5, t382, ([] : List Int), ([] : List (S38))⟩ : S30), (⟨3, ([] : List Int), t378, ([] : List (S38))⟩ : S30), (⟨bt440.1, bt440.2.1, bt440.2.2.1, bt440.2.2.2⟩ : S30)] : List (S30)))).bind fun bt453 => ((Xav.f k (([(⟨5, (([0] : List Int)), ([] : List Int), ([] : List (S38))⟩ : S30)] : List (S30)))).bind fun bt463 => ((Xav.f k (([(⟨5, ([] : List Int), ([] : List Int), ([] : List (S38))⟩ : S30), (⟨4, ([] : List Int), ([] : List Int), (([(⟨2, 0⟩ : S38)] : List (S38)))⟩ : S30)] : List (S30)))).bind fun bt473 => ((Xav.f k ([] : List (S30))).bind fun bt477 => ((X2.f k (([1] : List Int)) (([(⟨15, (-1)⟩ : S38)] : List (S38)))).bind fun bt487 => ((X2.f k (([2] : List Int)) (([(⟨1, 0⟩ : S38)] : List (S38)))).bind fun bt505 => (if bt409.2 = true then ((deckleref10_Same.f k bt409.1 (([(⟨2, (([2] : List Int)), (([3, 1] : List Int)), ([] : List (S38))⟩ : S30)] : List (S30)))).bind fun t526 => (if t526 = true then (if bt436.2 = true then ((deckleref10_Same.f k bt436.1 (([(⟨1, (([2] : List Int)), (([0, 1] : List Int)), ([] : List (S38))⟩ : S30)] : List (S30)))).bind fun t536 => (if t536 = true then (if bt453.2 = true then ((deckleref10_Same.f k bt453.1 (([(⟨5, t382, ([] : List Int), ([] : List (S38))⟩ : S30), (⟨3, ([] : List Int), t378, ([] : List (S38))⟩ : S30), (⟨1, ([] : List Int), (([1] : List Int)), ([] : List (S38))⟩ : S30)] : List (S30)))).bind fun t543 => (if t543 = true then (if bt463.2 = true then ((deckleref10_Same.f k bt463.1 (([(⟨2, (([0] : List Int)), ([] : List Int), ([] : List (S38))⟩ : S30)] : List (S30)))).bind fun t550 => (if t550 = true then (if bt473.2 = true then ((deckleref10_Same.f k bt473.1 (([(⟨2, ([] : List Int), (([2] : List Int)), ([] : List (S38))⟩ : S30)] : List (S30)))).bind fun t557 => (if t557 = true then (if bt477.2 = true then (none) else (if bt487.2.2.2.2 = true then ((X5.f k bt487.1 bt487.2.1 bt487.2.2.1 bt487.2.2.2.1 4 (([1] : List Int)) ([] : List Int) (([(⟨15, (-1)⟩ : S38)] : List (S38)))).bind fun t564 => (if t564 = true then (if bt505.2.2.2.2 = true then (none) else ((Xbc.f k bt409.1).bind fun t565 => (if t565 = true then ((Xaw.f 1).bind fun bt566 => ((Xbc.f k (([(⟨bt566.1, bt566.2.1, bt566.2.2.1, bt566.2.2.2⟩ : S30)] : List (S30)))).bind fun t579 => (if t579 = true then (none) else ((Xbc.f k (([(⟨3, ([] : List Int), t378, ([] : List (S38))⟩ : S30)] : List (S30)))).bind fun t583 => (some t583))))) else (none)))) else (none))) else (none))) else (none))) else (none)) else (none))) else (none)) else (none))) else (none)) else (none))) else (none)) else (none))) else (none))))))))))))))))
theorem decklelaw11_small.mono : ∀ k, LeO (decklelaw11_small.f k ) (decklelaw11_small.f (k + 1) ) := by
 intro  k
 unfold decklelaw11_small.f
 have im0 := @X5.mono
 have im1 := @deckleref10_Same.mono
 have im2 := @Xav.mono
 have im3 := @X2.mono
 have im4 := @Xbc.mono
 exact mz5
def decklelaw11_small.T4 : Bool × List (List Nat × List Nat) := (true, [([], []), ([], []), ([1], [1]), ([], []), ([3, 2], [3]), ([0, 2, 4], [0, 2, 4]), ([5, 4], [5]), ([6], [6]), ([7], [7]), ([7], [7]), ([8, 6, 0, 1, 2, 3, 4, 5, 6, 7, 8], [8]), ([9, 10, 0, 1, 2, 3, 4, 5, 6, 7, 8, 9, 10], [9])])
def decklelaw11_small.B4 : List Nat := [0, 0, 2, 0, 14, 31, 63, 127, 255, 255, 511, 2047]
theorem decklelaw11_small.tab4 : Xch .any (opsOf Try.f9 4) = decklelaw11_small.T4 := J17
theorem decklelaw11_small.bits4 : Xcf decklelaw11_small.T4.2 decklelaw11_small.B4 = true := J17
def decklelaw11_small.T5 : Bool × List (List Nat × List Nat) := (true, [([], []), ([], []), ([1], [1]), ([], []), ([3, 2], [3]), ([0, 2, 4], [0, 2, 4]), ([5, 4], [5]), ([6], [6]), ([7], [7]), ([7], [7]), ([8, 6, 0, 1, 2, 3, 4, 5, 6, 7, 8], [8]), ([9, 10, 0, 1, 2, 3, 4, 5, 6, 7, 8, 9, 10], [9])])
def decklelaw11_small.B5 : List Nat := [0, 0, 2, 0, 14, 31, 63, 127, 255, 255, 511, 2047]
theorem decklelaw11_small.tab5 : Xch .any (opsOf Try.f9 5) = decklelaw11_small.T5 := J17
theorem decklelaw11_small.bits5 : Xcf decklelaw11_small.T5.2 decklelaw11_small.B5 = true := J17
def decklelaw11_small.T6 : Bool × List (List Nat × List Nat) := (true, [([], []), ([], []), ([], []), ([2], [2]), ([0, 1, 3], [0, 1, 3]), ([4, 3], [4]), ([5], [5]), ([6], [6]), ([6], [6]), ([7, 5, 0, 1, 2, 3, 4, 5, 6, 7], [7]), ([8, 9, 0, 1, 2, 3, 4, 5, 6, 7, 8, 9], [8])])
def decklelaw11_small.B6 : List Nat := [0, 0, 0, 4, 15, 31, 63, 127, 127, 255, 1023]
theorem decklelaw11_small.tab6 : Xch .any (opsOf Try.f9 6) = decklelaw11_small.T6 := J17
theorem decklelaw11_small.bits6 : Xcf decklelaw11_small.T6.2 decklelaw11_small.B6 = true := J17
set_option maxHeartbeats 8000000 in
set_option maxRecDepth 100000 in
theorem decklelaw11_small.calls (k : Nat)  (r : Bool) (w : World) (h : decklelaw11_small.f k  = some r) :
  Calls Try.prog 9 #[] w fun e w' => e = .returned (.bool r) ∧ Below w.heap.size w w' := by
 have hu30 := Try.underlying30
 have hu38 := Try.underlying38
 have HB := zq (Below.refl w.heap.size w)
 unfold decklelaw11_small.f at h
 have H := h
 clear h
 refine yv H ?_; clear H; rintro t378 A1 H
 refine yv H ?_; clear H; rintro t382 A2 H
 refine yv H ?_; clear H; rintro ⟨t386, t387, t390, t393⟩ A3 H
 dsimp only at H
 refine yv H ?_; clear H; rintro ⟨t396, t397, t400, t403⟩ A4 H
 dsimp only at H
 obtain ⟨y406, hy406⟩ : ∃ y_ : List (S30), y_ = (([(⟨5, t382, ([] : List Int), ([] : List (S38))⟩ : S30), (⟨t386, t387, t390, t393⟩ : S30), (⟨t396, t397, t400, t403⟩ : S30)] : List (S30))) := ⟨_, rfl⟩
 rw (occs := .pos [1]) [← hy406] at H
 have Ny406 := zq hy406
 clear hy406
 refine yv H ?_; clear H; rintro ⟨t409, t412⟩ A5 H
 dsimp only at H
 refine yv H ?_; clear H; rintro ⟨t413, t414, t417, t420⟩ A6 H
 dsimp only at H
 refine yv H ?_; clear H; rintro ⟨t423, t424, t427, t430⟩ A7 H
 dsimp only at H
 obtain ⟨y433, hy433⟩ : ∃ y_ : List (S30), y_ = (([(⟨5, t382, ([] : List Int), ([] : List (S38))⟩ : S30), (⟨t413, t414, t417, t420⟩ : S30), (⟨t423, t424, t427, t430⟩ : S30)] : List (S30))) := ⟨_, rfl⟩
 rw (occs := .pos [1]) [← hy433] at H
 have Ny433 := zq hy433
 clear hy433
 refine yv H ?_; clear H; rintro ⟨t436, t439⟩ A8 H
 dsimp only at H
 refine yv H ?_; clear H; rintro ⟨t440, t441, t444, t447⟩ A9 H
 dsimp only at H
 obtain ⟨y450, hy450⟩ : ∃ y_ : List (S30), y_ = (([(⟨5, t382, ([] : List Int), ([] : List (S38))⟩ : S30), (⟨3, ([] : List Int), t378, ([] : List (S38))⟩ : S30), (⟨t440, t441, t444, t447⟩ : S30)] : List (S30))) := ⟨_, rfl⟩
 rw (occs := .pos [1]) [← hy450] at H
 have Ny450 := zq hy450
 clear hy450
 refine yv H ?_; clear H; rintro ⟨t453, t456⟩ A10 H
 dsimp only at H
 obtain ⟨y457, hy457⟩ : ∃ y_ : List Int, y_ = (([0] : List Int)) := ⟨_, rfl⟩
 rw (occs := .pos [1]) [← hy457] at H
 have Ny457 := zq hy457
 clear hy457
 obtain ⟨y460, hy460⟩ : ∃ y_ : List (S30), y_ = (([(⟨5, y457, ([] : List Int), ([] : List (S38))⟩ : S30)] : List (S30))) := ⟨_, rfl⟩
 rw (occs := .pos [1]) [← hy460] at H
 have Ny460 := zq hy460
 clear hy460
 refine yv H ?_; clear H; rintro ⟨t463, t466⟩ A11 H
 dsimp only at H
 obtain ⟨y467, hy467⟩ : ∃ y_ : List (S38), y_ = (([(⟨2, 0⟩ : S38)] : List (S38))) := ⟨_, rfl⟩
 rw (occs := .pos [1]) [← hy467] at H
 have Ny467 := zq hy467
 clear hy467
 obtain ⟨y470, hy470⟩ : ∃ y_ : List (S30), y_ = (([(⟨5, ([] : List Int), ([] : List Int), ([] : List (S38))⟩ : S30), (⟨4, ([] : List Int), ([] : List Int), y467⟩ : S30)] : List (S30))) := ⟨_, rfl⟩
 rw (occs := .pos [1]) [← hy470] at H
 have Ny470 := zq hy470
 clear hy470
 refine yv H ?_; clear H; rintro ⟨t473, t476⟩ A12 H
 dsimp only at H
 refine yv H ?_; clear H; rintro ⟨t477, t480⟩ A13 H
 dsimp only at H
 obtain ⟨y481, hy481⟩ : ∃ y_ : List Int, y_ = (([1] : List Int)) := ⟨_, rfl⟩
 rw (occs := .pos [1]) [← hy481] at H
 have Ny481 := zq hy481
 clear hy481
 obtain ⟨y484, hy484⟩ : ∃ y_ : List (S38), y_ = (([(⟨15, (-1)⟩ : S38)] : List (S38))) := ⟨_, rfl⟩
 rw (occs := .pos [1]) [← hy484] at H
 have Ny484 := zq hy484
 clear hy484
 refine yv H ?_; clear H; rintro ⟨t487, t488, t491, t494, t497⟩ A14 H
 dsimp only at H
 obtain ⟨y499, hy499⟩ : ∃ y_ : List Int, y_ = (([2] : List Int)) := ⟨_, rfl⟩
 rw (occs := .pos [1]) [← hy499] at H
 have Ny499 := zq hy499
 clear hy499
 obtain ⟨y502, hy502⟩ : ∃ y_ : List (S38), y_ = (([(⟨1, 0⟩ : S38)] : List (S38))) := ⟨_, rfl⟩
 rw (occs := .pos [1]) [← hy502] at H
 have Ny502 := zq hy502
 clear hy502
 refine yv H ?_; clear H; rintro ⟨t505, t506, t509, t512, t515⟩ A15 H
 dsimp only at H
 refine yB H ?_ ?_ <;> clear H <;> rintro rfl H
 ·exact absurd H J83
 obtain ⟨y517, hy517⟩ : ∃ y_ : List Int, y_ = (([2] : List Int)) := ⟨_, rfl⟩
 rw (occs := .pos [1]) [← hy517] at H
 have Ny517 := zq hy517
 clear hy517
 obtain ⟨y520, hy520⟩ : ∃ y_ : List Int, y_ = (([3, 1] : List Int)) := ⟨_, rfl⟩
 rw (occs := .pos [1]) [← hy520] at H
 have Ny520 := zq hy520
 clear hy520
 obtain ⟨y523, hy523⟩ : ∃ y_ : List (S30), y_ = (([(⟨2, y517, y520, ([] : List (S38))⟩ : S30)] : List (S30))) := ⟨_, rfl⟩
 rw (occs := .pos [1]) [← hy523] at H
 have Ny523 := zq hy523
 clear hy523
 refine yv H ?_; clear H; rintro t526 A17 H
 refine yB H ?_ ?_ <;> clear H <;> rintro rfl H
 ·exact absurd H J83
 refine yB H ?_ ?_ <;> clear H <;> rintro rfl H
 ·exact absurd H J83
 obtain ⟨y527, hy527⟩ : ∃ y_ : List Int, y_ = (([2] : List Int)) := ⟨_, rfl⟩
 rw (occs := .pos [1]) [← hy527] at H
 have Ny527 := zq hy527
 clear hy527
 obtain ⟨y530, hy530⟩ : ∃ y_ : List Int, y_ = (([0, 1] : List Int)) := ⟨_, rfl⟩
 rw (occs := .pos [1]) [← hy530] at H
 have Ny530 := zq hy530
 clear hy530
 obtain ⟨y533, hy533⟩ : ∃ y_ : List (S30), y_ = (([(⟨1, y527, y530, ([] : List (S38))⟩ : S30)] : List (S30))) := ⟨_, rfl⟩
 rw (occs := .pos [1]) [← hy533] at H
 have Ny533 := zq hy533
 clear hy533
 refine yv H ?_; clear H; rintro t536 A20 H
 refine yB H ?_ ?_ <;> clear H <;> rintro rfl H
 ·exact absurd H J83
 refine yB H ?_ ?_ <;> clear H <;> rintro rfl H
 ·exact absurd H J83
 obtain ⟨y537, hy537⟩ : ∃ y_ : List Int, y_ = (([1] : List Int)) := ⟨_, rfl⟩
 rw (occs := .pos [1]) [← hy537] at H
 have Ny537 := zq hy537
 clear hy537
 obtain ⟨y540, hy540⟩ : ∃ y_ : List (S30), y_ = (([(⟨5, t382, ([] : List Int), ([] : List (S38))⟩ : S30), (⟨3, ([] : List Int), t378, ([] : List (S38))⟩ : S30), (⟨1, ([] : List Int), y537, ([] : List (S38))⟩ : S30)] : List (S30))) := ⟨_, rfl⟩
 rw (occs := .pos [1]) [← hy540] at H
 have Ny540 := zq hy540
 clear hy540
 refine yv H ?_; clear H; rintro t543 A23 H
 refine yB H ?_ ?_ <;> clear H <;> rintro rfl H
 ·exact absurd H J83
 refine yB H ?_ ?_ <;> clear H <;> rintro rfl H
 ·exact absurd H J83
 obtain ⟨y544, hy544⟩ : ∃ y_ : List Int, y_ = (([0] : List Int)) := ⟨_, rfl⟩
 rw (occs := .pos [1]) [← hy544] at H
 have Ny544 := zq hy544
 clear hy544
 obtain ⟨y547, hy547⟩ : ∃ y_ : List (S30), y_ = (([(⟨2, y544, ([] : List Int), ([] : List (S38))⟩ : S30)] : List (S30))) := ⟨_, rfl⟩
 rw (occs := .pos [1]) [← hy547] at H
 have Ny547 := zq hy547
 clear hy547
 refine yv H ?_; clear H; rintro t550 A26 H
 refine yB H ?_ ?_ <;> clear H <;> rintro rfl H
 ·exact absurd H J83
 refine yB H ?_ ?_ <;> clear H <;> rintro rfl H
 ·exact absurd H J83
 obtain ⟨y551, hy551⟩ : ∃ y_ : List Int, y_ = (([2] : List Int)) := ⟨_, rfl⟩
 rw (occs := .pos [1]) [← hy551] at H
 have Ny551 := zq hy551
 clear hy551
 obtain ⟨y554, hy554⟩ : ∃ y_ : List (S30), y_ = (([(⟨2, ([] : List Int), y551, ([] : List (S38))⟩ : S30)] : List (S30))) := ⟨_, rfl⟩
 rw (occs := .pos [1]) [← hy554] at H
 have Ny554 := zq hy554
 clear hy554
 refine yv H ?_; clear H; rintro t557 A29 H
 refine yB H ?_ ?_ <;> clear H <;> rintro rfl H
 ·exact absurd H J83
 refine yC H ?_ ?_ <;> clear H <;> rintro rfl H
 ·exact absurd H J83
 refine yB H ?_ ?_ <;> clear H <;> rintro rfl H
 ·exact absurd H J83
 obtain ⟨y558, hy558⟩ : ∃ y_ : List Int, y_ = (([1] : List Int)) := ⟨_, rfl⟩
 rw (occs := .pos [1]) [← hy558] at H
 have Ny558 := zq hy558
 clear hy558
 obtain ⟨y561, hy561⟩ : ∃ y_ : List (S38), y_ = (([(⟨15, (-1)⟩ : S38)] : List (S38))) := ⟨_, rfl⟩
 rw (occs := .pos [1]) [← hy561] at H
 have Ny561 := zq hy561
 clear hy561
 refine yv H ?_; clear H; rintro t564 A33 H
 refine yB H ?_ ?_ <;> clear H <;> rintro rfl H
 ·exact absurd H J83
 refine yC H ?_ ?_ <;> clear H <;> rintro rfl H
 ·exact absurd H J83
 refine yv H ?_; clear H; rintro t565 A36 H
 refine yB H ?_ ?_ <;> clear H <;> rintro rfl H
 ·exact absurd H J83
 refine yv H ?_; clear H; rintro ⟨t566, t567, t570, t573⟩ A38 H
 dsimp only at H
 obtain ⟨y576, hy576⟩ : ∃ y_ : List (S30), y_ = (([(⟨t566, t567, t570, t573⟩ : S30)] : List (S30))) := ⟨_, rfl⟩
 rw (occs := .pos [1]) [← hy576] at H
 have Ny576 := zq hy576
 clear hy576
 refine yv H ?_; clear H; rintro t579 A39 H
 refine yC H ?_ ?_ <;> clear H <;> rintro rfl H
 ·exact absurd H J83
 obtain ⟨y580, hy580⟩ : ∃ y_ : List (S30), y_ = (([(⟨3, ([] : List Int), t378, ([] : List (S38))⟩ : S30)] : List (S30))) := ⟨_, rfl⟩
 rw (occs := .pos [1]) [← hy580] at H
 have Ny580 := zq hy580
 clear hy580
 refine yv H ?_; clear H; rintro t583 A41 H
 obtain rfl := yo H
 go_enter Try.func9, Try.ntmps9
 try go_wp2_with (first | ((with_reducible refine Xj (N := 20) rfl ?_); (try (refine Xw J63 ?_; dsimp only)); refine b7 (Kd.int .i64) _ 3 ?hg (N := 20) ?hd (xs := ([97] : List Int)) (inner := [.int .i64 97]) (ok := fun _ => True) (okp := fun _ => True) ?hr ?hp (fun _ hk => hk) trivial (Below.refl _ _) (Nat.le_refl _) J83 ?_; (case hd => rfl); (case hg => rfl); (case hr => first | (go_simp; done) | (go_simp; rfl)); (case hp => exact (Reps.one (show Kd.M (Kd.int .i64) _ _ _ 97 [.int .i64 97] from rfl) (Reps.none _ _))); intro v379 w42 ho10_ hb hg_ hnew_; clear hg_ hnew_; rw [show ([97] : List Int) = t378 from Option.some.inj A1.out] at ho10_; have ho0 := lit_V ho10_; clear ho10_; have HO380 := zq (bD (aj (ok' := fun k_ => True) ho0 (fun k_ hk_ => trivial)) (Xc J0)); replace HB := zq (Xe J0 hb); (try clear hb); (try clear hk); (try clear ho0); obtain ⟨Ao43, co43, eo43⟩ := bn HO380.out; subst eo43) | ((with_reducible refine Xj (N := 2) rfl ?_); (try (refine Xw J63 ?_; dsimp only)); refine bxw 2 30 #[.int .i64 0, .slice none 0 0, .slice none 0 0, .slice none 0 0] ?_; intro gb381 hg w44 hbox hb; replace HO380 := zq (ax (aE (zv HO380.out) gb381 (Nat.le_of_eq hg.symm)) hb); have BK381 := zq (hbox); have GE381 := zq ((J22 : w.heap.size ≤ gb381)); replace HB := zq (Xe J0 hb); clear hb hbox hg; have Z45 := cz4 BK381.out) | ((with_reducible refine Xj (N := 22) rfl ?_); (try (refine Xw J63 ?_; dsimp only)); refine b7 (Kd.int .i64) _ 3 ?hg (N := 22) ?hd (xs := ([2] : List Int)) (inner := [.int .i64 2]) (ok := fun _ => True) (okp := fun _ => True) ?hr ?hp (fun _ hk => hk) trivial (Below.refl _ _) (Nat.le_refl _) J83 ?_; (case hd => rfl); (case hg => rfl); (case hr => first | (go_simp; done) | (go_simp; rfl)); (case hp => exact (Reps.one (show Kd.M (Kd.int .i64) _ _ _ 2 [.int .i64 2] from rfl) (Reps.none _ _))); intro v383 w46 ho10_ hb hg_ hnew_; clear hg_ hnew_; rw [show ([2] : List Int) = t382 from Option.some.inj A2.out] at ho10_; have ho0 := lit_V ho10_; clear ho10_; replace HO380 := zq (ax J117 hb); have HO384 := zq (bD (aj (ok' := fun k_ => k_ ≠ gb381) ho0 (fun k_ hk_ => (Kd.freshB (g := gb381) (o := .cells #[.int .i64 3, .slice none 0 0, .slice Ao43 t378.length co43, .slice none 0 0] 30 (0, 0)) J38 k_ hk_))) (Xc (zs1 GE381.out))); replace BK381 := zq (Xg (g := gb381) (o := .cells #[.int .i64 3, .slice none 0 0, .slice Ao43 t378.length co43, .slice none 0 0] 30 (0, 0)) J38 hb); replace HB := zq (Xe (zs1 GE381.out) hb); (try clear hb); (try clear hk); (try clear ho0); obtain ⟨Ao47, co47, eo47⟩ := bn HO384.out; subst eo47) | ((with_reducible refine Xj (N := 3) rfl ?_); (try (refine Xw J63 ?_; dsimp only)); refine bxw 3 30 #[.int .i64 0, .slice none 0 0, .slice none 0 0, .slice none 0 0] ?_; intro gb385 hg w48 hbox hb; replace HO380 := zq (ax (aE (zv HO380.out) gb385 (Nat.le_of_eq hg.symm)) hb); replace HO384 := zq (ax (aE (zv HO384.out) gb385 (Nat.le_of_eq hg.symm)) hb); have BK385 := zq (hbox); have GE385 := zq ((by rw [hg]; exact (Xc (zs1 GE381.out)) : w.heap.size ≤ gb385)); replace HB := zq (Xe (zs1 GE381.out) hb); have NB381_385 := zq ((J94 : gb381 ≠ gb385)); have NB385_381 := zq ((J95 : gb385 ≠ gb381)); replace BK381 := zq (Xg (zk BK381.out) hb); clear hb hbox hg; have hnb49 := NB385_381.out; have hnc49 := NB381_385.out; have Z50 := cz4 BK385.out) | ((with_reducible refine unguard_ rfl ?hu_ ?_); (case hu_ => rfl); dsimp only))
 have n0_ : Aside0 (Kd.V (Kd.int .i64) 3 ((((w48.setCell ⟨gb385, 0, none⟩ (.int .i64 5)).setCell ⟨gb385, 1, none⟩ (.slice Ao47 t382.length co47)).setCell ⟨gb385, 2, none⟩ (.slice none 0 0)).setCell ⟨gb385, 3, none⟩ (.slice none 0 0)) w.heap.size (fun k_ => k_ ≠ gb381 ∧ k_ ≠ gb385) (.slice Ao43 t378.length co43) t378) := ⟨by (with_reducible repeat (first | apply Kd.V_alloc | apply Kd.V_drewN | apply aA)); exact aj (fV4 (aj HO380.out (fun k_ hk => (⟨hk, hk.2⟩ : _ ∧ k_ ≠ gb385)))) (fun _ hk => ⟨hk.1.1.2, hk.1.2⟩)⟩
 have n1_ : Aside0 (Kd.V (Kd.int .i64) 3 ((((w48.setCell ⟨gb385, 0, none⟩ (.int .i64 5)).setCell ⟨gb385, 1, none⟩ (.slice Ao47 t382.length co47)).setCell ⟨gb385, 2, none⟩ (.slice none 0 0)).setCell ⟨gb385, 3, none⟩ (.slice none 0 0)) w.heap.size (fun k_ => k_ ≠ gb381 ∧ k_ ≠ gb385) (.slice Ao47 t382.length co47) t382) := ⟨by (with_reducible repeat (first | apply Kd.V_alloc | apply Kd.V_drewN | apply aA)); exact aj (fV4 (aj HO384.out (fun k_ hk => (⟨hk, hk.2⟩ : _ ∧ k_ ≠ gb385)))) (fun _ hk => ⟨hk.1.1, hk.1.2⟩)⟩
 have n2_ : Aside0 (((((w48.setCell ⟨gb385, 0, none⟩ (.int .i64 5)).setCell ⟨gb385, 1, none⟩ (.slice Ao47 t382.length co47)).setCell ⟨gb385, 2, none⟩ (.slice none 0 0)).setCell ⟨gb385, 3, none⟩ (.slice none 0 0)).heap[gb381]? = some (.cells #[.int .i64 3, .slice none 0 0, .slice Ao43 t378.length co43, .slice none 0 0] 30 (0, 0))) := ⟨by (with_reducible repeat (first | refine Xd ?_ _ | refine Xf ?_ | refine Xb ?_ _)); refine Xab ?_ NB381_385.out _; (with_reducible repeat (first | refine Xd ?_ _ | refine Xf ?_ | refine Xb ?_ _)); refine Xab ?_ NB381_385.out _; (with_reducible repeat (first | refine Xd ?_ _ | refine Xf ?_ | refine Xb ?_ _)); refine Xab ?_ NB381_385.out _; (with_reducible repeat (first | refine Xd ?_ _ | refine Xf ?_ | refine Xb ?_ _)); refine Xab ?_ NB381_385.out _; (with_reducible repeat (first | refine Xd ?_ _ | refine Xf ?_ | refine Xb ?_ _)); exact BK381.out⟩
 have n3_ : Aside0 (((((w48.setCell ⟨gb385, 0, none⟩ (.int .i64 5)).setCell ⟨gb385, 1, none⟩ (.slice Ao47 t382.length co47)).setCell ⟨gb385, 2, none⟩ (.slice none 0 0)).setCell ⟨gb385, 3, none⟩ (.slice none 0 0)).heap[gb385]? = some (.cells #[.int .i64 5, .slice Ao47 t382.length co47, .slice none 0 0, .slice none 0 0] 30 (0, 0))) := ⟨by (with_reducible repeat (first | refine Xd ?_ _ | refine Xf ?_ | refine Xb ?_ _)); refine Xk (cs := #[.int .i64 5, .slice Ao47 t382.length co47, .slice none 0 0, .slice none 0 0]) ?_ 3 _ rfl; (with_reducible repeat (first | refine Xd ?_ _ | refine Xf ?_ | refine Xb ?_ _)); refine Xk (cs := #[.int .i64 5, .slice Ao47 t382.length co47, .slice none 0 0, .slice none 0 0]) ?_ 2 _ rfl; (with_reducible repeat (first | refine Xd ?_ _ | refine Xf ?_ | refine Xb ?_ _)); refine Xk (cs := #[.int .i64 5, .slice none 0 0, .slice none 0 0, .slice none 0 0]) ?_ 1 _ rfl; (with_reducible repeat (first | refine Xd ?_ _ | refine Xf ?_ | refine Xb ?_ _)); refine Xk (cs := #[.int .i64 0, .slice none 0 0, .slice none 0 0, .slice none 0 0]) ?_ 0 _ rfl; (with_reducible repeat (first | refine Xd ?_ _ | refine Xf ?_ | refine Xb ?_ _)); exact BK385.out⟩
 have n4_ : Aside0 (Below w.heap.size w ((((w48.setCell ⟨gb385, 0, none⟩ (.int .i64 5)).setCell ⟨gb385, 1, none⟩ (.slice Ao47 t382.length co47)).setCell ⟨gb385, 2, none⟩ (.slice none 0 0)).setCell ⟨gb385, 3, none⟩ (.slice none 0 0))) := ⟨by repeat (first | (with_reducible first | exact HB.out | apply Xaf | apply X3 | apply X9 | refine X0 ?_ GE381.out | refine X0 ?_ GE385.out) | exact HB.out)⟩
 (try clear HO380)
 (try clear HO384)
 (try clear BK381)
 (try clear BK385)
 (try clear HB)
 generalize ((((w48.setCell ⟨gb385, 0, none⟩ (.int .i64 5)).setCell ⟨gb385, 1, none⟩ (.slice Ao47 t382.length co47)).setCell ⟨gb385, 2, none⟩ (.slice none 0 0)).setCell ⟨gb385, 3, none⟩ (.slice none 0 0)) = w51 at n0_ n1_ n2_ n3_ n4_ ⊢
 have HO380 := n0_
 have HO384 := n1_
 have BK381 := n2_
 have BK385 := n3_
 have HB := n4_
 clear n0_ n1_ n2_ n3_ n4_
 replace HO380 := zq (aA HO380.out)
 replace HO384 := zq (aA HO384.out)
 replace BK381 := zq (Xf BK381.out)
 replace BK385 := zq (Xf BK385.out)
 replace HB := zq (X9 HB.out)
 refine Xdb (n := 12) (S := fun w' => hdB4 w' gb385 (.int .i64 5) (.slice Ao47 t382.length co47) (.slice none 0 0) (.slice none 0 0)) (ds := []) #[Z,Z,Z,Z,Z,Z,Z,Z,Z,Z,Z,Z] J17 rfl rfl (Xcp BK385.out) (fun hHeld => ?_); refine Xb9 decklelaw11_small.tab4 decklelaw11_small.bits4 (fun HT_ HW_ => ?_)
 generalize w51.drew = w52 at HO380 HO384 BK381 BK385 HB hHeld ⊢
 refine Xax 1 26 #[Z,Y,Z,Z,Z,Z,Z,Z,Z,Z,Z,Z] HT_ ?_
 refine Xax 3 28 #[Z,Y,Z,Y,Z,Z,Z,Z,Z,Z,Z,Z] HT_ ?_
 refine Xcq (i := 0) (N := some 25) (v := ?_) (a' := ?_) #[Y,Y,Z,Y,Z,Z,Z,Z,Z,Z,Z,Z] rfl rfl (Xbw HT_.out HW_.out J17) (fun _ _ _ h => h) (Or.inl ⟨J63, ?_⟩) hHeld ?_ ?_
 rotate_left
 ·rintro w' ⟨s0, s1, s2, s3⟩
  go_simp
  with_reducible rfl
 rotate_left
 ·exact pz1
 refine Xcb (i := 2) (N := some 27) #[Y,Y,Y,Y,Z,Z,Z,Z,Z,Z,Z,Z] rfl rfl (Xbl HT_.out J17) J14 (fun K hK => ?_)
 refine goesV_ Try.func26 J17 rfl #[.int .i64 3] J63 rfl _ rfl rfl J3 ?_
 with_reducible refine (Xaw.calls 3 t386 t387 t390 t393 _ A3.out).mono ?_
 rintro e w53 ⟨v388, v391, v394, rfl, ho0, ho1, ho2, hb⟩
 refine ⟨_, rfl, ?_⟩
 replace HO380 := zq (aj (aq (aq (aq (bc (zv HO380.out) hb) (aa ho0)) (aa ho1)) (aa ho2)) (fun _ h_ => h_.1))
 replace HO384 := zq (aj (aq (aq (aq (bc (zv HO384.out) hb) (aa ho0)) (aa ho1)) (aa ho2)) (fun _ h_ => h_.1))
 have HO389 := zq (ag ho0 (Xc (zs2 GE381.out GE385.out)))
 have HO392 := zq (ag ho1 (Xc (zs2 GE381.out GE385.out)))
 have HO395 := zq (ag ho2 (Xc (zs2 GE381.out GE385.out)))
 replace BK381 := zq (Xg (zk BK381.out) hb)
 replace BK385 := zq (Xg (zk BK385.out) hb)
 replace HB := zq (Xe (zs2 GE381.out GE385.out) hb)
 (try clear hb)
 (try clear hb2)
 (try clear hk)
 (try clear hi)
 (try clear ho0)
 (try clear ho1)
 (try clear ho2)
 refine hK.out _ _ (Xcp BK385.out) (fun hHeld => ?_)
 clear hK K
 refine Xap (a' := ?_) ?_ ?_
 rotate_left
 ·show Act.put _ (some 27) _ = _
  simp only [Act.put, List.setIfInBounds_toArray, List.set_cons_zero, List.set_cons_succ, Xan, Xaq]
  rfl
 refine Xcb (i := 4) (N := some 29) #[Y,Y,Y,Y,Y,Z,Z,Z,Z,Z,Z,Z] rfl rfl (Xbl HT_.out J17) J14 (fun K hK => ?_)
 refine goesV_ Try.func26 J17 rfl #[.int .i64 1] J63 rfl _ rfl rfl J3 ?_
 with_reducible refine (Xaw.calls 1 t396 t397 t400 t403 _ A4.out).mono ?_
 rintro e w54 ⟨v398, v401, v404, rfl, ho0, ho1, ho2, hb⟩
 refine ⟨_, rfl, ?_⟩
 replace HO380 := zq (aj (aq (aq (aq (bc (zv HO380.out) hb) (aa ho0)) (aa ho1)) (aa ho2)) (fun _ h_ => h_.1))
 replace HO384 := zq (aj (aq (aq (aq (bc (zv HO384.out) hb) (aa ho0)) (aa ho1)) (aa ho2)) (fun _ h_ => h_.1))
 replace HO389 := zq (af (bd (bd (bv (zr HO389.out) hb) (aa ho0)) (aa ho1)) (fun _ h_ => h_.1))
 replace HO392 := zq (af (bd (bd (bv (zr HO392.out) hb) (aa ho0)) (aa ho1)) (fun _ h_ => h_.1))
 replace HO395 := zq (ay (zr HO395.out) (aa ho2) hb)
 have HO399 := zq (ag ho0 (Xc (zs2 GE381.out GE385.out)))
 have HO402 := zq (ag ho1 (Xc (zs2 GE381.out GE385.out)))
 have HO405 := zq (ag ho2 (Xc (zs2 GE381.out GE385.out)))
 replace BK381 := zq (Xg (zk BK381.out) hb)
 replace BK385 := zq (Xg (zk BK385.out) hb)
 replace HB := zq (Xe (zs2 GE381.out GE385.out) hb)
 (try clear hb)
 (try clear hb2)
 (try clear hk)
 (try clear hi)
 (try clear ho0)
 (try clear ho1)
 (try clear ho2)
 obtain ⟨Ao55, co55, eo55⟩ := ah HO389.out
 (first | subst eo55 | (injection eo55 with f1_ f2_ f3_; have f4_ := f1_.symm; have f5_ := f3_.symm; clear f1_ f2_ f3_; subst f4_; subst f5_))
 obtain ⟨Ao56, co56, eo56⟩ := ah HO392.out
 (first | subst eo56 | (injection eo56 with f1_ f2_ f3_; have f4_ := f1_.symm; have f5_ := f3_.symm; clear f1_ f2_ f3_; subst f4_; subst f5_))
 obtain ⟨Ao57, co57, eo57⟩ := ah HO395.out
 (first | subst eo57 | (injection eo57 with f1_ f2_ f3_; have f4_ := f1_.symm; have f5_ := f3_.symm; clear f1_ f2_ f3_; subst f4_; subst f5_))
 obtain ⟨Ao58, co58, eo58⟩ := ah HO399.out
 (first | subst eo58 | (injection eo58 with f1_ f2_ f3_; have f4_ := f1_.symm; have f5_ := f3_.symm; clear f1_ f2_ f3_; subst f4_; subst f5_))
 obtain ⟨Ao59, co59, eo59⟩ := ah HO402.out
 (first | subst eo59 | (injection eo59 with f1_ f2_ f3_; have f4_ := f1_.symm; have f5_ := f3_.symm; clear f1_ f2_ f3_; subst f4_; subst f5_))
 obtain ⟨Ao60, co60, eo60⟩ := ah HO405.out
 (first | subst eo60 | (injection eo60 with f1_ f2_ f3_; have f4_ := f1_.symm; have f5_ := f3_.symm; clear f1_ f2_ f3_; subst f4_; subst f5_))
 refine hK.out _ _ (Xcp BK385.out) (fun hHeld => ?_)
 clear hK K
 refine Xap (a' := ?_) ?_ ?_
 rotate_left
 ·show Act.put _ (some 29) _ = _
  simp only [Act.put, List.setIfInBounds_toArray, List.set_cons_zero, List.set_cons_succ, Xan, Xaq]
  rfl
 refine Xcb (i := 5) (N := some 30) #[Y,Y,Y,Y,Y,Y,Z,Z,Z,Z,Z,Z] rfl rfl (Xbl HT_.out J17) J14 (fun K hK => ?_)
 refine bz k30 _ 30 ?hg (N' := 30) ?hd (xs := ([(⟨5, t382, ([] : List Int), ([] : List (S38))⟩ : S30), (⟨t386, t387, t390, t393⟩ : S30), (⟨t396, t397, t400, t403⟩ : S30)] : List (S30))) (inner := [.int .i64 5, .slice Ao47 t382.length co47, .slice none 0 0, .slice none 0 0, .int .i64 t386, .slice Ao55 t387.length co55, .slice Ao56 t390.length co56, .slice Ao57 t393.length co57, .int .i64 t396, .slice Ao58 t397.length co58, .slice Ao59 t400.length co59, .slice Ao60 t403.length co60]) (ok := fun _ => True) (okp := fun _ => True) ?hr ?hp (fun _ hk => hk) trivial (Below.refl _ _) (Nat.le_refl _) J83 ?_; (case hd => rfl); (case hg => rfl); (case hr => first | (go_simp; done) | (go_simp; rfl)); (case hp => exact (Reps.c4 (show Kd.FK k30 _ _ (⟨5, t382, ([] : List Int), ([] : List (S38))⟩ : S30) [.int .i64 5, .slice Ao47 t382.length co47, .slice none 0 0, .slice none 0 0] from (mkG _ _ (⟨5, t382, ([] : List Int), ([] : List (S38))⟩ : S30) ⟨(av (aj (ok' := fun _ => True) (HO384.out) (fun _ _ => trivial))).2.1, (cF (aj (ok' := fun _ => True) (HO384.out) (fun _ _ => trivial)))⟩ ⟨(Nat.le_refl _), (ba _ _ _)⟩ ⟨(Nat.le_refl _), (ba _ _ _)⟩)) (Reps.c4 (show Kd.FK k30 _ _ (⟨t386, t387, t390, t393⟩ : S30) [.int .i64 t386, .slice Ao55 t387.length co55, .slice Ao56 t390.length co56, .slice Ao57 t393.length co57] from (mkG _ _ (⟨t386, t387, t390, t393⟩ : S30) (rF (af (ok' := fun _ => True) (HO389.out) (fun _ _ => trivial))) (rF (af (ok' := fun _ => True) (HO392.out) (fun _ _ => trivial))) (rF (af (ok' := fun _ => True) (HO395.out) (fun _ _ => trivial))))) (Reps.c4 (show Kd.FK k30 _ _ (⟨t396, t397, t400, t403⟩ : S30) [.int .i64 t396, .slice Ao58 t397.length co58, .slice Ao59 t400.length co59, .slice Ao60 t403.length co60] from (mkG _ _ (⟨t396, t397, t400, t403⟩ : S30) (rF (af (ok' := fun _ => True) (HO399.out) (fun _ _ => trivial))) (rF (af (ok' := fun _ => True) (HO402.out) (fun _ _ => trivial))) (rF (af (ok' := fun _ => True) (HO405.out) (fun _ _ => trivial))))) (Reps.none _ _)))))
 intro v407 w61 ho62 hb hg_ hnew_
 clear hg_ hnew_
 (first | rw [← Ny406.out] at ho62 | (simp only [Int.reduceToNat] at ho62; rw [← Ny406.out] at ho62))
 replace HO380 := zq (am (zv HO380.out) (ao ho62) hb)
 replace HO384 := zq (am (zv HO384.out) (ao ho62) hb)
 have HO408 := zq (aH ho62 (Xc (zs2 GE381.out GE385.out)))
 replace BK381 := zq (Xg (zk BK381.out) hb)
 replace BK385 := zq (Xg (zk BK385.out) hb)
 replace HB := zq (Xe (zs2 GE381.out GE385.out) hb)
 clear HO389 HO392 HO395 HO399 HO402 HO405
 clear hb ho62
 obtain ⟨Ao63, co63, eo63⟩ := aJ HO408.out
 (first | subst eo63 | (injection eo63 with f1_ f2_ f3_; have f4_ := f1_.symm; have f5_ := f3_.symm; clear f1_ f2_ f3_; subst f4_; subst f5_))
 refine hK.out _ _ (Xcp BK385.out) (fun hHeld => ?_)
 clear hK K
 refine Xap (a' := ?_) ?_ ?_
 rotate_left
 ·show Act.put _ (some 30) _ = _
  simp only [Act.put, List.setIfInBounds_toArray, List.set_cons_zero, List.set_cons_succ, Xan, Xaq]
  rfl
 refine Xcb (i := 6) (N := some 31) #[Y,Y,Y,Y,Y,Y,Y,Z,Z,Z,Z,Z] rfl rfl (Xbl HT_.out J17) J14 (fun K hK => ?_)
 refine Xcx Try.func11 J17 rfl #[.slice Ao63 y406.length co63] J63 rfl rfl J3 ?_
 with_reducible refine (Xav.calls k (fun _ => True) _ _ y406 t409 true _ ?side1 A5.out).mono ?_
 (case side1 => exact Kd.N_V (HO408.out))
 rintro e w64 ⟨v410, rfl, ho0, hb⟩
 refine ⟨_, rfl, ?_⟩
 replace HO380 := zq (am (zv HO380.out) (ao ho0) hb)
 replace HO384 := zq (am (zv HO384.out) (ao ho0) hb)
 replace HO408 := zq (ae (zn HO408.out) (ao ho0) hb)
 have HO411 := zq (aH (ap (ok' := fun _ => True) ho0 (fun _ _ => trivial)) (Xc (zs2 GE381.out GE385.out)))
 replace BK381 := zq (Xg (zk BK381.out) hb)
 replace BK385 := zq (Xg (zk BK385.out) hb)
 replace HB := zq (Xe (zs2 GE381.out GE385.out) hb)
 (try clear hb)
 (try clear hb2)
 (try clear hk)
 (try clear hi)
 (try clear ho0)
 refine hK.out _ _ (Xcp BK385.out) (fun hHeld => ?_)
 clear hK K
 refine Xap (a' := ?_) ?_ ?_
 rotate_left
 ·show Act.put _ (some 31) _ = _
  simp only [Act.put, List.setIfInBounds_toArray, List.set_cons_zero, List.set_cons_succ, Xan, Xaq]
  rfl
 refine Xax 7 24 #[Y,Y,Y,Y,Y,Y,Y,Y,Z,Z,Z,Z] HT_ ?_
 refine Xax 8 32 #[Y,Y,Y,Y,Y,Y,Y,Y,Y,Z,Z,Z] HT_ ?_
 refine Xax 9 33 #[Y,Y,Y,Y,Y,Y,Y,Y,Y,Y,Z,Z] HT_ ?_
 refine Xax 10 4 #[Y,Y,Y,Y,Y,Y,Y,Y,Y,Y,Y,Z] HT_ ?_
 refine Xax 11 5 #[Y,Y,Y,Y,Y,Y,Y,Y,Y,Y,Y,Y] HT_ ?_
 refine Xd3 (Xcw HT_.out J17) ?_
 try go_wp2
 replace HO380 := zq (aA HO380.out)
 replace HO384 := zq (aA HO384.out)
 replace HO408 := zq (aC HO408.out)
 replace HO411 := zq (aC HO411.out)
 replace BK381 := zq (Xf BK381.out)
 replace BK385 := zq (Xf BK385.out)
 replace HB := zq (X9 HB.out)
 refine Xdb (n := 12) (S := fun w' => hdB4 w' gb385 (.int .i64 5) (.slice Ao47 t382.length co47) (.slice none 0 0) (.slice none 0 0)) (ds := []) #[Z,Z,Z,Z,Z,Z,Z,Z,Z,Z,Z,Z] J17 rfl rfl (Xcp BK385.out) (fun hHeld => ?_); refine Xb9 decklelaw11_small.tab5 decklelaw11_small.bits5 (fun HT_ HW_ => ?_)
 generalize w64.drew = w65 at HO380 HO384 HO408 HO411 BK381 BK385 HB hHeld ⊢
 refine Xax 1 36 #[Z,Y,Z,Z,Z,Z,Z,Z,Z,Z,Z,Z] HT_ ?_
 refine Xax 3 38 #[Z,Y,Z,Y,Z,Z,Z,Z,Z,Z,Z,Z] HT_ ?_
 refine Xcq (i := 0) (N := some 35) (v := ?_) (a' := ?_) #[Y,Y,Z,Y,Z,Z,Z,Z,Z,Z,Z,Z] rfl rfl (Xbw HT_.out HW_.out J17) (fun _ _ _ h => h) (Or.inl ⟨J63, ?_⟩) hHeld ?_ ?_
 rotate_left
 ·rintro w' ⟨s0, s1, s2, s3⟩
  go_simp
  with_reducible rfl
 rotate_left
 ·exact pz1
 refine Xcb (i := 2) (N := some 37) #[Y,Y,Y,Y,Z,Z,Z,Z,Z,Z,Z,Z] rfl rfl (Xbl HT_.out J17) J14 (fun K hK => ?_)
 refine goesV_ Try.func26 J17 rfl #[.int .i64 0] J63 rfl _ rfl rfl J3 ?_
 with_reducible refine (Xaw.calls 0 t413 t414 t417 t420 _ A6.out).mono ?_
 rintro e w66 ⟨v415, v418, v421, rfl, ho0, ho1, ho2, hb⟩
 refine ⟨_, rfl, ?_⟩
 replace HO380 := zq (aj (aq (aq (aq (bc (zv HO380.out) hb) (aa ho0)) (aa ho1)) (aa ho2)) (fun _ h_ => h_.1))
 replace HO384 := zq (aj (aq (aq (aq (bc (zv HO384.out) hb) (aa ho0)) (aa ho1)) (aa ho2)) (fun _ h_ => h_.1))
 replace HO408 := zq (ap (aw (aw (aw (bf (zn HO408.out) hb) (aa ho0)) (aa ho1)) (aa ho2)) (fun _ h_ => h_.1))
 replace HO411 := zq (ap (aw (aw (aw (bf (zn HO411.out) hb) (aa ho0)) (aa ho1)) (aa ho2)) (fun _ h_ => h_.1))
 have HO416 := zq (ag ho0 (Xc (zs2 GE381.out GE385.out)))
 have HO419 := zq (ag ho1 (Xc (zs2 GE381.out GE385.out)))
 have HO422 := zq (ag ho2 (Xc (zs2 GE381.out GE385.out)))
 replace BK381 := zq (Xg (zk BK381.out) hb)
 replace BK385 := zq (Xg (zk BK385.out) hb)
 replace HB := zq (Xe (zs2 GE381.out GE385.out) hb)
 (try clear hb)
 (try clear hb2)
 (try clear hk)
 (try clear hi)
 (try clear ho0)
 (try clear ho1)
 (try clear ho2)
 refine hK.out _ _ (Xcp BK385.out) (fun hHeld => ?_)
 clear hK K
 refine Xap (a' := ?_) ?_ ?_
 rotate_left
 ·show Act.put _ (some 37) _ = _
  simp only [Act.put, List.setIfInBounds_toArray, List.set_cons_zero, List.set_cons_succ, Xan, Xaq]
  rfl
 refine Xcb (i := 4) (N := some 39) #[Y,Y,Y,Y,Y,Z,Z,Z,Z,Z,Z,Z] rfl rfl (Xbl HT_.out J17) J14 (fun K hK => ?_)
 refine goesV_ Try.func26 J17 rfl #[.int .i64 1] J63 rfl _ rfl rfl J3 ?_
 with_reducible refine (Xaw.calls 1 t423 t424 t427 t430 _ A7.out).mono ?_
 rintro e w67 ⟨v425, v428, v431, rfl, ho0, ho1, ho2, hb⟩
 refine ⟨_, rfl, ?_⟩
 replace HO380 := zq (aj (aq (aq (aq (bc (zv HO380.out) hb) (aa ho0)) (aa ho1)) (aa ho2)) (fun _ h_ => h_.1))
 replace HO384 := zq (aj (aq (aq (aq (bc (zv HO384.out) hb) (aa ho0)) (aa ho1)) (aa ho2)) (fun _ h_ => h_.1))
 replace HO408 := zq (ap (aw (aw (aw (bf (zn HO408.out) hb) (aa ho0)) (aa ho1)) (aa ho2)) (fun _ h_ => h_.1))
 replace HO411 := zq (ap (aw (aw (aw (bf (zn HO411.out) hb) (aa ho0)) (aa ho1)) (aa ho2)) (fun _ h_ => h_.1))
 replace HO416 := zq (af (bd (bd (bv (zr HO416.out) hb) (aa ho0)) (aa ho1)) (fun _ h_ => h_.1))
 replace HO419 := zq (af (bd (bd (bv (zr HO419.out) hb) (aa ho0)) (aa ho1)) (fun _ h_ => h_.1))
 replace HO422 := zq (ay (zr HO422.out) (aa ho2) hb)
 have HO426 := zq (ag ho0 (Xc (zs2 GE381.out GE385.out)))
 have HO429 := zq (ag ho1 (Xc (zs2 GE381.out GE385.out)))
 have HO432 := zq (ag ho2 (Xc (zs2 GE381.out GE385.out)))
 replace BK381 := zq (Xg (zk BK381.out) hb)
 replace BK385 := zq (Xg (zk BK385.out) hb)
 replace HB := zq (Xe (zs2 GE381.out GE385.out) hb)
 (try clear hb)
 (try clear hb2)
 (try clear hk)
 (try clear hi)
 (try clear ho0)
 (try clear ho1)
 (try clear ho2)
 obtain ⟨Ao68, co68, eo68⟩ := ah HO416.out
 (first | subst eo68 | (injection eo68 with f1_ f2_ f3_; have f4_ := f1_.symm; have f5_ := f3_.symm; clear f1_ f2_ f3_; subst f4_; subst f5_))
 obtain ⟨Ao69, co69, eo69⟩ := ah HO419.out
 (first | subst eo69 | (injection eo69 with f1_ f2_ f3_; have f4_ := f1_.symm; have f5_ := f3_.symm; clear f1_ f2_ f3_; subst f4_; subst f5_))
 obtain ⟨Ao70, co70, eo70⟩ := ah HO422.out
 (first | subst eo70 | (injection eo70 with f1_ f2_ f3_; have f4_ := f1_.symm; have f5_ := f3_.symm; clear f1_ f2_ f3_; subst f4_; subst f5_))
 obtain ⟨Ao71, co71, eo71⟩ := ah HO426.out
 (first | subst eo71 | (injection eo71 with f1_ f2_ f3_; have f4_ := f1_.symm; have f5_ := f3_.symm; clear f1_ f2_ f3_; subst f4_; subst f5_))
 obtain ⟨Ao72, co72, eo72⟩ := ah HO429.out
 (first | subst eo72 | (injection eo72 with f1_ f2_ f3_; have f4_ := f1_.symm; have f5_ := f3_.symm; clear f1_ f2_ f3_; subst f4_; subst f5_))
 obtain ⟨Ao73, co73, eo73⟩ := ah HO432.out
 (first | subst eo73 | (injection eo73 with f1_ f2_ f3_; have f4_ := f1_.symm; have f5_ := f3_.symm; clear f1_ f2_ f3_; subst f4_; subst f5_))
 refine hK.out _ _ (Xcp BK385.out) (fun hHeld => ?_)
 clear hK K
 refine Xap (a' := ?_) ?_ ?_
 rotate_left
 ·show Act.put _ (some 39) _ = _
  simp only [Act.put, List.setIfInBounds_toArray, List.set_cons_zero, List.set_cons_succ, Xan, Xaq]
  rfl
 refine Xcb (i := 5) (N := some 40) #[Y,Y,Y,Y,Y,Y,Z,Z,Z,Z,Z,Z] rfl rfl (Xbl HT_.out J17) J14 (fun K hK => ?_)
 refine bz k30 _ 30 ?hg (N' := 40) ?hd (xs := ([(⟨5, t382, ([] : List Int), ([] : List (S38))⟩ : S30), (⟨t413, t414, t417, t420⟩ : S30), (⟨t423, t424, t427, t430⟩ : S30)] : List (S30))) (inner := [.int .i64 5, .slice Ao47 t382.length co47, .slice none 0 0, .slice none 0 0, .int .i64 t413, .slice Ao68 t414.length co68, .slice Ao69 t417.length co69, .slice Ao70 t420.length co70, .int .i64 t423, .slice Ao71 t424.length co71, .slice Ao72 t427.length co72, .slice Ao73 t430.length co73]) (ok := fun _ => True) (okp := fun _ => True) ?hr ?hp (fun _ hk => hk) trivial (Below.refl _ _) (Nat.le_refl _) J83 ?_; (case hd => rfl); (case hg => rfl); (case hr => first | (go_simp; done) | (go_simp; rfl)); (case hp => exact (Reps.c4 (show Kd.FK k30 _ _ (⟨5, t382, ([] : List Int), ([] : List (S38))⟩ : S30) [.int .i64 5, .slice Ao47 t382.length co47, .slice none 0 0, .slice none 0 0] from (mkG _ _ (⟨5, t382, ([] : List Int), ([] : List (S38))⟩ : S30) ⟨(av (aj (ok' := fun _ => True) (HO384.out) (fun _ _ => trivial))).2.1, (cF (aj (ok' := fun _ => True) (HO384.out) (fun _ _ => trivial)))⟩ ⟨(Nat.le_refl _), (ba _ _ _)⟩ ⟨(Nat.le_refl _), (ba _ _ _)⟩)) (Reps.c4 (show Kd.FK k30 _ _ (⟨t413, t414, t417, t420⟩ : S30) [.int .i64 t413, .slice Ao68 t414.length co68, .slice Ao69 t417.length co69, .slice Ao70 t420.length co70] from (mkG _ _ (⟨t413, t414, t417, t420⟩ : S30) (rF (af (ok' := fun _ => True) (HO416.out) (fun _ _ => trivial))) (rF (af (ok' := fun _ => True) (HO419.out) (fun _ _ => trivial))) (rF (af (ok' := fun _ => True) (HO422.out) (fun _ _ => trivial))))) (Reps.c4 (show Kd.FK k30 _ _ (⟨t423, t424, t427, t430⟩ : S30) [.int .i64 t423, .slice Ao71 t424.length co71, .slice Ao72 t427.length co72, .slice Ao73 t430.length co73] from (mkG _ _ (⟨t423, t424, t427, t430⟩ : S30) (rF (af (ok' := fun _ => True) (HO426.out) (fun _ _ => trivial))) (rF (af (ok' := fun _ => True) (HO429.out) (fun _ _ => trivial))) (rF (af (ok' := fun _ => True) (HO432.out) (fun _ _ => trivial))))) (Reps.none _ _)))))
 intro v434 w74 ho75 hb hg_ hnew_
 clear hg_ hnew_
 (first | rw [← Ny433.out] at ho75 | (simp only [Int.reduceToNat] at ho75; rw [← Ny433.out] at ho75))
 replace HO380 := zq (am (zv HO380.out) (ao ho75) hb)
 replace HO384 := zq (am (zv HO384.out) (ao ho75) hb)
 replace HO408 := zq (ae (zn HO408.out) (ao ho75) hb)
 replace HO411 := zq (ae (zn HO411.out) (ao ho75) hb)
 have HO435 := zq (aH ho75 (Xc (zs2 GE381.out GE385.out)))
 replace BK381 := zq (Xg (zk BK381.out) hb)
 replace BK385 := zq (Xg (zk BK385.out) hb)
 replace HB := zq (Xe (zs2 GE381.out GE385.out) hb)
 clear HO416 HO419 HO422 HO426 HO429 HO432
 clear hb ho75
 obtain ⟨Ao76, co76, eo76⟩ := aJ HO435.out
 (first | subst eo76 | (injection eo76 with f1_ f2_ f3_; have f4_ := f1_.symm; have f5_ := f3_.symm; clear f1_ f2_ f3_; subst f4_; subst f5_))
 refine hK.out _ _ (Xcp BK385.out) (fun hHeld => ?_)
 clear hK K
 refine Xap (a' := ?_) ?_ ?_
 rotate_left
 ·show Act.put _ (some 40) _ = _
  simp only [Act.put, List.setIfInBounds_toArray, List.set_cons_zero, List.set_cons_succ, Xan, Xaq]
  rfl
 refine Xcb (i := 6) (N := some 41) #[Y,Y,Y,Y,Y,Y,Y,Z,Z,Z,Z,Z] rfl rfl (Xbl HT_.out J17) J14 (fun K hK => ?_)
 refine Xcx Try.func11 J17 rfl #[.slice Ao76 y433.length co76] J63 rfl rfl J3 ?_
 with_reducible refine (Xav.calls k (fun _ => True) _ _ y433 t436 true _ ?side1 A8.out).mono ?_
 (case side1 => exact Kd.N_V (HO435.out))
 rintro e w77 ⟨v437, rfl, ho0, hb⟩
 refine ⟨_, rfl, ?_⟩
 replace HO380 := zq (am (zv HO380.out) (ao ho0) hb)
 replace HO384 := zq (am (zv HO384.out) (ao ho0) hb)
 replace HO408 := zq (ae (zn HO408.out) (ao ho0) hb)
 replace HO411 := zq (ae (zn HO411.out) (ao ho0) hb)
 replace HO435 := zq (ae (zn HO435.out) (ao ho0) hb)
 have HO438 := zq (aH (ap (ok' := fun _ => True) ho0 (fun _ _ => trivial)) (Xc (zs2 GE381.out GE385.out)))
 replace BK381 := zq (Xg (zk BK381.out) hb)
 replace BK385 := zq (Xg (zk BK385.out) hb)
 replace HB := zq (Xe (zs2 GE381.out GE385.out) hb)
 (try clear hb)
 (try clear hb2)
 (try clear hk)
 (try clear hi)
 (try clear ho0)
 refine hK.out _ _ (Xcp BK385.out) (fun hHeld => ?_)
 clear hK K
 refine Xap (a' := ?_) ?_ ?_
 rotate_left
 ·show Act.put _ (some 41) _ = _
  simp only [Act.put, List.setIfInBounds_toArray, List.set_cons_zero, List.set_cons_succ, Xan, Xaq]
  rfl
 refine Xax 7 34 #[Y,Y,Y,Y,Y,Y,Y,Y,Z,Z,Z,Z] HT_ ?_
 refine Xax 8 42 #[Y,Y,Y,Y,Y,Y,Y,Y,Y,Z,Z,Z] HT_ ?_
 refine Xax 9 43 #[Y,Y,Y,Y,Y,Y,Y,Y,Y,Y,Z,Z] HT_ ?_
 refine Xax 10 6 #[Y,Y,Y,Y,Y,Y,Y,Y,Y,Y,Y,Z] HT_ ?_
 refine Xax 11 7 #[Y,Y,Y,Y,Y,Y,Y,Y,Y,Y,Y,Y] HT_ ?_
 refine Xd3 (Xcw HT_.out J17) ?_
 try go_wp2
 replace HO380 := zq (aA HO380.out)
 replace HO384 := zq (aA HO384.out)
 replace HO408 := zq (aC HO408.out)
 replace HO411 := zq (aC HO411.out)
 replace HO435 := zq (aC HO435.out)
 replace HO438 := zq (aC HO438.out)
 replace BK381 := zq (Xf BK381.out)
 replace BK385 := zq (Xf BK385.out)
 replace HB := zq (X9 HB.out)
 refine Xdb (n := 11) (S := fun w' => hdB4B4 w' gb385 (.int .i64 5) (.slice Ao47 t382.length co47) (.slice none 0 0) (.slice none 0 0) gb381 (.int .i64 3) (.slice none 0 0) (.slice Ao43 t378.length co43) (.slice none 0 0)) (ds := []) #[Z,Z,Z,Z,Z,Z,Z,Z,Z,Z,Z] J17 rfl rfl ⟨(Xx BK385.out 0).trans rfl, (Xx BK385.out 1).trans rfl, (Xx BK385.out 2).trans rfl, (Xx BK385.out 3).trans rfl, (Xx BK381.out 0).trans rfl, (Xx BK381.out 1).trans rfl, (Xx BK381.out 2).trans rfl, (Xx BK381.out 3).trans rfl⟩ (fun hHeld => ?_); refine Xb9 decklelaw11_small.tab6 decklelaw11_small.bits6 (fun HT_ HW_ => ?_)
 generalize w77.drew = w78 at HO380 HO384 HO408 HO411 HO435 HO438 BK381 BK385 HB hHeld ⊢
 refine Xax 2 47 #[Z,Z,Y,Z,Z,Z,Z,Z,Z,Z,Z] HT_ ?_
 refine Xcq (i := 0) (N := some 45) (v := ?_) (a' := ?_) #[Y,Z,Y,Z,Z,Z,Z,Z,Z,Z,Z] rfl rfl (Xbw HT_.out HW_.out J17) (fun _ _ _ h => h) (Or.inl ⟨J63, ?_⟩) hHeld ?_ ?_
 rotate_left
 ·rintro w' ⟨s0, s1, s2, s3, s4, s5, s6, s7⟩
  go_simp
  with_reducible rfl
 rotate_left
 ·exact pz1
 refine Xcq (i := 1) (N := some 46) (v := ?_) (a' := ?_) #[Y,Y,Y,Z,Z,Z,Z,Z,Z,Z,Z] rfl rfl (Xbw HT_.out HW_.out J17) (fun _ _ _ h => h) (Or.inl ⟨J63, ?_⟩) hHeld ?_ ?_
 rotate_left
 ·rintro w' ⟨s0, s1, s2, s3, s4, s5, s6, s7⟩
  go_simp
  with_reducible rfl
 rotate_left
 ·exact pz1
 refine Xcb (i := 3) (N := some 48) #[Y,Y,Y,Y,Z,Z,Z,Z,Z,Z,Z] rfl rfl (Xbl HT_.out J17) J14 (fun K hK => ?_)
 refine goesV_ Try.func26 J17 rfl #[.int .i64 1] J63 rfl _ rfl rfl J3 ?_
 with_reducible refine (Xaw.calls 1 t440 t441 t444 t447 _ A9.out).mono ?_
 rintro e w79 ⟨v442, v445, v448, rfl, ho0, ho1, ho2, hb⟩
 refine ⟨_, rfl, ?_⟩
 replace HO380 := zq (aj (aq (aq (aq (bc (zv HO380.out) hb) (aa ho0)) (aa ho1)) (aa ho2)) (fun _ h_ => h_.1))
 replace HO384 := zq (aj (aq (aq (aq (bc (zv HO384.out) hb) (aa ho0)) (aa ho1)) (aa ho2)) (fun _ h_ => h_.1))
 replace HO411 := zq (ap (aw (aw (aw (bf (zn HO411.out) hb) (aa ho0)) (aa ho1)) (aa ho2)) (fun _ h_ => h_.1))
 replace HO438 := zq (ap (aw (aw (aw (bf (zn HO438.out) hb) (aa ho0)) (aa ho1)) (aa ho2)) (fun _ h_ => h_.1))
 have HO443 := zq (ag ho0 (Xc (zs2 GE381.out GE385.out)))
 have HO446 := zq (ag ho1 (Xc (zs2 GE381.out GE385.out)))
 have HO449 := zq (ag ho2 (Xc (zs2 GE381.out GE385.out)))
 replace BK381 := zq (Xg (zk BK381.out) hb)
 replace BK385 := zq (Xg (zk BK385.out) hb)
 replace HB := zq (Xe (zs2 GE381.out GE385.out) hb)
 (try clear hb)
 (try clear hb2)
 (try clear hk)
 (try clear hi)
 (try clear ho0)
 (try clear ho1)
 (try clear ho2)
 obtain ⟨Ao80, co80, eo80⟩ := ah HO443.out
 (first | subst eo80 | (injection eo80 with f1_ f2_ f3_; have f4_ := f1_.symm; have f5_ := f3_.symm; clear f1_ f2_ f3_; subst f4_; subst f5_))
 obtain ⟨Ao81, co81, eo81⟩ := ah HO446.out
 (first | subst eo81 | (injection eo81 with f1_ f2_ f3_; have f4_ := f1_.symm; have f5_ := f3_.symm; clear f1_ f2_ f3_; subst f4_; subst f5_))
 obtain ⟨Ao82, co82, eo82⟩ := ah HO449.out
 (first | subst eo82 | (injection eo82 with f1_ f2_ f3_; have f4_ := f1_.symm; have f5_ := f3_.symm; clear f1_ f2_ f3_; subst f4_; subst f5_))
 refine hK.out _ _ ⟨(Xx BK385.out 0).trans rfl, (Xx BK385.out 1).trans rfl, (Xx BK385.out 2).trans rfl, (Xx BK385.out 3).trans rfl, (Xx BK381.out 0).trans rfl, (Xx BK381.out 1).trans rfl, (Xx BK381.out 2).trans rfl, (Xx BK381.out 3).trans rfl⟩ (fun hHeld => ?_)
 clear hK K
 refine Xap (a' := ?_) ?_ ?_
 rotate_left
 ·show Act.put _ (some 48) _ = _
  simp only [Act.put, List.setIfInBounds_toArray, List.set_cons_zero, List.set_cons_succ, Xan, Xaq]
  rfl
 refine Xcb (i := 4) (N := some 49) #[Y,Y,Y,Y,Y,Z,Z,Z,Z,Z,Z] rfl rfl (Xbl HT_.out J17) J14 (fun K hK => ?_)
 refine bz k30 _ 30 ?hg (N' := 49) ?hd (xs := ([(⟨5, t382, ([] : List Int), ([] : List (S38))⟩ : S30), (⟨3, ([] : List Int), t378, ([] : List (S38))⟩ : S30), (⟨t440, t441, t444, t447⟩ : S30)] : List (S30))) (inner := [.int .i64 5, .slice Ao47 t382.length co47, .slice none 0 0, .slice none 0 0, .int .i64 3, .slice none 0 0, .slice Ao43 t378.length co43, .slice none 0 0, .int .i64 t440, .slice Ao80 t441.length co80, .slice Ao81 t444.length co81, .slice Ao82 t447.length co82]) (ok := fun _ => True) (okp := fun _ => True) ?hr ?hp (fun _ hk => hk) trivial (Below.refl _ _) (Nat.le_refl _) J83 ?_; (case hd => rfl); (case hg => rfl); (case hr => first | (go_simp; done) | (go_simp; rfl)); (case hp => exact (Reps.c4 (show Kd.FK k30 _ _ (⟨5, t382, ([] : List Int), ([] : List (S38))⟩ : S30) [.int .i64 5, .slice Ao47 t382.length co47, .slice none 0 0, .slice none 0 0] from (mkG _ _ (⟨5, t382, ([] : List Int), ([] : List (S38))⟩ : S30) ⟨(av (aj (ok' := fun _ => True) (HO384.out) (fun _ _ => trivial))).2.1, (cF (aj (ok' := fun _ => True) (HO384.out) (fun _ _ => trivial)))⟩ ⟨(Nat.le_refl _), (ba _ _ _)⟩ ⟨(Nat.le_refl _), (ba _ _ _)⟩)) (Reps.c4 (show Kd.FK k30 _ _ (⟨3, ([] : List Int), t378, ([] : List (S38))⟩ : S30) [.int .i64 3, .slice none 0 0, .slice Ao43 t378.length co43, .slice none 0 0] from (mkG _ _ (⟨3, ([] : List Int), t378, ([] : List (S38))⟩ : S30) ⟨(Nat.le_refl _), (ba _ _ _)⟩ ⟨(av (aj (ok' := fun _ => True) (HO380.out) (fun _ _ => trivial))).2.1, (cF (aj (ok' := fun _ => True) (HO380.out) (fun _ _ => trivial)))⟩ ⟨(Nat.le_refl _), (ba _ _ _)⟩)) (Reps.c4 (show Kd.FK k30 _ _ (⟨t440, t441, t444, t447⟩ : S30) [.int .i64 t440, .slice Ao80 t441.length co80, .slice Ao81 t444.length co81, .slice Ao82 t447.length co82] from (mkG _ _ (⟨t440, t441, t444, t447⟩ : S30) (rF (af (ok' := fun _ => True) (HO443.out) (fun _ _ => trivial))) (rF (af (ok' := fun _ => True) (HO446.out) (fun _ _ => trivial))) (rF (af (ok' := fun _ => True) (HO449.out) (fun _ _ => trivial))))) (Reps.none _ _)))))
 intro v451 w83 ho84 hb hg_ hnew_
 clear hg_ hnew_
 (first | rw [← Ny450.out] at ho84 | (simp only [Int.reduceToNat] at ho84; rw [← Ny450.out] at ho84))
 replace HO380 := zq (am (zv HO380.out) (ao ho84) hb)
 replace HO384 := zq (am (zv HO384.out) (ao ho84) hb)
 replace HO411 := zq (ae (zn HO411.out) (ao ho84) hb)
 replace HO438 := zq (ae (zn HO438.out) (ao ho84) hb)
 have HO452 := zq (aH ho84 (Xc (zs2 GE381.out GE385.out)))
 replace BK381 := zq (Xg (zk BK381.out) hb)
 replace BK385 := zq (Xg (zk BK385.out) hb)
 replace HB := zq (Xe (zs2 GE381.out GE385.out) hb)
 clear HO443 HO446 HO449
 clear hb ho84
 obtain ⟨Ao85, co85, eo85⟩ := aJ HO452.out
 (first | subst eo85 | (injection eo85 with f1_ f2_ f3_; have f4_ := f1_.symm; have f5_ := f3_.symm; clear f1_ f2_ f3_; subst f4_; subst f5_))
 refine hK.out _ _ ⟨(Xx BK385.out 0).trans rfl, (Xx BK385.out 1).trans rfl, (Xx BK385.out 2).trans rfl, (Xx BK385.out 3).trans rfl, (Xx BK381.out 0).trans rfl, (Xx BK381.out 1).trans rfl, (Xx BK381.out 2).trans rfl, (Xx BK381.out 3).trans rfl⟩ (fun hHeld => ?_)
 clear hK K
 refine Xap (a' := ?_) ?_ ?_
 rotate_left
 ·show Act.put _ (some 49) _ = _
  simp only [Act.put, List.setIfInBounds_toArray, List.set_cons_zero, List.set_cons_succ, Xan, Xaq]
  rfl
 refine Xcb (i := 5) (N := some 50) #[Y,Y,Y,Y,Y,Y,Z,Z,Z,Z,Z] rfl rfl (Xbl HT_.out J17) J14 (fun K hK => ?_)
 refine Xcx Try.func11 J17 rfl #[.slice Ao85 y450.length co85] J63 rfl rfl J3 ?_
 with_reducible refine (Xav.calls k (fun _ => True) _ _ y450 t453 true _ ?side1 A10.out).mono ?_
 (case side1 => exact Kd.N_V (HO452.out))
 rintro e w86 ⟨v454, rfl, ho0, hb⟩
 refine ⟨_, rfl, ?_⟩
 replace HO380 := zq (am (zv HO380.out) (ao ho0) hb)
 replace HO384 := zq (am (zv HO384.out) (ao ho0) hb)
 replace HO411 := zq (ae (zn HO411.out) (ao ho0) hb)
 replace HO438 := zq (ae (zn HO438.out) (ao ho0) hb)
 have HO455 := zq (aH (ap (ok' := fun _ => True) ho0 (fun _ _ => trivial)) (Xc (zs2 GE381.out GE385.out)))
 replace BK381 := zq (Xg (zk BK381.out) hb)
 replace BK385 := zq (Xg (zk BK385.out) hb)
 replace HB := zq (Xe (zs2 GE381.out GE385.out) hb)
 (try clear hb)
 (try clear hb2)
 (try clear hk)
 (try clear hi)
 (try clear ho0)
 refine hK.out _ _ ⟨(Xx BK385.out 0).trans rfl, (Xx BK385.out 1).trans rfl, (Xx BK385.out 2).trans rfl, (Xx BK385.out 3).trans rfl, (Xx BK381.out 0).trans rfl, (Xx BK381.out 1).trans rfl, (Xx BK381.out 2).trans rfl, (Xx BK381.out 3).trans rfl⟩ (fun hHeld => ?_)
 clear hK K
 refine Xap (a' := ?_) ?_ ?_
 rotate_left
 ·show Act.put _ (some 50) _ = _
  simp only [Act.put, List.setIfInBounds_toArray, List.set_cons_zero, List.set_cons_succ, Xan, Xaq]
  rfl
 refine Xax 6 44 #[Y,Y,Y,Y,Y,Y,Y,Z,Z,Z,Z] HT_ ?_
 refine Xax 7 51 #[Y,Y,Y,Y,Y,Y,Y,Y,Z,Z,Z] HT_ ?_
 refine Xax 8 52 #[Y,Y,Y,Y,Y,Y,Y,Y,Y,Z,Z] HT_ ?_
 refine Xax 9 8 #[Y,Y,Y,Y,Y,Y,Y,Y,Y,Y,Z] HT_ ?_
 refine Xax 10 9 #[Y,Y,Y,Y,Y,Y,Y,Y,Y,Y,Y] HT_ ?_
 refine Xd3 (Xcw HT_.out J17) ?_
 go_upto_region 12 with (first | ((with_reducible refine Xj (N := 54) rfl ?_); (try (refine Xw J63 ?_; dsimp only)); refine lwR (Kd.int .i64) 3 54 (xs := ([0] : List Int)) [.int .i64 0] Ny457 (Reps.one (show Kd.M (Kd.int .i64) _ _ _ 0 [.int .i64 0] from rfl) (Reps.none _ _)) ?_; intro v458 w87 ho88 hb; replace HO380 := zq (am (zv HO380.out) (aa ho88) hb); replace HO384 := zq (am (zv HO384.out) (aa ho88) hb); replace HO411 := zq (ae (zn HO411.out) (aa ho88) hb); replace HO438 := zq (ae (zn HO438.out) (aa ho88) hb); replace HO455 := zq (ae (zn HO455.out) (aa ho88) hb); have HO459 := zq (ag ho88 (Xc (zs2 GE381.out GE385.out))); replace BK381 := zq (Xg (zk BK381.out) hb); replace BK385 := zq (Xg (zk BK385.out) hb); replace HB := zq (Xe (zs2 GE381.out GE385.out) hb); clear hb ho88; obtain ⟨Ao89, co89, eo89⟩ := ah HO459.out; subst eo89) | ((with_reducible refine Xj (N := 56) rfl ?_); (try (refine Xw J63 ?_; dsimp only)); refine lwN k30 30 56 (xs := ([(⟨5, y457, ([] : List Int), ([] : List (S38))⟩ : S30)] : List (S30))) [.int .i64 5, .slice Ao89 y457.length co89, .slice none 0 0, .slice none 0 0] Ny460 (Reps.c4 (show Kd.FK k30 _ _ (⟨5, y457, ([] : List Int), ([] : List (S38))⟩ : S30) [.int .i64 5, .slice Ao89 y457.length co89, .slice none 0 0, .slice none 0 0] from (mkG _ _ (⟨5, y457, ([] : List Int), ([] : List (S38))⟩ : S30) (rF (af (ok' := fun _ => True) (HO459.out) (fun _ _ => trivial))) ⟨(Nat.le_refl _), (ba _ _ _)⟩ ⟨(Nat.le_refl _), (ba _ _ _)⟩)) (Reps.none _ _)) ?_; intro v461 w90 ho91 hb; replace HO380 := zq (am (zv HO380.out) (ao ho91) hb); replace HO384 := zq (am (zv HO384.out) (ao ho91) hb); replace HO411 := zq (ae (zn HO411.out) (ao ho91) hb); replace HO438 := zq (ae (zn HO438.out) (ao ho91) hb); replace HO455 := zq (ae (zn HO455.out) (ao ho91) hb); have HO462 := zq (aH ho91 (Xc (zs2 GE381.out GE385.out))); replace BK381 := zq (Xg (zk BK381.out) hb); replace BK385 := zq (Xg (zk BK385.out) hb); replace HB := zq (Xe (zs2 GE381.out GE385.out) hb); clear HO459; clear hb ho91; obtain ⟨Ao92, co92, eo92⟩ := aJ HO462.out; subst eo92) | ((with_reducible refine Xi (f := 11) rfl ?_); refine gL 57 Try.func11 #[.slice Ao92 y460.length co92] (Xav.calls k (fun _ => True) _ _ y460 t463 true _ (Kd.N_V (HO462.out)) A11.out) ?_; rintro e w93 ⟨v464, rfl, ho0, hb⟩; refine ⟨_, rfl, ?_⟩; replace HO380 := zq (am (zv HO380.out) (ao ho0) hb); replace HO384 := zq (am (zv HO384.out) (ao ho0) hb); replace HO411 := zq (ae (zn HO411.out) (ao ho0) hb); replace HO438 := zq (ae (zn HO438.out) (ao ho0) hb); replace HO455 := zq (ae (zn HO455.out) (ao ho0) hb); have HO465 := zq (aH (ap (ok' := fun _ => True) ho0 (fun _ _ => trivial)) (Xc (zs2 GE381.out GE385.out))); replace BK381 := zq (Xg (zk BK381.out) hb); replace BK385 := zq (Xg (zk BK385.out) hb); replace HB := zq (Xe (zs2 GE381.out GE385.out) hb); (try clear hb); (try clear hk); (try clear ho0)) | ((with_reducible refine Xj (N := 63) rfl ?_); (try (refine Xw J63 ?_; dsimp only)); refine lwR k38 38 63 (xs := ([(⟨2, 0⟩ : S38)] : List (S38))) [.int .i64 2, .int .i64 0] Ny467 (Reps.c2 (show Kd.M k38 _ _ _ (⟨2, 0⟩ : S38) [.int .i64 2, .int .i64 0] from (Xdn _ _ _ (⟨2, 0⟩ : S38) )) (Reps.none _ _)) ?_; intro v468 w94 ho95 hb; replace HO380 := zq (am (zv HO380.out) (aa ho95) hb); replace HO384 := zq (am (zv HO384.out) (aa ho95) hb); replace HO411 := zq (ae (zn HO411.out) (aa ho95) hb); replace HO438 := zq (ae (zn HO438.out) (aa ho95) hb); replace HO455 := zq (ae (zn HO455.out) (aa ho95) hb); replace HO465 := zq (ae (zn HO465.out) (aa ho95) hb); have HO469 := zq (ag ho95 (Xc (zs2 GE381.out GE385.out))); replace BK381 := zq (Xg (zk BK381.out) hb); replace BK385 := zq (Xg (zk BK385.out) hb); replace HB := zq (Xe (zs2 GE381.out GE385.out) hb); clear hb ho95; obtain ⟨Ao96, co96, eo96⟩ := ah HO469.out; subst eo96) | ((with_reducible refine Xj (N := 65) rfl ?_); (try (refine Xw J63 ?_; dsimp only)); refine lwN k30 30 65 (xs := ([(⟨5, ([] : List Int), ([] : List Int), ([] : List (S38))⟩ : S30), (⟨4, ([] : List Int), ([] : List Int), y467⟩ : S30)] : List (S30))) [.int .i64 5, .slice none 0 0, .slice none 0 0, .slice none 0 0, .int .i64 4, .slice none 0 0, .slice none 0 0, .slice Ao96 y467.length co96] Ny470 (Reps.c4 (show Kd.FK k30 _ _ (⟨5, ([] : List Int), ([] : List Int), ([] : List (S38))⟩ : S30) [.int .i64 5, .slice none 0 0, .slice none 0 0, .slice none 0 0] from (mkG _ _ (⟨5, ([] : List Int), ([] : List Int), ([] : List (S38))⟩ : S30) ⟨(Nat.le_refl _), (ba _ _ _)⟩ ⟨(Nat.le_refl _), (ba _ _ _)⟩ ⟨(Nat.le_refl _), (ba _ _ _)⟩)) (Reps.c4 (show Kd.FK k30 _ _ (⟨4, ([] : List Int), ([] : List Int), y467⟩ : S30) [.int .i64 4, .slice none 0 0, .slice none 0 0, .slice Ao96 y467.length co96] from (mkG _ _ (⟨4, ([] : List Int), ([] : List Int), y467⟩ : S30) ⟨(Nat.le_refl _), (ba _ _ _)⟩ ⟨(Nat.le_refl _), (ba _ _ _)⟩ (rF (af (ok' := fun _ => True) (HO469.out) (fun _ _ => trivial))))) (Reps.none _ _))) ?_; intro v471 w97 ho98 hb; replace HO380 := zq (am (zv HO380.out) (ao ho98) hb); replace HO384 := zq (am (zv HO384.out) (ao ho98) hb); replace HO411 := zq (ae (zn HO411.out) (ao ho98) hb); replace HO438 := zq (ae (zn HO438.out) (ao ho98) hb); replace HO455 := zq (ae (zn HO455.out) (ao ho98) hb); replace HO465 := zq (ae (zn HO465.out) (ao ho98) hb); have HO472 := zq (aH ho98 (Xc (zs2 GE381.out GE385.out))); replace BK381 := zq (Xg (zk BK381.out) hb); replace BK385 := zq (Xg (zk BK385.out) hb); replace HB := zq (Xe (zs2 GE381.out GE385.out) hb); clear HO469; clear hb ho98; obtain ⟨Ao99, co99, eo99⟩ := aJ HO472.out; subst eo99) | ((with_reducible refine Xi (f := 11) rfl ?_); refine gL 66 Try.func11 #[.slice Ao99 y470.length co99] (Xav.calls k (fun _ => True) _ _ y470 t473 true _ (Kd.N_V (HO472.out)) A12.out) ?_; rintro e w100 ⟨v474, rfl, ho0, hb⟩; refine ⟨_, rfl, ?_⟩; replace HO380 := zq (am (zv HO380.out) (ao ho0) hb); replace HO384 := zq (am (zv HO384.out) (ao ho0) hb); replace HO411 := zq (ae (zn HO411.out) (ao ho0) hb); replace HO438 := zq (ae (zn HO438.out) (ao ho0) hb); replace HO455 := zq (ae (zn HO455.out) (ao ho0) hb); replace HO465 := zq (ae (zn HO465.out) (ao ho0) hb); have HO475 := zq (aH (ap (ok' := fun _ => True) ho0 (fun _ _ => trivial)) (Xc (zs2 GE381.out GE385.out))); replace BK381 := zq (Xg (zk BK381.out) hb); replace BK385 := zq (Xg (zk BK385.out) hb); replace HB := zq (Xe (zs2 GE381.out GE385.out) hb); (try clear hb); (try clear hk); (try clear ho0)) | ((with_reducible refine Xi (f := 11) rfl ?_); refine Xbz (some 70) rfl rfl Try.func11 J17 rfl #[.slice none 0 0] rfl J3 ?_; (refine (Xav.calls k (fun _ => True) _ _ ([] : List (S30)) t477 false _ ?side1 A13.out).mono ?_); (case side1 => exact cq _ _ _ _ _); rintro e w101 ⟨v478, rfl, ho0, hb⟩; refine ⟨_, rfl, ?_⟩; replace HO380 := zq (am (zv HO380.out) (ao ho0) hb); replace HO384 := zq (am (zv HO384.out) (ao ho0) hb); replace HO411 := zq (ae (zn HO411.out) (ao ho0) hb); replace HO438 := zq (ae (zn HO438.out) (ao ho0) hb); replace HO455 := zq (ae (zn HO455.out) (ao ho0) hb); replace HO465 := zq (ae (zn HO465.out) (ao ho0) hb); replace HO475 := zq (ae (zn HO475.out) (ao ho0) hb); replace BK381 := zq (Xg (zk BK381.out) hb); replace BK385 := zq (Xg (zk BK385.out) hb); replace HB := zq (Xe (zs2 GE381.out GE385.out) hb); (try clear hb); (try clear hk); (try clear ho0)) | ((with_reducible refine Xj (N := 74) rfl ?_); (try (refine Xw J63 ?_; dsimp only)); refine lwR (Kd.int .i64) 3 74 (xs := ([1] : List Int)) [.int .i64 1] Ny481 (Reps.one (show Kd.M (Kd.int .i64) _ _ _ 1 [.int .i64 1] from rfl) (Reps.none _ _)) ?_; intro v482 w102 ho103 hb; replace HO380 := zq (am (zv HO380.out) (aa ho103) hb); replace HO384 := zq (am (zv HO384.out) (aa ho103) hb); replace HO411 := zq (ae (zn HO411.out) (aa ho103) hb); replace HO438 := zq (ae (zn HO438.out) (aa ho103) hb); replace HO455 := zq (ae (zn HO455.out) (aa ho103) hb); replace HO465 := zq (ae (zn HO465.out) (aa ho103) hb); replace HO475 := zq (ae (zn HO475.out) (aa ho103) hb); have HO483 := zq (ag ho103 (Xc (zs2 GE381.out GE385.out))); replace BK381 := zq (Xg (zk BK381.out) hb); replace BK385 := zq (Xg (zk BK385.out) hb); replace HB := zq (Xe (zs2 GE381.out GE385.out) hb); clear hb ho103) | ((with_reducible refine Xj (N := 76) rfl ?_); (try (refine Xw J63 ?_; dsimp only)); refine lwR k38 38 76 (xs := ([(⟨15, (-1)⟩ : S38)] : List (S38))) [.int .i64 15, .int .i64 (-1)] Ny484 (Reps.c2 (show Kd.M k38 _ _ _ (⟨15, (-1)⟩ : S38) [.int .i64 15, .int .i64 (-1)] from (Xdn _ _ _ (⟨15, (-1)⟩ : S38) )) (Reps.none _ _)) ?_; intro v485 w104 ho105 hb; replace HO380 := zq (am (zv HO380.out) (aa ho105) hb); replace HO384 := zq (am (zv HO384.out) (aa ho105) hb); replace HO411 := zq (ae (zn HO411.out) (aa ho105) hb); replace HO438 := zq (ae (zn HO438.out) (aa ho105) hb); replace HO455 := zq (ae (zn HO455.out) (aa ho105) hb); replace HO465 := zq (ae (zn HO465.out) (aa ho105) hb); replace HO475 := zq (ae (zn HO475.out) (aa ho105) hb); replace HO483 := zq (ab (zr HO483.out) hb); have HO486 := zq (ag ho105 (Xc (zs2 GE381.out GE385.out))); replace BK381 := zq (Xg (zk BK381.out) hb); replace BK385 := zq (Xg (zk BK385.out) hb); replace HB := zq (Xe (zs2 GE381.out GE385.out) hb); clear hb ho105; obtain ⟨Ao106, co106, eo106⟩ := ah HO483.out; subst eo106; obtain ⟨Ao107, co107, eo107⟩ := ah HO486.out; subst eo107) | ((with_reducible refine Xi (f := 13) rfl ?_); refine gL 77 Try.func13 #[.slice Ao106 y481.length co106, .slice Ao107 y484.length co107] (X2.calls k _ _ y481 _ _ y484 t487 t488 t491 t494 true _ (zc ((an HO483.out).2.2)) ((an HO483.out).2.1) (zc ((an HO486.out).2.2)) ((an HO486.out).2.1) A14.out) ?_; rintro e w108 ⟨v489, v492, v495, rfl, ho0, ho1, ho2, hb⟩; refine ⟨_, rfl, ?_⟩; replace HO380 := zq (aj (aq (aq (aq (bc (zv HO380.out) hb) (aa ho0)) (aa ho1)) (aa ho2)) (fun _ h_ => h_.1)); replace HO384 := zq (aj (aq (aq (aq (bc (zv HO384.out) hb) (aa ho0)) (aa ho1)) (aa ho2)) (fun _ h_ => h_.1)); replace HO411 := zq (ap (aw (aw (aw (bf (zn HO411.out) hb) (aa ho0)) (aa ho1)) (aa ho2)) (fun _ h_ => h_.1)); replace HO438 := zq (ap (aw (aw (aw (bf (zn HO438.out) hb) (aa ho0)) (aa ho1)) (aa ho2)) (fun _ h_ => h_.1)); replace HO455 := zq (ap (aw (aw (aw (bf (zn HO455.out) hb) (aa ho0)) (aa ho1)) (aa ho2)) (fun _ h_ => h_.1)); replace HO465 := zq (ap (aw (aw (aw (bf (zn HO465.out) hb) (aa ho0)) (aa ho1)) (aa ho2)) (fun _ h_ => h_.1)); replace HO475 := zq (ap (aw (aw (aw (bf (zn HO475.out) hb) (aa ho0)) (aa ho1)) (aa ho2)) (fun _ h_ => h_.1)); have HO490 := zq (ag ho0 (Xc (zs2 GE381.out GE385.out))); have HO493 := zq (ag ho1 (Xc (zs2 GE381.out GE385.out))); have HO496 := zq (ag ho2 (Xc (zs2 GE381.out GE385.out))); replace BK381 := zq (Xg (zk BK381.out) hb); replace BK385 := zq (Xg (zk BK385.out) hb); replace HB := zq (Xe (zs2 GE381.out GE385.out) hb); (try clear hb); (try clear hk); (try clear ho0); (try clear ho1); (try clear ho2)) | ((with_reducible refine Xj (N := 16) rfl ?_); (try (refine Xw J63 ?_; dsimp only)); refine bxw 16 30 #[.int .i64 0, .slice none 0 0, .slice none 0 0, .slice none 0 0] ?_; intro gb498 hg w109 hbox hb; replace HO380 := zq (ax (aE (zv HO380.out) gb498 (Nat.le_of_eq hg.symm)) hb); replace HO384 := zq (ax (aE (zv HO384.out) gb498 (Nat.le_of_eq hg.symm)) hb); replace HO411 := zq (aD (aU (zn HO411.out) gb498 (Nat.le_of_eq hg.symm)) hb); replace HO438 := zq (aD (aU (zn HO438.out) gb498 (Nat.le_of_eq hg.symm)) hb); replace HO455 := zq (aD (aU (zn HO455.out) gb498 (Nat.le_of_eq hg.symm)) hb); replace HO465 := zq (aD (aU (zn HO465.out) gb498 (Nat.le_of_eq hg.symm)) hb); replace HO475 := zq (aD (aU (zn HO475.out) gb498 (Nat.le_of_eq hg.symm)) hb); replace HO490 := zq (ab (zr HO490.out) hb); replace HO493 := zq (ab (zr HO493.out) hb); replace HO496 := zq (ab (zr HO496.out) hb); have BK498 := zq (hbox); have GE498 := zq ((by rw [hg]; exact (Xc (zs2 GE381.out GE385.out)) : w.heap.size ≤ gb498)); replace HB := zq (Xe (zs2 GE381.out GE385.out) hb); have NB381_498 := zq ((J94 : gb381 ≠ gb498)); have NB498_381 := zq ((J95 : gb498 ≠ gb381)); replace BK381 := zq (Xg (zk BK381.out) hb); have NB385_498 := zq ((J136 : gb385 ≠ gb498)); have NB498_385 := zq ((J137 : gb498 ≠ gb385)); replace BK385 := zq (Xg (zk BK385.out) hb); clear hb hbox hg; have hnb110 := NB498_381.out; have hnc110 := NB381_498.out; have hnb111 := NB498_385.out; have hnc111 := NB385_498.out; have Z112 := cz4 BK498.out; obtain ⟨Ao113, co113, eo113⟩ := ah HO490.out; subst eo113; obtain ⟨Ao114, co114, eo114⟩ := ah HO493.out; subst eo114; obtain ⟨Ao115, co115, eo115⟩ := ah HO496.out; subst eo115) | ((with_reducible refine Xj (N := 81) rfl ?_); (try (refine Xw J63 ?_; dsimp only)); refine lwR (Kd.int .i64) 3 81 (xs := ([2] : List Int)) [.int .i64 2] Ny499 (Reps.one (show Kd.M (Kd.int .i64) _ _ _ 2 [.int .i64 2] from rfl) (Reps.none _ _)) ?_; intro v500 w116 ho117 hb; replace HO380 := zq (am J117 (aa ho117) hb); replace HO384 := zq (am J169 (aa ho117) hb); replace HO411 := zq (ae J170 (aa ho117) hb); replace HO438 := zq (ae J171 (aa ho117) hb); replace HO455 := zq (ae J172 (aa ho117) hb); replace HO465 := zq (ae J173 (aa ho117) hb); replace HO475 := zq (ae J174 (aa ho117) hb); replace HO490 := zq (ay (by (with_reducible repeat (first | apply Kd.R_alloc | apply ai | apply ak)); exact (gT4 HO490.out BK498.out)) (aa ho117) hb); replace HO493 := zq (ay (by (with_reducible repeat (first | apply Kd.R_alloc | apply ai | apply ak)); exact (gT4 HO493.out BK498.out)) (aa ho117) hb); replace HO496 := zq (ab (by (with_reducible repeat (first | apply Kd.R_alloc | apply ai | apply ak)); exact (gT4 HO496.out BK498.out)) hb); have HO501 := zq (ag ho117 (Xc (zs3 GE381.out GE385.out GE498.out))); replace BK381 := zq (Xg (g := gb381) (o := .cells #[.int .i64 3, .slice none 0 0, .slice Ao43 t378.length co43, .slice none 0 0] 30 (0, 0)) (by (with_reducible repeat (first | refine Xd ?_ _ | refine Xf ?_ | refine Xb ?_ _)); refine Xab ?_ NB381_498.out _; (with_reducible repeat (first | refine Xd ?_ _ | refine Xf ?_ | refine Xb ?_ _)); refine Xab ?_ NB381_498.out _; (with_reducible repeat (first | refine Xd ?_ _ | refine Xf ?_ | refine Xb ?_ _)); refine Xab ?_ NB381_498.out _; (with_reducible repeat (first | refine Xd ?_ _ | refine Xf ?_ | refine Xb ?_ _)); refine Xab ?_ NB381_498.out _; (with_reducible repeat (first | refine Xd ?_ _ | refine Xf ?_ | refine Xb ?_ _)); exact BK381.out) hb); replace BK385 := zq (Xg (g := gb385) (o := .cells #[.int .i64 5, .slice Ao47 t382.length co47, .slice none 0 0, .slice none 0 0] 30 (0, 0)) (by (with_reducible repeat (first | refine Xd ?_ _ | refine Xf ?_ | refine Xb ?_ _)); refine Xab ?_ NB385_498.out _; (with_reducible repeat (first | refine Xd ?_ _ | refine Xf ?_ | refine Xb ?_ _)); refine Xab ?_ NB385_498.out _; (with_reducible repeat (first | refine Xd ?_ _ | refine Xf ?_ | refine Xb ?_ _)); refine Xab ?_ NB385_498.out _; (with_reducible repeat (first | refine Xd ?_ _ | refine Xf ?_ | refine Xb ?_ _)); refine Xab ?_ NB385_498.out _; (with_reducible repeat (first | refine Xd ?_ _ | refine Xf ?_ | refine Xb ?_ _)); exact BK385.out) hb); replace BK498 := zq (Xg (g := gb498) (o := .cells #[.int .i64 t487, .slice Ao113 t488.length co113, .slice Ao114 t491.length co114, .slice Ao115 t494.length co115] 30 (0, 0)) (by (with_reducible repeat (first | refine Xd ?_ _ | refine Xf ?_ | refine Xb ?_ _)); refine Xk (cs := #[.int .i64 t487, .slice Ao113 t488.length co113, .slice Ao114 t491.length co114, .slice none 0 0]) ?_ 3 _ rfl; (with_reducible repeat (first | refine Xd ?_ _ | refine Xf ?_ | refine Xb ?_ _)); refine Xk (cs := #[.int .i64 t487, .slice Ao113 t488.length co113, .slice none 0 0, .slice none 0 0]) ?_ 2 _ rfl; (with_reducible repeat (first | refine Xd ?_ _ | refine Xf ?_ | refine Xb ?_ _)); refine Xk (cs := #[.int .i64 t487, .slice none 0 0, .slice none 0 0, .slice none 0 0]) ?_ 1 _ rfl; (with_reducible repeat (first | refine Xd ?_ _ | refine Xf ?_ | refine Xb ?_ _)); refine Xk (cs := #[.int .i64 0, .slice none 0 0, .slice none 0 0, .slice none 0 0]) ?_ 0 _ rfl; (with_reducible repeat (first | refine Xd ?_ _ | refine Xf ?_ | refine Xb ?_ _)); exact BK498.out) hb); replace HB := zq (Xe (zs3 GE381.out GE385.out GE498.out) hb); clear hb ho117) | ((with_reducible refine Xj (N := 83) rfl ?_); (try (refine Xw J63 ?_; dsimp only)); refine lwR k38 38 83 (xs := ([(⟨1, 0⟩ : S38)] : List (S38))) [.int .i64 1, .int .i64 0] Ny502 (Reps.c2 (show Kd.M k38 _ _ _ (⟨1, 0⟩ : S38) [.int .i64 1, .int .i64 0] from (Xdn _ _ _ (⟨1, 0⟩ : S38) )) (Reps.none _ _)) ?_; intro v503 w118 ho119 hb; replace HO380 := zq (am (zv HO380.out) (aa ho119) hb); replace HO384 := zq (am (zv HO384.out) (aa ho119) hb); replace HO411 := zq (ae (zn HO411.out) (aa ho119) hb); replace HO438 := zq (ae (zn HO438.out) (aa ho119) hb); replace HO455 := zq (ae (zn HO455.out) (aa ho119) hb); replace HO465 := zq (ae (zn HO465.out) (aa ho119) hb); replace HO475 := zq (ae (zn HO475.out) (aa ho119) hb); replace HO490 := zq (ab (zr HO490.out) hb); replace HO493 := zq (ab (zr HO493.out) hb); replace HO496 := zq (ay (zr HO496.out) (aa ho119) hb); replace HO501 := zq (ab (zr HO501.out) hb); have HO504 := zq (ag ho119 (Xc (zs3 GE381.out GE385.out GE498.out))); replace BK381 := zq (Xg (zk BK381.out) hb); replace BK385 := zq (Xg (zk BK385.out) hb); replace BK498 := zq (Xg (zk BK498.out) hb); replace HB := zq (Xe (zs3 GE381.out GE385.out GE498.out) hb); clear hb ho119; obtain ⟨Ao120, co120, eo120⟩ := ah HO501.out; subst eo120; obtain ⟨Ao121, co121, eo121⟩ := ah HO504.out; subst eo121) | ((with_reducible refine Xi (f := 13) rfl ?_); refine gL 84 Try.func13 #[.slice Ao120 y499.length co120, .slice Ao121 y502.length co121] (X2.calls k _ _ y499 _ _ y502 t505 t506 t509 t512 false _ (zc ((an HO501.out).2.2)) ((an HO501.out).2.1) (zc ((an HO504.out).2.2)) ((an HO504.out).2.1) A15.out) ?_; rintro e w122 ⟨v507, v510, v513, rfl, ho0, ho1, ho2, hb⟩; refine ⟨_, rfl, ?_⟩; replace HO380 := zq (aj (aq (aq (aq (bc (zv HO380.out) hb) (aa ho0)) (aa ho1)) (aa ho2)) (fun _ h_ => h_.1)); replace HO384 := zq (aj (aq (aq (aq (bc (zv HO384.out) hb) (aa ho0)) (aa ho1)) (aa ho2)) (fun _ h_ => h_.1)); replace HO411 := zq (ap (aw (aw (aw (bf (zn HO411.out) hb) (aa ho0)) (aa ho1)) (aa ho2)) (fun _ h_ => h_.1)); replace HO438 := zq (ap (aw (aw (aw (bf (zn HO438.out) hb) (aa ho0)) (aa ho1)) (aa ho2)) (fun _ h_ => h_.1)); replace HO455 := zq (ap (aw (aw (aw (bf (zn HO455.out) hb) (aa ho0)) (aa ho1)) (aa ho2)) (fun _ h_ => h_.1)); replace HO465 := zq (ap (aw (aw (aw (bf (zn HO465.out) hb) (aa ho0)) (aa ho1)) (aa ho2)) (fun _ h_ => h_.1)); replace HO475 := zq (ap (aw (aw (aw (bf (zn HO475.out) hb) (aa ho0)) (aa ho1)) (aa ho2)) (fun _ h_ => h_.1)); replace HO490 := zq (af (bd (bd (bv (zr HO490.out) hb) (aa ho0)) (aa ho1)) (fun _ h_ => h_.1)); replace HO493 := zq (af (bd (bd (bv (zr HO493.out) hb) (aa ho0)) (aa ho1)) (fun _ h_ => h_.1)); replace HO496 := zq (ay (zr HO496.out) (aa ho2) hb); have HO508 := zq (ag ho0 (Xc (zs3 GE381.out GE385.out GE498.out))); have HO511 := zq (ag ho1 (Xc (zs3 GE381.out GE385.out GE498.out))); have HO514 := zq (ag ho2 (Xc (zs3 GE381.out GE385.out GE498.out))); replace BK381 := zq (Xg (zk BK381.out) hb); replace BK385 := zq (Xg (zk BK385.out) hb); replace BK498 := zq (Xg (zk BK498.out) hb); replace HB := zq (Xe (zs3 GE381.out GE385.out GE498.out) hb); (try clear hb); (try clear hk); (try clear ho0); (try clear ho1); (try clear ho2)) | ((with_reducible refine Xj (N := 18) rfl ?_); (try (refine Xw J63 ?_; dsimp only)); refine bxw 18 30 #[.int .i64 0, .slice none 0 0, .slice none 0 0, .slice none 0 0] ?_; intro gb516 hg w123 hbox hb; replace HO380 := zq (ax (aE (zv HO380.out) gb516 (Nat.le_of_eq hg.symm)) hb); replace HO384 := zq (ax (aE (zv HO384.out) gb516 (Nat.le_of_eq hg.symm)) hb); replace HO411 := zq (aD (aU (zn HO411.out) gb516 (Nat.le_of_eq hg.symm)) hb); replace HO438 := zq (aD (aU (zn HO438.out) gb516 (Nat.le_of_eq hg.symm)) hb); replace HO455 := zq (aD (aU (zn HO455.out) gb516 (Nat.le_of_eq hg.symm)) hb); replace HO465 := zq (aD (aU (zn HO465.out) gb516 (Nat.le_of_eq hg.symm)) hb); replace HO475 := zq (aD (aU (zn HO475.out) gb516 (Nat.le_of_eq hg.symm)) hb); replace HO490 := zq (ab (zr HO490.out) hb); replace HO493 := zq (ab (zr HO493.out) hb); replace HO496 := zq (ab (zr HO496.out) hb); replace HO508 := zq (ab (zr HO508.out) hb); replace HO511 := zq (ab (zr HO511.out) hb); replace HO514 := zq (ab (zr HO514.out) hb); have BK516 := zq (hbox); have GE516 := zq ((by rw [hg]; exact (Xc (zs3 GE381.out GE385.out GE498.out)) : w.heap.size ≤ gb516)); replace HB := zq (Xe (zs3 GE381.out GE385.out GE498.out) hb); have NB381_516 := zq ((J94 : gb381 ≠ gb516)); have NB516_381 := zq ((J95 : gb516 ≠ gb381)); replace BK381 := zq (Xg (zk BK381.out) hb); have NB385_516 := zq ((J136 : gb385 ≠ gb516)); have NB516_385 := zq ((J137 : gb516 ≠ gb385)); replace BK385 := zq (Xg (zk BK385.out) hb); have NB498_516 := zq ((by rw [hg]; exact Nat.ne_of_lt (Xbd (g := gb498) (o := .cells #[.int .i64 t487, .slice Ao113 t488.length co113, .slice Ao114 t491.length co114, .slice Ao115 t494.length co115] 30 (0, 0)) (zk BK498.out)) : gb498 ≠ gb516)); have NB516_498 := zq ((by rw [hg]; exact Nat.ne_of_gt (Xbd (g := gb498) (o := .cells #[.int .i64 t487, .slice Ao113 t488.length co113, .slice Ao114 t491.length co114, .slice Ao115 t494.length co115] 30 (0, 0)) (zk BK498.out)) : gb516 ≠ gb498)); replace BK498 := zq (Xg (zk BK498.out) hb); clear hb hbox hg; have hnb124 := NB516_381.out; have hnc124 := NB381_516.out; have hnb125 := NB516_385.out; have hnc125 := NB385_516.out; have hnb126 := NB516_498.out; have hnc126 := NB498_516.out; have Z127 := cz4 BK516.out; obtain ⟨Ao128, co128, eo128⟩ := ah HO508.out; subst eo128; obtain ⟨Ao129, co129, eo129⟩ := ah HO511.out; subst eo129; obtain ⟨Ao130, co130, eo130⟩ := ah HO514.out; subst eo130))
 (try simp only [List.append_eq, List.cons_append, List.nil_append])
 go_wp2_with (first | ((with_reducible refine Xj (N := 90) rfl ?_); (try (refine Xw J63 ?_; dsimp only)); refine lwR (Kd.int .i64) 3 90 (xs := ([2] : List Int)) [.int .i64 2] Ny517 (Reps.one (show Kd.M (Kd.int .i64) _ _ _ 2 [.int .i64 2] from rfl) (Reps.none _ _)) ?_; intro v518 w131 ho132 hb; replace HO380 := zq (am J117 (aa ho132) hb); replace HO384 := zq (am J169 (aa ho132) hb); replace HO411 := zq (ae J170 (aa ho132) hb); replace HO438 := zq (ae J171 (aa ho132) hb); replace HO455 := zq (ae J172 (aa ho132) hb); replace HO465 := zq (ae J173 (aa ho132) hb); replace HO475 := zq (ae J174 (aa ho132) hb); replace HO490 := zq (ay (by (with_reducible repeat (first | apply Kd.R_alloc | apply ai | apply ak)); exact (gT4 HO490.out BK516.out)) (aa ho132) hb); replace HO493 := zq (ay (by (with_reducible repeat (first | apply Kd.R_alloc | apply ai | apply ak)); exact (gT4 HO493.out BK516.out)) (aa ho132) hb); replace HO496 := zq (ab (by (with_reducible repeat (first | apply Kd.R_alloc | apply ai | apply ak)); exact (gT4 HO496.out BK516.out)) hb); have HO519 := zq (ag ho132 (Xc (zs4 GE381.out GE385.out GE498.out GE516.out))); replace BK381 := zq (Xg (g := gb381) (o := .cells #[.int .i64 3, .slice none 0 0, .slice Ao43 t378.length co43, .slice none 0 0] 30 (0, 0)) (by (with_reducible repeat (first | refine Xd ?_ _ | refine Xf ?_ | refine Xb ?_ _)); refine Xab ?_ NB381_516.out _; (with_reducible repeat (first | refine Xd ?_ _ | refine Xf ?_ | refine Xb ?_ _)); refine Xab ?_ NB381_516.out _; (with_reducible repeat (first | refine Xd ?_ _ | refine Xf ?_ | refine Xb ?_ _)); refine Xab ?_ NB381_516.out _; (with_reducible repeat (first | refine Xd ?_ _ | refine Xf ?_ | refine Xb ?_ _)); refine Xab ?_ NB381_516.out _; (with_reducible repeat (first | refine Xd ?_ _ | refine Xf ?_ | refine Xb ?_ _)); exact BK381.out) hb); replace BK385 := zq (Xg (g := gb385) (o := .cells #[.int .i64 5, .slice Ao47 t382.length co47, .slice none 0 0, .slice none 0 0] 30 (0, 0)) (by (with_reducible repeat (first | refine Xd ?_ _ | refine Xf ?_ | refine Xb ?_ _)); refine Xab ?_ NB385_516.out _; (with_reducible repeat (first | refine Xd ?_ _ | refine Xf ?_ | refine Xb ?_ _)); refine Xab ?_ NB385_516.out _; (with_reducible repeat (first | refine Xd ?_ _ | refine Xf ?_ | refine Xb ?_ _)); refine Xab ?_ NB385_516.out _; (with_reducible repeat (first | refine Xd ?_ _ | refine Xf ?_ | refine Xb ?_ _)); refine Xab ?_ NB385_516.out _; (with_reducible repeat (first | refine Xd ?_ _ | refine Xf ?_ | refine Xb ?_ _)); exact BK385.out) hb); replace BK498 := zq (Xg (g := gb498) (o := .cells #[.int .i64 t487, .slice Ao113 t488.length co113, .slice Ao114 t491.length co114, .slice Ao115 t494.length co115] 30 (0, 0)) (by (with_reducible repeat (first | refine Xd ?_ _ | refine Xf ?_ | refine Xb ?_ _)); refine Xab ?_ NB498_516.out _; (with_reducible repeat (first | refine Xd ?_ _ | refine Xf ?_ | refine Xb ?_ _)); refine Xab ?_ NB498_516.out _; (with_reducible repeat (first | refine Xd ?_ _ | refine Xf ?_ | refine Xb ?_ _)); refine Xab ?_ NB498_516.out _; (with_reducible repeat (first | refine Xd ?_ _ | refine Xf ?_ | refine Xb ?_ _)); refine Xab ?_ NB498_516.out _; (with_reducible repeat (first | refine Xd ?_ _ | refine Xf ?_ | refine Xb ?_ _)); exact BK498.out) hb); replace HB := zq (Xe (zs4 GE381.out GE385.out GE498.out GE516.out) hb); clear hb ho132) | ((with_reducible refine Xj (N := 91) rfl ?_); (try (refine Xw J63 ?_; dsimp only)); refine lwR (Kd.int .i64) 3 91 (xs := ([3, 1] : List Int)) [.int .i64 3, .int .i64 1] Ny520 (Reps.one (show Kd.M (Kd.int .i64) _ _ _ 3 [.int .i64 3] from rfl) (Reps.one (show Kd.M (Kd.int .i64) _ _ _ 1 [.int .i64 1] from rfl) (Reps.none _ _))) ?_; intro v521 w133 ho134 hb; replace HO380 := zq (am (zv HO380.out) (aa ho134) hb); replace HO384 := zq (am (zv HO384.out) (aa ho134) hb); replace HO411 := zq (ae (zn HO411.out) (aa ho134) hb); replace HO438 := zq (ae (zn HO438.out) (aa ho134) hb); replace HO455 := zq (ae (zn HO455.out) (aa ho134) hb); replace HO465 := zq (ae (zn HO465.out) (aa ho134) hb); replace HO475 := zq (ae (zn HO475.out) (aa ho134) hb); replace HO490 := zq (ay (zr HO490.out) (aa ho134) hb); replace HO493 := zq (ay (zr HO493.out) (aa ho134) hb); replace HO496 := zq (ab (zr HO496.out) hb); replace HO519 := zq (ay (zr HO519.out) (aa ho134) hb); have HO522 := zq (ag ho134 (Xc (zs4 GE381.out GE385.out GE498.out GE516.out))); replace BK381 := zq (Xg (zk BK381.out) hb); replace BK385 := zq (Xg (zk BK385.out) hb); replace BK498 := zq (Xg (zk BK498.out) hb); replace HB := zq (Xe (zs4 GE381.out GE385.out GE498.out GE516.out) hb); clear hb ho134; obtain ⟨Ao135, co135, eo135⟩ := ah HO522.out; subst eo135; obtain ⟨Ao136, co136, eo136⟩ := ah HO519.out; subst eo136) | ((with_reducible refine Xj (N := 93) rfl ?_); (try (refine Xw J63 ?_; dsimp only)); refine lwN k30 30 93 (xs := ([(⟨2, y517, y520, ([] : List (S38))⟩ : S30)] : List (S30))) [.int .i64 2, .slice Ao136 y517.length co136, .slice Ao135 y520.length co135, .slice none 0 0] Ny523 (Reps.c4 (show Kd.FK k30 _ _ (⟨2, y517, y520, ([] : List (S38))⟩ : S30) [.int .i64 2, .slice Ao136 y517.length co136, .slice Ao135 y520.length co135, .slice none 0 0] from (mkG _ _ (⟨2, y517, y520, ([] : List (S38))⟩ : S30) (rF (af (ok' := fun _ => True) (HO519.out) (fun _ _ => trivial))) (rF (af (ok' := fun _ => True) (HO522.out) (fun _ _ => trivial))) ⟨(Nat.le_refl _), (ba _ _ _)⟩)) (Reps.none _ _)) ?_; intro v524 w137 ho138 hb; replace HO380 := zq (am (zv HO380.out) (ao ho138) hb); replace HO384 := zq (am (zv HO384.out) (ao ho138) hb); replace HO411 := zq (ae (zn HO411.out) (ao ho138) hb); replace HO438 := zq (ae (zn HO438.out) (ao ho138) hb); replace HO455 := zq (ae (zn HO455.out) (ao ho138) hb); replace HO465 := zq (ae (zn HO465.out) (ao ho138) hb); replace HO475 := zq (ae (zn HO475.out) (ao ho138) hb); replace HO490 := zq (ab (zr HO490.out) hb); replace HO493 := zq (ab (zr HO493.out) hb); replace HO496 := zq (ab (zr HO496.out) hb); have HO525 := zq (aH ho138 (Xc (zs4 GE381.out GE385.out GE498.out GE516.out))); replace BK381 := zq (Xg (zk BK381.out) hb); replace BK385 := zq (Xg (zk BK385.out) hb); replace BK498 := zq (Xg (zk BK498.out) hb); replace HB := zq (Xe (zs4 GE381.out GE385.out GE498.out GE516.out) hb); clear HO519 HO522; clear hb ho138; obtain ⟨Ao139, co139, eo139⟩ := aJ HO411.out; subst eo139; obtain ⟨Ao140, co140, eo140⟩ := aJ HO525.out; subst eo140) | (go_at_call 16; (with_reducible refine (deckleref10_Same.calls k _ _ t409 _ _ y523 true _ ?side1 ?side2 ?side3 ?side4 A17.out).mono ?_); (case side1 => exact zc ((ar HO411.out).2.2)); (case side2 => exact (ar HO411.out).2.1); (case side3 => exact zc ((ar HO525.out).2.2)); (case side4 => exact (ar HO525.out).2.1); rintro e w141 ⟨rfl, hb⟩; replace HO380 := zq (ax (zv HO380.out) hb); replace HO384 := zq (ax (zv HO384.out) hb); replace HO411 := zq (aD (zn HO411.out) hb); replace HO438 := zq (aD (zn HO438.out) hb); replace HO455 := zq (aD (zn HO455.out) hb); replace HO465 := zq (aD (zn HO465.out) hb); replace HO475 := zq (aD (zn HO475.out) hb); replace HO490 := zq (ab (zr HO490.out) hb); replace HO493 := zq (ab (zr HO493.out) hb); replace HO496 := zq (ab (zr HO496.out) hb); replace BK381 := zq (Xg (zk BK381.out) hb); replace BK385 := zq (Xg (zk BK385.out) hb); replace BK498 := zq (Xg (zk BK498.out) hb); replace HB := zq (Xe (zs4 GE381.out GE385.out GE498.out GE516.out) hb); (try clear hb); (try clear hk)) | ((with_reducible refine Xj (N := 101) rfl ?_); (try (refine Xw J63 ?_; dsimp only)); refine lwR (Kd.int .i64) 3 101 (xs := ([2] : List Int)) [.int .i64 2] Ny527 (Reps.one (show Kd.M (Kd.int .i64) _ _ _ 2 [.int .i64 2] from rfl) (Reps.none _ _)) ?_; intro v528 w142 ho143 hb; replace HO380 := zq (am (zv HO380.out) (aa ho143) hb); replace HO384 := zq (am (zv HO384.out) (aa ho143) hb); replace HO411 := zq (ae (zn HO411.out) (aa ho143) hb); replace HO438 := zq (ae (zn HO438.out) (aa ho143) hb); replace HO455 := zq (ae (zn HO455.out) (aa ho143) hb); replace HO465 := zq (ae (zn HO465.out) (aa ho143) hb); replace HO475 := zq (ae (zn HO475.out) (aa ho143) hb); replace HO490 := zq (ay (zr HO490.out) (aa ho143) hb); replace HO493 := zq (ay (zr HO493.out) (aa ho143) hb); replace HO496 := zq (ab (zr HO496.out) hb); have HO529 := zq (ag ho143 (Xc (zs4 GE381.out GE385.out GE498.out GE516.out))); replace BK381 := zq (Xg (zk BK381.out) hb); replace BK385 := zq (Xg (zk BK385.out) hb); replace BK498 := zq (Xg (zk BK498.out) hb); replace HB := zq (Xe (zs4 GE381.out GE385.out GE498.out GE516.out) hb); clear hb ho143) | ((with_reducible refine Xj (N := 102) rfl ?_); (try (refine Xw J63 ?_; dsimp only)); refine lwR (Kd.int .i64) 3 102 (xs := ([0, 1] : List Int)) [.int .i64 0, .int .i64 1] Ny530 (Reps.one (show Kd.M (Kd.int .i64) _ _ _ 0 [.int .i64 0] from rfl) (Reps.one (show Kd.M (Kd.int .i64) _ _ _ 1 [.int .i64 1] from rfl) (Reps.none _ _))) ?_; intro v531 w144 ho145 hb; replace HO380 := zq (am (zv HO380.out) (aa ho145) hb); replace HO384 := zq (am (zv HO384.out) (aa ho145) hb); replace HO411 := zq (ae (zn HO411.out) (aa ho145) hb); replace HO438 := zq (ae (zn HO438.out) (aa ho145) hb); replace HO455 := zq (ae (zn HO455.out) (aa ho145) hb); replace HO465 := zq (ae (zn HO465.out) (aa ho145) hb); replace HO475 := zq (ae (zn HO475.out) (aa ho145) hb); replace HO490 := zq (ay (zr HO490.out) (aa ho145) hb); replace HO493 := zq (ay (zr HO493.out) (aa ho145) hb); replace HO496 := zq (ab (zr HO496.out) hb); replace HO529 := zq (ay (zr HO529.out) (aa ho145) hb); have HO532 := zq (ag ho145 (Xc (zs4 GE381.out GE385.out GE498.out GE516.out))); replace BK381 := zq (Xg (zk BK381.out) hb); replace BK385 := zq (Xg (zk BK385.out) hb); replace BK498 := zq (Xg (zk BK498.out) hb); replace HB := zq (Xe (zs4 GE381.out GE385.out GE498.out GE516.out) hb); clear hb ho145; obtain ⟨Ao146, co146, eo146⟩ := ah HO532.out; subst eo146; obtain ⟨Ao147, co147, eo147⟩ := ah HO529.out; subst eo147) | ((with_reducible refine Xj (N := 104) rfl ?_); (try (refine Xw J63 ?_; dsimp only)); refine lwN k30 30 104 (xs := ([(⟨1, y527, y530, ([] : List (S38))⟩ : S30)] : List (S30))) [.int .i64 1, .slice Ao147 y527.length co147, .slice Ao146 y530.length co146, .slice none 0 0] Ny533 (Reps.c4 (show Kd.FK k30 _ _ (⟨1, y527, y530, ([] : List (S38))⟩ : S30) [.int .i64 1, .slice Ao147 y527.length co147, .slice Ao146 y530.length co146, .slice none 0 0] from (mkG _ _ (⟨1, y527, y530, ([] : List (S38))⟩ : S30) (rF (af (ok' := fun _ => True) (HO529.out) (fun _ _ => trivial))) (rF (af (ok' := fun _ => True) (HO532.out) (fun _ _ => trivial))) ⟨(Nat.le_refl _), (ba _ _ _)⟩)) (Reps.none _ _)) ?_; intro v534 w148 ho149 hb; replace HO380 := zq (am (zv HO380.out) (ao ho149) hb); replace HO384 := zq (am (zv HO384.out) (ao ho149) hb); replace HO411 := zq (ae (zn HO411.out) (ao ho149) hb); replace HO438 := zq (ae (zn HO438.out) (ao ho149) hb); replace HO455 := zq (ae (zn HO455.out) (ao ho149) hb); replace HO465 := zq (ae (zn HO465.out) (ao ho149) hb); replace HO475 := zq (ae (zn HO475.out) (ao ho149) hb); replace HO490 := zq (ab (zr HO490.out) hb); replace HO493 := zq (ab (zr HO493.out) hb); replace HO496 := zq (ab (zr HO496.out) hb); have HO535 := zq (aH ho149 (Xc (zs4 GE381.out GE385.out GE498.out GE516.out))); replace BK381 := zq (Xg (zk BK381.out) hb); replace BK385 := zq (Xg (zk BK385.out) hb); replace BK498 := zq (Xg (zk BK498.out) hb); replace HB := zq (Xe (zs4 GE381.out GE385.out GE498.out GE516.out) hb); clear HO529 HO532; clear hb ho149; obtain ⟨Ao150, co150, eo150⟩ := aJ HO438.out; subst eo150; obtain ⟨Ao151, co151, eo151⟩ := aJ HO535.out; subst eo151) | (go_at_call 16; (with_reducible refine (deckleref10_Same.calls k _ _ t436 _ _ y533 true _ ?side1 ?side2 ?side3 ?side4 A20.out).mono ?_); (case side1 => exact zc ((ar HO438.out).2.2)); (case side2 => exact (ar HO438.out).2.1); (case side3 => exact zc ((ar HO535.out).2.2)); (case side4 => exact (ar HO535.out).2.1); rintro e w152 ⟨rfl, hb⟩; replace HO380 := zq (ax (zv HO380.out) hb); replace HO384 := zq (ax (zv HO384.out) hb); replace HO411 := zq (aD (zn HO411.out) hb); replace HO455 := zq (aD (zn HO455.out) hb); replace HO465 := zq (aD (zn HO465.out) hb); replace HO475 := zq (aD (zn HO475.out) hb); replace HO490 := zq (ab (zr HO490.out) hb); replace HO493 := zq (ab (zr HO493.out) hb); replace HO496 := zq (ab (zr HO496.out) hb); replace BK381 := zq (Xg (zk BK381.out) hb); replace BK385 := zq (Xg (zk BK385.out) hb); replace BK498 := zq (Xg (zk BK498.out) hb); replace HB := zq (Xe (zs4 GE381.out GE385.out GE498.out GE516.out) hb); (try clear hb); (try clear hk); have Z153 := cz4 BK385.out; have Z154 := cz4 BK381.out) | ((with_reducible refine Xj (N := 114) rfl ?_); (try (refine Xw J63 ?_; dsimp only)); refine lwR (Kd.int .i64) 3 114 (xs := ([1] : List Int)) [.int .i64 1] Ny537 (Reps.one (show Kd.M (Kd.int .i64) _ _ _ 1 [.int .i64 1] from rfl) (Reps.none _ _)) ?_; intro v538 w155 ho156 hb; replace HO380 := zq (am (zv HO380.out) (aa ho156) hb); replace HO384 := zq (am (zv HO384.out) (aa ho156) hb); replace HO411 := zq (ae (zn HO411.out) (aa ho156) hb); replace HO455 := zq (ae (zn HO455.out) (aa ho156) hb); replace HO465 := zq (ae (zn HO465.out) (aa ho156) hb); replace HO475 := zq (ae (zn HO475.out) (aa ho156) hb); replace HO490 := zq (ay (zr HO490.out) (aa ho156) hb); replace HO493 := zq (ay (zr HO493.out) (aa ho156) hb); replace HO496 := zq (ab (zr HO496.out) hb); have HO539 := zq (ag ho156 (Xc (zs4 GE381.out GE385.out GE498.out GE516.out))); replace BK381 := zq (Xg (zk BK381.out) hb); replace BK498 := zq (Xg (zk BK498.out) hb); replace HB := zq (Xe (zs4 GE381.out GE385.out GE498.out GE516.out) hb); clear hb ho156; obtain ⟨Ao157, co157, eo157⟩ := ah HO539.out; subst eo157) | ((with_reducible refine Xj (N := 116) rfl ?_); (try (refine Xw J63 ?_; dsimp only)); refine lwN k30 30 116 (xs := ([(⟨5, t382, ([] : List Int), ([] : List (S38))⟩ : S30), (⟨3, ([] : List Int), t378, ([] : List (S38))⟩ : S30), (⟨1, ([] : List Int), y537, ([] : List (S38))⟩ : S30)] : List (S30))) [.int .i64 5, .slice Ao47 t382.length co47, .slice none 0 0, .slice none 0 0, .int .i64 3, .slice none 0 0, .slice Ao43 t378.length co43, .slice none 0 0, .int .i64 1, .slice none 0 0, .slice Ao157 y537.length co157, .slice none 0 0] Ny540 (Reps.c4 (show Kd.FK k30 _ _ (⟨5, t382, ([] : List Int), ([] : List (S38))⟩ : S30) [.int .i64 5, .slice Ao47 t382.length co47, .slice none 0 0, .slice none 0 0] from (mkG _ _ (⟨5, t382, ([] : List Int), ([] : List (S38))⟩ : S30) ⟨(av (aj (ok' := fun _ => True) (HO384.out) (fun _ _ => trivial))).2.1, (cF (aj (ok' := fun _ => True) (HO384.out) (fun _ _ => trivial)))⟩ ⟨(Nat.le_refl _), (ba _ _ _)⟩ ⟨(Nat.le_refl _), (ba _ _ _)⟩)) (Reps.c4 (show Kd.FK k30 _ _ (⟨3, ([] : List Int), t378, ([] : List (S38))⟩ : S30) [.int .i64 3, .slice none 0 0, .slice Ao43 t378.length co43, .slice none 0 0] from (mkG _ _ (⟨3, ([] : List Int), t378, ([] : List (S38))⟩ : S30) ⟨(Nat.le_refl _), (ba _ _ _)⟩ ⟨(av (aj (ok' := fun _ => True) (HO380.out) (fun _ _ => trivial))).2.1, (cF (aj (ok' := fun _ => True) (HO380.out) (fun _ _ => trivial)))⟩ ⟨(Nat.le_refl _), (ba _ _ _)⟩)) (Reps.c4 (show Kd.FK k30 _ _ (⟨1, ([] : List Int), y537, ([] : List (S38))⟩ : S30) [.int .i64 1, .slice none 0 0, .slice Ao157 y537.length co157, .slice none 0 0] from (mkG _ _ (⟨1, ([] : List Int), y537, ([] : List (S38))⟩ : S30) ⟨(Nat.le_refl _), (ba _ _ _)⟩ (rF (af (ok' := fun _ => True) (HO539.out) (fun _ _ => trivial))) ⟨(Nat.le_refl _), (ba _ _ _)⟩)) (Reps.none _ _)))) ?_; intro v541 w158 ho159 hb; replace HO380 := zq (am (zv HO380.out) (ao ho159) hb); replace HO411 := zq (ae (zn HO411.out) (ao ho159) hb); replace HO455 := zq (ae (zn HO455.out) (ao ho159) hb); replace HO465 := zq (ae (zn HO465.out) (ao ho159) hb); replace HO475 := zq (ae (zn HO475.out) (ao ho159) hb); replace HO490 := zq (ab (zr HO490.out) hb); replace HO493 := zq (ab (zr HO493.out) hb); replace HO496 := zq (ab (zr HO496.out) hb); have HO542 := zq (aH ho159 (Xc (zs4 GE381.out GE385.out GE498.out GE516.out))); replace BK381 := zq (Xg (zk BK381.out) hb); replace BK498 := zq (Xg (zk BK498.out) hb); replace HB := zq (Xe (zs4 GE381.out GE385.out GE498.out GE516.out) hb); clear HO539; clear hb ho159; obtain ⟨Ao160, co160, eo160⟩ := aJ HO455.out; subst eo160; obtain ⟨Ao161, co161, eo161⟩ := aJ HO542.out; subst eo161) | (go_at_call 16; (with_reducible refine (deckleref10_Same.calls k _ _ t453 _ _ y540 true _ ?side1 ?side2 ?side3 ?side4 A23.out).mono ?_); (case side1 => exact zc ((ar HO455.out).2.2)); (case side2 => exact (ar HO455.out).2.1); (case side3 => exact zc ((ar HO542.out).2.2)); (case side4 => exact (ar HO542.out).2.1); rintro e w162 ⟨rfl, hb⟩; replace HO380 := zq (ax (zv HO380.out) hb); replace HO411 := zq (aD (zn HO411.out) hb); replace HO465 := zq (aD (zn HO465.out) hb); replace HO475 := zq (aD (zn HO475.out) hb); replace HO490 := zq (ab (zr HO490.out) hb); replace HO493 := zq (ab (zr HO493.out) hb); replace HO496 := zq (ab (zr HO496.out) hb); replace BK381 := zq (Xg (zk BK381.out) hb); replace BK498 := zq (Xg (zk BK498.out) hb); replace HB := zq (Xe (zs4 GE381.out GE385.out GE498.out GE516.out) hb); (try clear hb); (try clear hk)) | ((with_reducible refine Xj (N := 124) rfl ?_); (try (refine Xw J63 ?_; dsimp only)); refine lwR (Kd.int .i64) 3 124 (xs := ([0] : List Int)) [.int .i64 0] Ny544 (Reps.one (show Kd.M (Kd.int .i64) _ _ _ 0 [.int .i64 0] from rfl) (Reps.none _ _)) ?_; intro v545 w163 ho164 hb; replace HO380 := zq (am (zv HO380.out) (aa ho164) hb); replace HO411 := zq (ae (zn HO411.out) (aa ho164) hb); replace HO465 := zq (ae (zn HO465.out) (aa ho164) hb); replace HO475 := zq (ae (zn HO475.out) (aa ho164) hb); replace HO490 := zq (ay (zr HO490.out) (aa ho164) hb); replace HO493 := zq (ay (zr HO493.out) (aa ho164) hb); replace HO496 := zq (ab (zr HO496.out) hb); have HO546 := zq (ag ho164 (Xc (zs4 GE381.out GE385.out GE498.out GE516.out))); replace BK381 := zq (Xg (zk BK381.out) hb); replace BK498 := zq (Xg (zk BK498.out) hb); replace HB := zq (Xe (zs4 GE381.out GE385.out GE498.out GE516.out) hb); clear hb ho164; obtain ⟨Ao165, co165, eo165⟩ := ah HO546.out; subst eo165) | ((with_reducible refine Xj (N := 126) rfl ?_); (try (refine Xw J63 ?_; dsimp only)); refine lwN k30 30 126 (xs := ([(⟨2, y544, ([] : List Int), ([] : List (S38))⟩ : S30)] : List (S30))) [.int .i64 2, .slice Ao165 y544.length co165, .slice none 0 0, .slice none 0 0] Ny547 (Reps.c4 (show Kd.FK k30 _ _ (⟨2, y544, ([] : List Int), ([] : List (S38))⟩ : S30) [.int .i64 2, .slice Ao165 y544.length co165, .slice none 0 0, .slice none 0 0] from (mkG _ _ (⟨2, y544, ([] : List Int), ([] : List (S38))⟩ : S30) (rF (af (ok' := fun _ => True) (HO546.out) (fun _ _ => trivial))) ⟨(Nat.le_refl _), (ba _ _ _)⟩ ⟨(Nat.le_refl _), (ba _ _ _)⟩)) (Reps.none _ _)) ?_; intro v548 w166 ho167 hb; replace HO380 := zq (am (zv HO380.out) (ao ho167) hb); replace HO411 := zq (ae (zn HO411.out) (ao ho167) hb); replace HO465 := zq (ae (zn HO465.out) (ao ho167) hb); replace HO475 := zq (ae (zn HO475.out) (ao ho167) hb); replace HO490 := zq (ab (zr HO490.out) hb); replace HO493 := zq (ab (zr HO493.out) hb); replace HO496 := zq (ab (zr HO496.out) hb); have HO549 := zq (aH ho167 (Xc (zs4 GE381.out GE385.out GE498.out GE516.out))); replace BK381 := zq (Xg (zk BK381.out) hb); replace BK498 := zq (Xg (zk BK498.out) hb); replace HB := zq (Xe (zs4 GE381.out GE385.out GE498.out GE516.out) hb); clear HO546; clear hb ho167; obtain ⟨Ao168, co168, eo168⟩ := aJ HO465.out; subst eo168; obtain ⟨Ao169, co169, eo169⟩ := aJ HO549.out; subst eo169) | (go_at_call 16; (with_reducible refine (deckleref10_Same.calls k _ _ t463 _ _ y547 true _ ?side1 ?side2 ?side3 ?side4 A26.out).mono ?_); (case side1 => exact zc ((ar HO465.out).2.2)); (case side2 => exact (ar HO465.out).2.1); (case side3 => exact zc ((ar HO549.out).2.2)); (case side4 => exact (ar HO549.out).2.1); rintro e w170 ⟨rfl, hb⟩; replace HO380 := zq (ax (zv HO380.out) hb); replace HO411 := zq (aD (zn HO411.out) hb); replace HO475 := zq (aD (zn HO475.out) hb); replace HO490 := zq (ab (zr HO490.out) hb); replace HO493 := zq (ab (zr HO493.out) hb); replace HO496 := zq (ab (zr HO496.out) hb); replace BK381 := zq (Xg (zk BK381.out) hb); replace BK498 := zq (Xg (zk BK498.out) hb); replace HB := zq (Xe (zs4 GE381.out GE385.out GE498.out GE516.out) hb); (try clear hb); (try clear hk)) | ((with_reducible refine Xj (N := 134) rfl ?_); (try (refine Xw J63 ?_; dsimp only)); refine lwR (Kd.int .i64) 3 134 (xs := ([2] : List Int)) [.int .i64 2] Ny551 (Reps.one (show Kd.M (Kd.int .i64) _ _ _ 2 [.int .i64 2] from rfl) (Reps.none _ _)) ?_; intro v552 w171 ho172 hb; replace HO380 := zq (am (zv HO380.out) (aa ho172) hb); replace HO411 := zq (ae (zn HO411.out) (aa ho172) hb); replace HO475 := zq (ae (zn HO475.out) (aa ho172) hb); replace HO490 := zq (ay (zr HO490.out) (aa ho172) hb); replace HO493 := zq (ay (zr HO493.out) (aa ho172) hb); replace HO496 := zq (ab (zr HO496.out) hb); have HO553 := zq (ag ho172 (Xc (zs4 GE381.out GE385.out GE498.out GE516.out))); replace BK381 := zq (Xg (zk BK381.out) hb); replace BK498 := zq (Xg (zk BK498.out) hb); replace HB := zq (Xe (zs4 GE381.out GE385.out GE498.out GE516.out) hb); clear hb ho172; obtain ⟨Ao173, co173, eo173⟩ := ah HO553.out; subst eo173) | ((with_reducible refine Xj (N := 136) rfl ?_); (try (refine Xw J63 ?_; dsimp only)); refine lwN k30 30 136 (xs := ([(⟨2, ([] : List Int), y551, ([] : List (S38))⟩ : S30)] : List (S30))) [.int .i64 2, .slice none 0 0, .slice Ao173 y551.length co173, .slice none 0 0] Ny554 (Reps.c4 (show Kd.FK k30 _ _ (⟨2, ([] : List Int), y551, ([] : List (S38))⟩ : S30) [.int .i64 2, .slice none 0 0, .slice Ao173 y551.length co173, .slice none 0 0] from (mkG _ _ (⟨2, ([] : List Int), y551, ([] : List (S38))⟩ : S30) ⟨(Nat.le_refl _), (ba _ _ _)⟩ (rF (af (ok' := fun _ => True) (HO553.out) (fun _ _ => trivial))) ⟨(Nat.le_refl _), (ba _ _ _)⟩)) (Reps.none _ _)) ?_; intro v555 w174 ho175 hb; replace HO380 := zq (am (zv HO380.out) (ao ho175) hb); replace HO411 := zq (ae (zn HO411.out) (ao ho175) hb); replace HO475 := zq (ae (zn HO475.out) (ao ho175) hb); replace HO490 := zq (ab (zr HO490.out) hb); replace HO493 := zq (ab (zr HO493.out) hb); replace HO496 := zq (ab (zr HO496.out) hb); have HO556 := zq (aH ho175 (Xc (zs4 GE381.out GE385.out GE498.out GE516.out))); replace BK381 := zq (Xg (zk BK381.out) hb); replace BK498 := zq (Xg (zk BK498.out) hb); replace HB := zq (Xe (zs4 GE381.out GE385.out GE498.out GE516.out) hb); clear HO553; clear hb ho175; obtain ⟨Ao176, co176, eo176⟩ := aJ HO475.out; subst eo176; obtain ⟨Ao177, co177, eo177⟩ := aJ HO556.out; subst eo177) | (go_at_call 16; (with_reducible refine (deckleref10_Same.calls k _ _ t473 _ _ y554 true _ ?side1 ?side2 ?side3 ?side4 A29.out).mono ?_); (case side1 => exact zc ((ar HO475.out).2.2)); (case side2 => exact (ar HO475.out).2.1); (case side3 => exact zc ((ar HO556.out).2.2)); (case side4 => exact (ar HO556.out).2.1); rintro e w178 ⟨rfl, hb⟩; replace HO380 := zq (ax (zv HO380.out) hb); replace HO411 := zq (aD (zn HO411.out) hb); replace HO490 := zq (ab (zr HO490.out) hb); replace HO493 := zq (ab (zr HO493.out) hb); replace HO496 := zq (ab (zr HO496.out) hb); replace BK381 := zq (Xg (zk BK381.out) hb); replace BK498 := zq (Xg (zk BK498.out) hb); replace HB := zq (Xe (zs4 GE381.out GE385.out GE498.out GE516.out) hb); (try clear hb); (try clear hk); have Z179 := cz4 BK498.out) | ((with_reducible refine Xj (N := 148) rfl ?_); (try (refine Xw J63 ?_; dsimp only)); refine lwR (Kd.int .i64) 3 148 (xs := ([1] : List Int)) [.int .i64 1] Ny558 (Reps.one (show Kd.M (Kd.int .i64) _ _ _ 1 [.int .i64 1] from rfl) (Reps.none _ _)) ?_; intro v559 w180 ho181 hb; replace HO380 := zq (am (zv HO380.out) (aa ho181) hb); replace HO411 := zq (ae (zn HO411.out) (aa ho181) hb); replace HO490 := zq (ay (zr HO490.out) (aa ho181) hb); replace HO493 := zq (ay (zr HO493.out) (aa ho181) hb); replace HO496 := zq (ab (zr HO496.out) hb); have HO560 := zq (ag ho181 (Xc (zs4 GE381.out GE385.out GE498.out GE516.out))); replace BK381 := zq (Xg (zk BK381.out) hb); replace HB := zq (Xe (zs4 GE381.out GE385.out GE498.out GE516.out) hb); clear hb ho181) | ((with_reducible refine Xj (N := 150) rfl ?_); (try (refine Xw J63 ?_; dsimp only)); refine lwR k38 38 150 (xs := ([(⟨15, (-1)⟩ : S38)] : List (S38))) [.int .i64 15, .int .i64 (-1)] Ny561 (Reps.c2 (show Kd.M k38 _ _ _ (⟨15, (-1)⟩ : S38) [.int .i64 15, .int .i64 (-1)] from (Xdn _ _ _ (⟨15, (-1)⟩ : S38) )) (Reps.none _ _)) ?_; intro v562 w182 ho183 hb; replace HO380 := zq (am (zv HO380.out) (aa ho183) hb); replace HO411 := zq (ae (zn HO411.out) (aa ho183) hb); replace HO490 := zq (ab (zr HO490.out) hb); replace HO493 := zq (ab (zr HO493.out) hb); replace HO496 := zq (ay (zr HO496.out) (aa ho183) hb); replace HO560 := zq (ab (zr HO560.out) hb); have HO563 := zq (ag ho183 (Xc (zs4 GE381.out GE385.out GE498.out GE516.out))); replace BK381 := zq (Xg (zk BK381.out) hb); replace HB := zq (Xe (zs4 GE381.out GE385.out GE498.out GE516.out) hb); clear hb ho183; obtain ⟨Ao184, co184, eo184⟩ := ah HO563.out; subst eo184; obtain ⟨Ao185, co185, eo185⟩ := ah HO560.out; subst eo185) | (go_at_call 17; (with_reducible show Calls Try.prog 17 #[.agg #[.int .i64 t487, _, _, _], _] _ _); (refine (X5.calls k t487 _ _ t488 _ _ t491 _ _ t494 4 _ _ y558 _ _ ([] : List Int) _ _ y561 true _ ?side1 ?side2 ?side3 ?side4 ?side5 ?side6 ?side7 ?side8 ?side9 ?side10 ?side11 ?side12 A33.out).mono ?_); (case side1 => exact zc ((an HO490.out).2.2)); (case side2 => exact (an HO490.out).2.1); (case side3 => exact zc ((an HO493.out).2.2)); (case side4 => exact (an HO493.out).2.1); (case side5 => exact zc ((an HO496.out).2.2)); (case side6 => exact (an HO496.out).2.1); (case side7 => exact zc ((an HO560.out).2.2)); (case side8 => exact (an HO560.out).2.1); (case side9 => exact b9 _ _); (case side10 => exact Nat.le_refl _); (case side11 => exact zc ((an HO563.out).2.2)); (case side12 => exact (an HO563.out).2.1); rintro e w186 ⟨rfl, hb⟩; replace HO380 := zq (ax (zv HO380.out) hb); replace HO411 := zq (aD (zn HO411.out) hb); replace BK381 := zq (Xg (zk BK381.out) hb); replace HB := zq (Xe (zs4 GE381.out GE385.out GE498.out GE516.out) hb); (try clear hb); (try clear hk)) | (go_at_call 18; (with_reducible refine (Xbc.calls k _ _ t409 true _ ?side1 ?side2 A36.out).mono ?_); (case side1 => exact zc ((ar HO411.out).2.2)); (case side2 => exact (ar HO411.out).2.1); rintro e w187 ⟨rfl, hb⟩; replace HO380 := zq (ax (zv HO380.out) hb); replace BK381 := zq (Xg (zk BK381.out) hb); replace HB := zq (Xe (zs4 GE381.out GE385.out GE498.out GE516.out) hb); (try clear hb); (try clear hk)) | (go_at_call 26; (with_reducible refine (Xaw.calls 1 t566 t567 t570 t573 _ A38.out).mono ?_); rintro e w188 ⟨v568, v571, v574, rfl, ho0, ho1, ho2, hb⟩; replace HO380 := zq (aj (aq (aq (aq (bc (zv HO380.out) hb) (aa ho0)) (aa ho1)) (aa ho2)) (fun _ h_ => h_.1)); have HO569 := zq (ag ho0 (Xc (zs4 GE381.out GE385.out GE498.out GE516.out))); have HO572 := zq (ag ho1 (Xc (zs4 GE381.out GE385.out GE498.out GE516.out))); have HO575 := zq (ag ho2 (Xc (zs4 GE381.out GE385.out GE498.out GE516.out))); replace BK381 := zq (Xg (zk BK381.out) hb); replace HB := zq (Xe (zs4 GE381.out GE385.out GE498.out GE516.out) hb); (try clear hb); (try clear hk); (try clear ho0); (try clear ho1); (try clear ho2); obtain ⟨Ao189, co189, eo189⟩ := ah HO569.out; subst eo189; obtain ⟨Ao190, co190, eo190⟩ := ah HO572.out; subst eo190; obtain ⟨Ao191, co191, eo191⟩ := ah HO575.out; subst eo191) | ((with_reducible refine Xj (N := 165) rfl ?_); (try (refine Xw J63 ?_; dsimp only)); refine lwN k30 30 165 (xs := ([(⟨t566, t567, t570, t573⟩ : S30)] : List (S30))) [.int .i64 t566, .slice Ao189 t567.length co189, .slice Ao190 t570.length co190, .slice Ao191 t573.length co191] Ny576 (Reps.c4 (show Kd.FK k30 _ _ (⟨t566, t567, t570, t573⟩ : S30) [.int .i64 t566, .slice Ao189 t567.length co189, .slice Ao190 t570.length co190, .slice Ao191 t573.length co191] from (mkG _ _ (⟨t566, t567, t570, t573⟩ : S30) (rF (af (ok' := fun _ => True) (HO569.out) (fun _ _ => trivial))) (rF (af (ok' := fun _ => True) (HO572.out) (fun _ _ => trivial))) (rF (af (ok' := fun _ => True) (HO575.out) (fun _ _ => trivial))))) (Reps.none _ _)) ?_; intro v577 w192 ho193 hb; replace HO380 := zq (am (zv HO380.out) (ao ho193) hb); have HO578 := zq (aH ho193 (Xc (zs4 GE381.out GE385.out GE498.out GE516.out))); replace BK381 := zq (Xg (zk BK381.out) hb); replace HB := zq (Xe (zs4 GE381.out GE385.out GE498.out GE516.out) hb); clear HO569 HO572 HO575; clear hb ho193; obtain ⟨Ao194, co194, eo194⟩ := aJ HO578.out; subst eo194) | (go_at_call 18; (with_reducible refine (Xbc.calls k _ _ y576 false _ ?side1 ?side2 A39.out).mono ?_); (case side1 => exact zc ((ar HO578.out).2.2)); (case side2 => exact (ar HO578.out).2.1); rintro e w195 ⟨rfl, hb⟩; replace HO380 := zq (ax (zv HO380.out) hb); replace BK381 := zq (Xg (zk BK381.out) hb); replace HB := zq (Xe (zs4 GE381.out GE385.out GE498.out GE516.out) hb); (try clear hb); (try clear hk); have Z196 := cz4 BK381.out) | ((with_reducible refine Xj (N := 171) rfl ?_); (try (refine Xw J63 ?_; dsimp only)); refine lwN k30 30 171 (xs := ([(⟨3, ([] : List Int), t378, ([] : List (S38))⟩ : S30)] : List (S30))) [.int .i64 3, .slice none 0 0, .slice Ao43 t378.length co43, .slice none 0 0] Ny580 (Reps.c4 (show Kd.FK k30 _ _ (⟨3, ([] : List Int), t378, ([] : List (S38))⟩ : S30) [.int .i64 3, .slice none 0 0, .slice Ao43 t378.length co43, .slice none 0 0] from (mkG _ _ (⟨3, ([] : List Int), t378, ([] : List (S38))⟩ : S30) ⟨(Nat.le_refl _), (ba _ _ _)⟩ ⟨(av (aj (ok' := fun _ => True) (HO380.out) (fun _ _ => trivial))).2.1, (cF (aj (ok' := fun _ => True) (HO380.out) (fun _ _ => trivial)))⟩ ⟨(Nat.le_refl _), (ba _ _ _)⟩)) (Reps.none _ _)) ?_; intro v581 w197 ho198 hb; have HO582 := zq (aH ho198 (Xc (zs4 GE381.out GE385.out GE498.out GE516.out))); replace HB := zq (Xe (zs4 GE381.out GE385.out GE498.out GE516.out) hb); clear hb ho198; obtain ⟨Ao199, co199, eo199⟩ := aJ HO582.out; subst eo199) | (go_at_call 18; (with_reducible refine (Xbc.calls k _ _ y580 t583 _ ?side1 ?side2 A41.out).mono ?_); (case side1 => exact zc ((ar HO582.out).2.2)); (case side2 => exact (ar HO582.out).2.1); rintro e w200 ⟨rfl, hb⟩; replace HB := zq (Xe (zs4 GE381.out GE385.out GE498.out GE516.out) hb); (try clear hb); (try clear hk)) | ((with_reducible refine unguard_ rfl ?hu_ ?_); (case hu_ => rfl); dsimp only))
 go_ret
 exact ⟨J1, by repeat (first | (with_reducible first | exact HB.out | apply Xaf | apply X3 | apply X9 | refine X0 ?_ GE381.out | refine X0 ?_ GE385.out | refine X0 ?_ GE498.out | refine X0 ?_ GE516.out) | exact HB.out)⟩
end Go.Proofs.Ytecdklheppcihaa.HTightTells
