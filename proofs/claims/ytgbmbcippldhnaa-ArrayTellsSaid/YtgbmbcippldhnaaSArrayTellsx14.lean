import Derived.Test.YtgbmbcippldhnaaSArrayTellsx0
namespace Go.Proofs.Ytgbmbcippldhnaa.HArrayTells
open Go.RowKit Go.Proofs.YtgbmbcippldhnaaW.PrintWords Go.Proofs.YtgbmbcippldhnaaW.PrintLast Go.Proofs.YtgbmbcippldhnaaW.PrintMore
attribute [local go_sem] max2_int min2_int max_two min_two max_three min_three max_four min_four
set_option linter.unusedVariables false
set_option linter.unusedSimpArgs false
def deckleref10_Copy.l0 : Nat → List (S32) → List (S32) → Int → Option ((List (S32)))
  | 0, _, _, _ => none
  | k + 1, x0, x3, x4 => if x4 < (x0.length : Int) then (if 0 ≤ x4 then ((some (([] : List Int) : List Int)).bind fun y388 => (if y388.length + ((rd_T32 x0 x4).f1).length < 17592186044416 then ((some (([] : List Int) : List Int)).bind fun y395 => (if y395.length + ((rd_T32 x0 x4).f2).length < 17592186044416 then ((some (([] : List (S41)) : List (S41))).bind fun y402 => (if y402.length + ((rd_T32 x0 x4).f3).length < 8796093022208 then (if x3.length < 1759218604441 then (deckleref10_Copy.l0 k x0 (x3 ++ [(⟨(rd_T32 x0 x4).f0, (y388 ++ ((rd_T32 x0 x4).f1)), (y395 ++ ((rd_T32 x0 x4).f2)), (y402 ++ ((rd_T32 x0 x4).f3))⟩ : S32)]) (wrap64 (x4 + 1))) else (none)) else (none))) else (none))) else (none))) else (none)) else (some x3)
def deckleref10_Copy.f (k : Nat) (l0 : List (S32)) : Option ((List (S32))) := deckleref10_Copy.l0 k l0 ([] : List (S32)) 0
def deckleref10_Copy.T5 : Bool × List (List Nat × List Nat) := (true, [([], []), ([], []), ([], []), ([1, 2], [1, 2]), ([3], [3]), ([4], [4]), ([], []), ([], []), ([], []), ([7, 8], [7, 8]), ([9], [9]), ([10], [10]), ([6, 11], [6, 11]), ([], []), ([], []), ([], []), ([14, 15], [14, 15]), ([16], [16]), ([17], [17]), ([13, 18, 12], [13, 18]), ([], []), ([], []), ([], []), ([21, 22], [21, 22]), ([23], [23]), ([24], [24]), ([20, 25, 19], [20, 25]), ([5, 12, 19, 26], [5, 12, 19, 26]), ([27], [27]), ([0, 28, 26], [0, 28]), ([29, 29, 0, 1, 2, 3, 4, 5, 6, 7, 8, 9, 10, 11, 12, 13, 14, 15, 16, 17, 18, 19, 20, 21, 22, 23, 24, 25, 26, 27, 28, 29], [0, 29])])
def deckleref10_Copy.B5 : List Nat := [0, 0, 0, 6, 14, 30, 0, 0, 0, 384, 896, 1920, 4032, 0, 0, 0, 49152, 114688, 245760, 524224, 0, 0, 0, 6291456, 14680064, 31457280, 67108800, 134217726, 268435454, 536870911, 1073741823]
theorem deckleref10_Copy.tab5 : rtab .any (opsOf Try.f29 5) = deckleref10_Copy.T5 := J8
theorem deckleref10_Copy.bits5 : waitsOk deckleref10_Copy.T5.2 deckleref10_Copy.B5 = true := J8
set_option maxHeartbeats 8000000 in
set_option maxRecDepth 100000 in
theorem deckleref10_Copy.calls (k : Nat) (A0 : Option Addr) (c0 : Nat) (l0 : List (S32)) (r : List (S32)) (w : World) (hr0 : Kd.C k32 w A0 l0.length l0) (hc0 : l0.length ≤ c0) (h : deckleref10_Copy.f k l0 = some r) :
    Calls Try.prog 29 #[.slice A0 l0.length c0] w fun e w' => ∃ v0_ : Value, e = .returned (v0_) ∧ Kd.S k32 32 w' w.heap.size (fun _ => True) v0_ r ∧ Below w.heap.size w w' := by
  have hu32 := Try.underlying32
  have HR0 := Aside0.mk hr0
  have HC0 := Aside0.mk hc0
  clear hr0 hc0
  have HB := Aside0.mk (Below.refl w.heap.size w)
  have H : (deckleref10_Copy.l0 k l0 ([] : List (S32)) 0) = some r := h
  clear h
  have H' := Aside0.mk H
  clear H
  go_enter Try.func29, Try.ntmps29
  go_wp2
  go_loopg [3, 4] k (fun kq v3 v4 w' => ∃ (x3_1 : List (S32)) (x4_1 : Int), v4 = .int .i64 x4_1 ∧ Aside0 (deckleref10_Copy.l0 kq l0 x3_1 x4_1 = some r) ∧ Aside0 (kq ≤ k) ∧ Aside0 (Kd.S k32 32 w' w.heap.size (fun _ => True) v3 x3_1) ∧ Aside0 (Below w.heap.size w w'))
  case atStart => exact ⟨(([] : List (S32))), (0), J4, H', ⟨Nat.le_refl _⟩, ⟨J57⟩, ⟨J0⟩⟩
  case round =>
    clear H'
    obtain ⟨x3_1, x4_1, rfl, HA, HK1, HO_3, HB⟩ := hrel
    cases gk with
    | zero => exact absurd HA.out (by simp [deckleref10_Copy.l0])
    | succ k1 =>
      have H := HA.out
      clear HA
      simp only [deckleref10_Copy.l0] at H
      by_cases c2 : x4_1 < (l0.length : Int)
      rotate_left
      · rw [if_neg c2] at H
        have c2b0 := decide_eq_false c2
        clear c2
        obtain rfl := Option.some.inj H
        go_wp2
        go_ret
        exact ⟨_, J3, by (with_reducible repeat (first | apply Kd.S_alloc | apply Kd.S_drewN | apply Kd.S_drew)); exact HO_3.out, J0⟩
      rw [if_pos c2] at H
      have c2b0 := decide_eq_true c2
      clear c2
      by_cases c3 : 0 ≤ x4_1
      rotate_left
      · rw [if_neg c3] at H
        exact absurd H J28
      rw [if_pos c3] at H
      have c3b0 := decide_eq_true c3
      clear c3
      obtain ⟨y388, hy388⟩ : ∃ y_ : List Int, y_ = (([] : List Int)) := ⟨_, rfl⟩
      replace H : (if y388.length + ((rd_T32 l0 x4_1).f1).length < 17592186044416 then ((some (([] : List Int) : List Int)).bind fun y395 => (if y395.length + ((rd_T32 l0 x4_1).f2).length < 17592186044416 then ((some (([] : List (S41)) : List (S41))).bind fun y402 => (if y402.length + ((rd_T32 l0 x4_1).f3).length < 8796093022208 then (if x3_1.length < 1759218604441 then (deckleref10_Copy.l0 k1 l0 (x3_1 ++ [(⟨(rd_T32 l0 x4_1).f0, (y388 ++ ((rd_T32 l0 x4_1).f1)), (y395 ++ ((rd_T32 l0 x4_1).f2)), (y402 ++ ((rd_T32 l0 x4_1).f3))⟩ : S32)]) (wrap64 (x4_1 + 1))) else (none)) else (none))) else (none))) else (none)) = some r := by first | (rw [hy388]; with_reducible exact H) | (have H2_ := (Option.bind_some _ _).symm.trans H; rw [hy388]; with_reducible exact H2_) | (have H2_ := (Option.bind_some _ _).symm.trans H; with_reducible exact H2_) | with_reducible exact H | (rw [hy388]; exact H) | exact H
      have Ny388 := Aside0.mk hy388
      clear hy388
      by_cases c4 : y388.length + ((rd_T32 l0 x4_1).f1).length < 17592186044416
      rotate_left
      · rw [if_neg c4] at H
        exact absurd H J28
      rw [if_pos c4] at H
      have LMc4 := Aside0.mk c4
      clear c4
      obtain ⟨y392, hy392⟩ : ∃ y_ : List Int, y_ = (y388 ++ ((rd_T32 l0 x4_1).f1)) := ⟨_, rfl⟩
      replace H : ((some (([] : List Int) : List Int)).bind fun y395 => (if y395.length + ((rd_T32 l0 x4_1).f2).length < 17592186044416 then ((some (([] : List (S41)) : List (S41))).bind fun y402 => (if y402.length + ((rd_T32 l0 x4_1).f3).length < 8796093022208 then (if x3_1.length < 1759218604441 then (deckleref10_Copy.l0 k1 l0 (x3_1 ++ [(⟨(rd_T32 l0 x4_1).f0, y392, (y395 ++ ((rd_T32 l0 x4_1).f2)), (y402 ++ ((rd_T32 l0 x4_1).f3))⟩ : S32)]) (wrap64 (x4_1 + 1))) else (none)) else (none))) else (none))) = some r := by first | (rw [hy392]; with_reducible exact H) | (have H2_ := (Option.bind_some _ _).symm.trans H; rw [hy392]; with_reducible exact H2_) | (have H2_ := (Option.bind_some _ _).symm.trans H; with_reducible exact H2_) | with_reducible exact H | (rw [hy392]; exact H) | exact H
      have Ny392 := Aside0.mk hy392
      clear hy392
      obtain ⟨y395, hy395⟩ : ∃ y_ : List Int, y_ = (([] : List Int)) := ⟨_, rfl⟩
      replace H : (if y395.length + ((rd_T32 l0 x4_1).f2).length < 17592186044416 then ((some (([] : List (S41)) : List (S41))).bind fun y402 => (if y402.length + ((rd_T32 l0 x4_1).f3).length < 8796093022208 then (if x3_1.length < 1759218604441 then (deckleref10_Copy.l0 k1 l0 (x3_1 ++ [(⟨(rd_T32 l0 x4_1).f0, y392, (y395 ++ ((rd_T32 l0 x4_1).f2)), (y402 ++ ((rd_T32 l0 x4_1).f3))⟩ : S32)]) (wrap64 (x4_1 + 1))) else (none)) else (none))) else (none)) = some r := by first | (rw [hy395]; with_reducible exact H) | (have H2_ := (Option.bind_some _ _).symm.trans H; rw [hy395]; with_reducible exact H2_) | (have H2_ := (Option.bind_some _ _).symm.trans H; with_reducible exact H2_) | with_reducible exact H | (rw [hy395]; exact H) | exact H
      have Ny395 := Aside0.mk hy395
      clear hy395
      by_cases c5 : y395.length + ((rd_T32 l0 x4_1).f2).length < 17592186044416
      rotate_left
      · rw [if_neg c5] at H
        exact absurd H J28
      rw [if_pos c5] at H
      have LMc5 := Aside0.mk c5
      clear c5
      obtain ⟨y399, hy399⟩ : ∃ y_ : List Int, y_ = (y395 ++ ((rd_T32 l0 x4_1).f2)) := ⟨_, rfl⟩
      replace H : ((some (([] : List (S41)) : List (S41))).bind fun y402 => (if y402.length + ((rd_T32 l0 x4_1).f3).length < 8796093022208 then (if x3_1.length < 1759218604441 then (deckleref10_Copy.l0 k1 l0 (x3_1 ++ [(⟨(rd_T32 l0 x4_1).f0, y392, y399, (y402 ++ ((rd_T32 l0 x4_1).f3))⟩ : S32)]) (wrap64 (x4_1 + 1))) else (none)) else (none))) = some r := by first | (rw [hy399]; with_reducible exact H) | (have H2_ := (Option.bind_some _ _).symm.trans H; rw [hy399]; with_reducible exact H2_) | (have H2_ := (Option.bind_some _ _).symm.trans H; with_reducible exact H2_) | with_reducible exact H | (rw [hy399]; exact H) | exact H
      have Ny399 := Aside0.mk hy399
      clear hy399
      obtain ⟨y402, hy402⟩ : ∃ y_ : List (S41), y_ = (([] : List (S41))) := ⟨_, rfl⟩
      replace H : (if y402.length + ((rd_T32 l0 x4_1).f3).length < 8796093022208 then (if x3_1.length < 1759218604441 then (deckleref10_Copy.l0 k1 l0 (x3_1 ++ [(⟨(rd_T32 l0 x4_1).f0, y392, y399, (y402 ++ ((rd_T32 l0 x4_1).f3))⟩ : S32)]) (wrap64 (x4_1 + 1))) else (none)) else (none)) = some r := by first | (rw [hy402]; with_reducible exact H) | (have H2_ := (Option.bind_some _ _).symm.trans H; rw [hy402]; with_reducible exact H2_) | (have H2_ := (Option.bind_some _ _).symm.trans H; with_reducible exact H2_) | with_reducible exact H | (rw [hy402]; exact H) | exact H
      have Ny402 := Aside0.mk hy402
      clear hy402
      by_cases c6 : y402.length + ((rd_T32 l0 x4_1).f3).length < 8796093022208
      rotate_left
      · rw [if_neg c6] at H
        exact absurd H J28
      rw [if_pos c6] at H
      have LMc6 := Aside0.mk c6
      clear c6
      obtain ⟨y406, hy406⟩ : ∃ y_ : List (S41), y_ = (y402 ++ ((rd_T32 l0 x4_1).f3)) := ⟨_, rfl⟩
      replace H : (if x3_1.length < 1759218604441 then (deckleref10_Copy.l0 k1 l0 (x3_1 ++ [(⟨(rd_T32 l0 x4_1).f0, y392, y399, y406⟩ : S32)]) (wrap64 (x4_1 + 1))) else (none)) = some r := by first | (rw [hy406]; with_reducible exact H) | (have H2_ := (Option.bind_some _ _).symm.trans H; rw [hy406]; with_reducible exact H2_) | (have H2_ := (Option.bind_some _ _).symm.trans H; with_reducible exact H2_) | with_reducible exact H | (rw [hy406]; exact H) | exact H
      have Ny406 := Aside0.mk hy406
      clear hy406
      by_cases c7 : x3_1.length < 1759218604441
      rotate_left
      · rw [if_neg c7] at H
        exact absurd H J28
      rw [if_pos c7] at H
      have LMc7 := Aside0.mk c7
      clear c7
      obtain ⟨y409, hy409⟩ : ∃ y_ : List (S32), y_ = (x3_1 ++ [(⟨(rd_T32 l0 x4_1).f0, y392, y399, y406⟩ : S32)]) := ⟨_, rfl⟩
      replace H : (deckleref10_Copy.l0 k1 l0 y409 (wrap64 (x4_1 + 1))) = some r := by first | (rw [hy409]; with_reducible exact H) | (have H2_ := (Option.bind_some _ _).symm.trans H; rw [hy409]; with_reducible exact H2_) | (have H2_ := (Option.bind_some _ _).symm.trans H; with_reducible exact H2_) | with_reducible exact H | (rw [hy409]; exact H) | exact H
      have Ny409 := Aside0.mk hy409
      clear hy409
      have H' := Aside0.mk H
      clear H
      obtain ⟨Ao8, co8, eo8⟩ := Kd.S_slice HO_3.out
      subst eo8
      try go_wp2
      have n0_ := Aside0.mk (Kd.S_drew HO_3.out)
      have n1_ := Aside0.mk (below_drew1 HB.out)
      clear HO_3
      clear HB
      have HO_3 := n0_
      have HB := n1_
      clear n0_ n1_
      have p387 : 0 ≤ (x4_1 : Int) := of_decide_eq_true J2
      have q387 : x4_1 < (l0.length : Int) := of_decide_eq_true J2
      obtain ⟨ad387, A387_1, c387_1, A387_2, c387_2, A387_3, c387_3, e387, hx387_0, hx387_1, hx387_2, hx387_3, hl387_1, hi387_1, hl387_2, hi387_2, hl387_3, hi387_3⟩ := at_T32 HR0.out x4_1 p387 q387
      have hw387_3 := hx387_3
      have hw387_2 := hx387_2
      have hw387_1 := hx387_1
      have hw387_0 := hx387_0
      cases e387
      replace hx387_0 := (HB.out.cell (World.block_lt_of_cell? w _ hx387_0)).trans hx387_0
      replace hx387_1 := (HB.out.cell (World.block_lt_of_cell? w _ hx387_1)).trans hx387_1
      replace hx387_2 := (HB.out.cell (World.block_lt_of_cell? w _ hx387_2)).trans hx387_2
      replace hx387_3 := (HB.out.cell (World.block_lt_of_cell? w _ hx387_3)).trans hx387_3
      have HR387_1 := Aside0.mk hi387_1
      have HC387_1 := Aside0.mk hl387_1
      clear hi387_1 hl387_1
      have HR387_2 := Aside0.mk hi387_2
      have HC387_2 := Aside0.mk hl387_2
      clear hi387_2 hl387_2
      have HR387_3 := Aside0.mk hi387_3
      have HC387_3 := Aside0.mk hl387_3
      clear hi387_3 hl387_3
      replace p387 := eq_true p387
      replace q387 := eq_true q387
      have p391 : 0 ≤ (x4_1 : Int) := of_decide_eq_true J2
      have q391 : x4_1 < (l0.length : Int) := of_decide_eq_true J2
      obtain ⟨ad391, A391_1, c391_1, A391_2, c391_2, A391_3, c391_3, e391, hx391_0, hx391_1, hx391_2, hx391_3, hl391_1, hi391_1, hl391_2, hi391_2, hl391_3, hi391_3⟩ := at_T32 HR0.out x4_1 p391 q391
      have hw391_3 := hx391_3
      have hw391_2 := hx391_2
      have hw391_1 := hx391_1
      have hw391_0 := hx391_0
      obtain rfl : ad387 = ad391 := (by injection e391)
      replace hx391_0 := (HB.out.cell (World.block_lt_of_cell? w _ hx391_0)).trans hx391_0
      replace hx391_1 := (HB.out.cell (World.block_lt_of_cell? w _ hx391_1)).trans hx391_1
      replace hx391_2 := (HB.out.cell (World.block_lt_of_cell? w _ hx391_2)).trans hx391_2
      replace hx391_3 := (HB.out.cell (World.block_lt_of_cell? w _ hx391_3)).trans hx391_3
      have HR391_1 := Aside0.mk hi391_1
      have HC391_1 := Aside0.mk hl391_1
      clear hi391_1 hl391_1
      have HR391_2 := Aside0.mk hi391_2
      have HC391_2 := Aside0.mk hl391_2
      clear hi391_2 hl391_2
      have HR391_3 := Aside0.mk hi391_3
      have HC391_3 := Aside0.mk hl391_3
      clear hi391_3 hl391_3
      replace p391 := eq_true p391
      replace q391 := eq_true q391
      have ea_ := Option.some.inj (hx387_1.symm.trans hx391_1)
      injection ea_ with ea_ en_ ec_
      subst ea_
      subst ec_
      clear en_
      have ea_ := Option.some.inj (hx387_2.symm.trans hx391_2)
      injection ea_ with ea_ en_ ec_
      subst ea_
      subst ec_
      clear en_
      have ea_ := Option.some.inj (hx387_3.symm.trans hx391_3)
      injection ea_ with ea_ en_ ec_
      subst ea_
      subst ec_
      clear en_
      have p398 : 0 ≤ (x4_1 : Int) := of_decide_eq_true J2
      have q398 : x4_1 < (l0.length : Int) := of_decide_eq_true J2
      obtain ⟨ad398, A398_1, c398_1, A398_2, c398_2, A398_3, c398_3, e398, hx398_0, hx398_1, hx398_2, hx398_3, hl398_1, hi398_1, hl398_2, hi398_2, hl398_3, hi398_3⟩ := at_T32 HR0.out x4_1 p398 q398
      have hw398_3 := hx398_3
      have hw398_2 := hx398_2
      have hw398_1 := hx398_1
      have hw398_0 := hx398_0
      obtain rfl : ad387 = ad398 := (by injection e398)
      replace hx398_0 := (HB.out.cell (World.block_lt_of_cell? w _ hx398_0)).trans hx398_0
      replace hx398_1 := (HB.out.cell (World.block_lt_of_cell? w _ hx398_1)).trans hx398_1
      replace hx398_2 := (HB.out.cell (World.block_lt_of_cell? w _ hx398_2)).trans hx398_2
      replace hx398_3 := (HB.out.cell (World.block_lt_of_cell? w _ hx398_3)).trans hx398_3
      have HR398_1 := Aside0.mk hi398_1
      have HC398_1 := Aside0.mk hl398_1
      clear hi398_1 hl398_1
      have HR398_2 := Aside0.mk hi398_2
      have HC398_2 := Aside0.mk hl398_2
      clear hi398_2 hl398_2
      have HR398_3 := Aside0.mk hi398_3
      have HC398_3 := Aside0.mk hl398_3
      clear hi398_3 hl398_3
      replace p398 := eq_true p398
      replace q398 := eq_true q398
      have ea_ := Option.some.inj (hx387_1.symm.trans hx398_1)
      injection ea_ with ea_ en_ ec_
      subst ea_
      subst ec_
      clear en_
      have ea_ := Option.some.inj (hx387_2.symm.trans hx398_2)
      injection ea_ with ea_ en_ ec_
      subst ea_
      subst ec_
      clear en_
      have ea_ := Option.some.inj (hx387_3.symm.trans hx398_3)
      injection ea_ with ea_ en_ ec_
      subst ea_
      subst ec_
      clear en_
      have p405 : 0 ≤ (x4_1 : Int) := of_decide_eq_true J2
      have q405 : x4_1 < (l0.length : Int) := of_decide_eq_true J2
      obtain ⟨ad405, A405_1, c405_1, A405_2, c405_2, A405_3, c405_3, e405, hx405_0, hx405_1, hx405_2, hx405_3, hl405_1, hi405_1, hl405_2, hi405_2, hl405_3, hi405_3⟩ := at_T32 HR0.out x4_1 p405 q405
      have hw405_3 := hx405_3
      have hw405_2 := hx405_2
      have hw405_1 := hx405_1
      have hw405_0 := hx405_0
      obtain rfl : ad387 = ad405 := (by injection e405)
      replace hx405_0 := (HB.out.cell (World.block_lt_of_cell? w _ hx405_0)).trans hx405_0
      replace hx405_1 := (HB.out.cell (World.block_lt_of_cell? w _ hx405_1)).trans hx405_1
      replace hx405_2 := (HB.out.cell (World.block_lt_of_cell? w _ hx405_2)).trans hx405_2
      replace hx405_3 := (HB.out.cell (World.block_lt_of_cell? w _ hx405_3)).trans hx405_3
      have HR405_1 := Aside0.mk hi405_1
      have HC405_1 := Aside0.mk hl405_1
      clear hi405_1 hl405_1
      have HR405_2 := Aside0.mk hi405_2
      have HC405_2 := Aside0.mk hl405_2
      clear hi405_2 hl405_2
      have HR405_3 := Aside0.mk hi405_3
      have HC405_3 := Aside0.mk hl405_3
      clear hi405_3 hl405_3
      replace p405 := eq_true p405
      replace q405 := eq_true q405
      have ea_ := Option.some.inj (hx387_1.symm.trans hx405_1)
      injection ea_ with ea_ en_ ec_
      subst ea_
      subst ec_
      clear en_
      have ea_ := Option.some.inj (hx387_2.symm.trans hx405_2)
      injection ea_ with ea_ en_ ec_
      subst ea_
      subst ec_
      clear en_
      have ea_ := Option.some.inj (hx387_3.symm.trans hx405_3)
      injection ea_ with ea_ en_ ec_
      subst ea_
      subst ec_
      clear en_
      refine start_ (n := 31) (S := fun w' => w'.cell? (ad387.add ((x4_1).toNat * 4)) = some (.int .i64 ((rd_T32 l0 x4_1).f0)) ∧ w'.cell? ⟨(ad387.add ((x4_1).toNat * 4)).block, (ad387.add ((x4_1).toNat * 4)).off + 1, none⟩ = some (.slice A387_1 ((rd_T32 l0 x4_1).f1).length c387_1) ∧ w'.cell? ⟨(ad387.add ((x4_1).toNat * 4)).block, (ad387.add ((x4_1).toNat * 4)).off + 2, none⟩ = some (.slice A387_2 ((rd_T32 l0 x4_1).f2).length c387_2) ∧ w'.cell? ⟨(ad387.add ((x4_1).toNat * 4)).block, (ad387.add ((x4_1).toNat * 4)).off + 3, none⟩ = some (.slice A387_3 ((rd_T32 l0 x4_1).f3).length c387_3)) (ds := []) #[false, false, false, false, false, false, false, false, false, false, false, false, false, false, false, false, false, false, false, false, false, false, false, false, false, false, false, false, false, false, false] J8 rfl rfl ⟨((HB.out.cell (World.block_lt_of_cell? w _ hw387_0)).trans hw387_0), ((HB.out.cell (World.block_lt_of_cell? w _ hw387_1)).trans hw387_1), ((HB.out.cell (World.block_lt_of_cell? w _ hw387_2)).trans hw387_2), ((HB.out.cell (World.block_lt_of_cell? w _ hw387_3)).trans hw387_3)⟩ (fun hHeld => ?_); refine with_tabW deckleref10_Copy.tab5 deckleref10_Copy.bits5 (fun HT_ HW_ => ?_)
      generalize wr.drew = w9 at HO_3 HB HR387_1 HR387_2 HR387_3 HR391_1 HR391_2 HR391_3 HR398_1 HR398_2 HR398_3 HR405_1 HR405_2 HR405_3 hx387_0 hx387_1 hx387_2 hx387_3 hx391_0 hx391_1 hx391_2 hx391_3 hx398_0 hx398_1 hx398_2 hx398_3 hx405_0 hx405_1 hx405_2 hx405_3 hHeld ⊢
      refine pure_ (i := 0) (N := some 11) (v := ?_) (a' := ?_) #[true, false, false, false, false, false, false, false, false, false, false, false, false, false, false, false, false, false, false, false, false, false, false, false, false, false, false, false, false, false, false] rfl rfl (any_of HT_.out J8) (fun _ _ _ h => h) (Or.inl ⟨J47, ?_⟩) ?_ ?_
      rotate_left
      · intro w'
        go_simp
        with_reducible rfl
      rotate_left
      · simp only [Act.put, List.setIfInBounds_toArray, List.set_cons_zero, List.set_cons_succ, i64_w, i32_w]
        rfl
      refine pure_ (i := 1) (N := some 12) (v := ?_) (a' := ?_) #[true, true, false, false, false, false, false, false, false, false, false, false, false, false, false, false, false, false, false, false, false, false, false, false, false, false, false, false, false, false, false] rfl rfl (any_of HT_.out J8) (fun _ _ _ h => h) (Or.inl ⟨J47, ?_⟩) ?_ ?_
      rotate_left
      · intro w'
        go_simp
        with_reducible rfl
      rotate_left
      · simp only [Act.put, List.setIfInBounds_toArray, List.set_cons_zero, List.set_cons_succ, i64_w, i32_w]
        rfl
      refine pure_ (i := 2) (N := some 13) (v := ?_) (a' := ?_) #[true, true, true, false, false, false, false, false, false, false, false, false, false, false, false, false, false, false, false, false, false, false, false, false, false, false, false, false, false, false, false] rfl rfl (any_of HT_.out J8) (fun _ _ _ h => h) (Or.inl ⟨J47, ?_⟩) ?_ ?_
      rotate_left
      · intro w'
        go_simp
        with_reducible rfl
      rotate_left
      · simp only [Act.put, List.setIfInBounds_toArray, List.set_cons_zero, List.set_cons_succ, i64_w, i32_w]
        rfl
      refine pure_ (i := 3) (N := some 14) (v := ?_) (a' := ?_) #[true, true, true, true, false, false, false, false, false, false, false, false, false, false, false, false, false, false, false, false, false, false, false, false, false, false, false, false, false, false, false] rfl rfl (any_of HT_.out J8) (fun _ _ _ h => h) (Or.inl ⟨J47, ?_⟩) ?_ ?_
      rotate_left
      · intro w'
        go_simp
        with_reducible rfl
      rotate_left
      · simp only [Act.put, List.setIfInBounds_toArray, List.set_cons_zero, List.set_cons_succ, i64_w, i32_w]
        rfl
      refine pure_ (i := 4) (N := some 15) (v := ?_) (a' := ?_) #[true, true, true, true, true, false, false, false, false, false, false, false, false, false, false, false, false, false, false, false, false, false, false, false, false, false, false, false, false, false, false] rfl rfl (any_of HT_.out J8) (fun _ _ _ h => h) (Or.inl ⟨J47, ?_⟩) ?_ ?_
      rotate_left
      · intro w'
        go_simp
        with_reducible rfl
      rotate_left
      · simp only [Act.put, List.setIfInBounds_toArray, List.set_cons_zero, List.set_cons_succ, i64_w, i32_w]
        rfl
      refine pure_ (i := 7) (N := some 18) (v := ?_) (a' := ?_) #[true, true, true, true, true, false, false, true, false, false, false, false, false, false, false, false, false, false, false, false, false, false, false, false, false, false, false, false, false, false, false] rfl rfl (any_of HT_.out J8) (fun _ _ _ h => h) (Or.inl ⟨J47, ?_⟩) ?_ ?_
      rotate_left
      · intro w'
        go_simp
        with_reducible rfl
      rotate_left
      · simp only [Act.put, List.setIfInBounds_toArray, List.set_cons_zero, List.set_cons_succ, i64_w, i32_w]
        rfl
      refine pure_ (i := 8) (N := some 19) (v := ?_) (a' := ?_) #[true, true, true, true, true, false, false, true, true, false, false, false, false, false, false, false, false, false, false, false, false, false, false, false, false, false, false, false, false, false, false] rfl rfl (any_of HT_.out J8) (fun _ _ _ h => h) (Or.inl ⟨J47, ?_⟩) ?_ ?_
      rotate_left
      · intro w'
        go_simp
        with_reducible rfl
      rotate_left
      · simp only [Act.put, List.setIfInBounds_toArray, List.set_cons_zero, List.set_cons_succ, i64_w, i32_w]
        rfl
      refine pure_ (i := 9) (N := some 20) (v := ?_) (a' := ?_) #[true, true, true, true, true, false, false, true, true, true, false, false, false, false, false, false, false, false, false, false, false, false, false, false, false, false, false, false, false, false, false] rfl rfl (any_of HT_.out J8) (fun _ _ _ h => h) (Or.inl ⟨J47, ?_⟩) ?_ ?_
      rotate_left
      · intro w'
        go_simp
        with_reducible rfl
      rotate_left
      · simp only [Act.put, List.setIfInBounds_toArray, List.set_cons_zero, List.set_cons_succ, i64_w, i32_w]
        rfl
      refine pure_ (i := 10) (N := some 21) (v := ?_) (a' := ?_) #[true, true, true, true, true, false, false, true, true, true, true, false, false, false, false, false, false, false, false, false, false, false, false, false, false, false, false, false, false, false, false] rfl rfl (any_of HT_.out J8) (fun _ _ _ h => h) (Or.inl ⟨J47, ?_⟩) ?_ ?_
      rotate_left
      · intro w'
        go_simp
        with_reducible rfl
      rotate_left
      · simp only [Act.put, List.setIfInBounds_toArray, List.set_cons_zero, List.set_cons_succ, i64_w, i32_w]
        rfl
      refine pure_ (i := 14) (N := some 25) (v := ?_) (a' := ?_) #[true, true, true, true, true, false, false, true, true, true, true, false, false, false, true, false, false, false, false, false, false, false, false, false, false, false, false, false, false, false, false] rfl rfl (any_of HT_.out J8) (fun _ _ _ h => h) (Or.inl ⟨J47, ?_⟩) ?_ ?_
      rotate_left
      · intro w'
        go_simp
        with_reducible rfl
      rotate_left
      · simp only [Act.put, List.setIfInBounds_toArray, List.set_cons_zero, List.set_cons_succ, i64_w, i32_w]
        rfl
      refine pure_ (i := 15) (N := some 26) (v := ?_) (a' := ?_) #[true, true, true, true, true, false, false, true, true, true, true, false, false, false, true, true, false, false, false, false, false, false, false, false, false, false, false, false, false, false, false] rfl rfl (any_of HT_.out J8) (fun _ _ _ h => h) (Or.inl ⟨J47, ?_⟩) ?_ ?_
      rotate_left
      · intro w'
        go_simp
        with_reducible rfl
      rotate_left
      · simp only [Act.put, List.setIfInBounds_toArray, List.set_cons_zero, List.set_cons_succ, i64_w, i32_w]
        rfl
      refine pure_ (i := 16) (N := some 27) (v := ?_) (a' := ?_) #[true, true, true, true, true, false, false, true, true, true, true, false, false, false, true, true, true, false, false, false, false, false, false, false, false, false, false, false, false, false, false] rfl rfl (any_of HT_.out J8) (fun _ _ _ h => h) (Or.inl ⟨J47, ?_⟩) ?_ ?_
      rotate_left
      · intro w'
        go_simp
        with_reducible rfl
      rotate_left
      · simp only [Act.put, List.setIfInBounds_toArray, List.set_cons_zero, List.set_cons_succ, i64_w, i32_w]
        rfl
      refine pure_ (i := 17) (N := some 28) (v := ?_) (a' := ?_) #[true, true, true, true, true, false, false, true, true, true, true, false, false, false, true, true, true, true, false, false, false, false, false, false, false, false, false, false, false, false, false] rfl rfl (any_of HT_.out J8) (fun _ _ _ h => h) (Or.inl ⟨J47, ?_⟩) ?_ ?_
      rotate_left
      · intro w'
        go_simp
        with_reducible rfl
      rotate_left
      · simp only [Act.put, List.setIfInBounds_toArray, List.set_cons_zero, List.set_cons_succ, i64_w, i32_w]
        rfl
      refine pure_ (i := 21) (N := some 32) (v := ?_) (a' := ?_) #[true, true, true, true, true, false, false, true, true, true, true, false, false, false, true, true, true, true, false, false, false, true, false, false, false, false, false, false, false, false, false] rfl rfl (any_of HT_.out J8) (fun _ _ _ h => h) (Or.inl ⟨J47, ?_⟩) ?_ ?_
      rotate_left
      · intro w'
        go_simp
        with_reducible rfl
      rotate_left
      · simp only [Act.put, List.setIfInBounds_toArray, List.set_cons_zero, List.set_cons_succ, i64_w, i32_w]
        rfl
      refine pure_ (i := 22) (N := some 33) (v := ?_) (a' := ?_) #[true, true, true, true, true, false, false, true, true, true, true, false, false, false, true, true, true, true, false, false, false, true, true, false, false, false, false, false, false, false, false] rfl rfl (any_of HT_.out J8) (fun _ _ _ h => h) (Or.inl ⟨J47, ?_⟩) ?_ ?_
      rotate_left
      · intro w'
        go_simp
        with_reducible rfl
      rotate_left
      · simp only [Act.put, List.setIfInBounds_toArray, List.set_cons_zero, List.set_cons_succ, i64_w, i32_w]
        rfl
      refine pure_ (i := 23) (N := some 34) (v := ?_) (a' := ?_) #[true, true, true, true, true, false, false, true, true, true, true, false, false, false, true, true, true, true, false, false, false, true, true, true, false, false, false, false, false, false, false] rfl rfl (any_of HT_.out J8) (fun _ _ _ h => h) (Or.inl ⟨J47, ?_⟩) ?_ ?_
      rotate_left
      · intro w'
        go_simp
        with_reducible rfl
      rotate_left
      · simp only [Act.put, List.setIfInBounds_toArray, List.set_cons_zero, List.set_cons_succ, i64_w, i32_w]
        rfl
      refine pure_ (i := 24) (N := some 35) (v := ?_) (a' := ?_) #[true, true, true, true, true, false, false, true, true, true, true, false, false, false, true, true, true, true, false, false, false, true, true, true, true, false, false, false, false, false, false] rfl rfl (any_of HT_.out J8) (fun _ _ _ h => h) (Or.inl ⟨J47, ?_⟩) ?_ ?_
      rotate_left
      · intro w'
        go_simp
        with_reducible rfl
      rotate_left
      · simp only [Act.put, List.setIfInBounds_toArray, List.set_cons_zero, List.set_cons_succ, i64_w, i32_w]
        rfl
      refine take_ (i := 5) (N := some 16) (v := ?_) (a' := ?_) #[true, true, true, true, true, true, false, true, true, true, true, false, false, false, true, true, true, true, false, false, false, true, true, true, true, false, false, false, false, false, false] rfl rfl (take_ofW HT_.out HW_.out J8) (fun _ _ _ h => h) (Or.inl ⟨J47, ?_⟩) hHeld ?_ ?_
      rotate_left
      · rintro w' ⟨s0, s1, s2, s3⟩
        go_simp
        with_reducible rfl
      rotate_left
      · simp only [Act.put, List.setIfInBounds_toArray, List.set_cons_zero, List.set_cons_succ, i64_w, i32_w]
        rfl
      refine take_ (i := 11) (N := some 22) (v := ?_) (a' := ?_) #[true, true, true, true, true, true, false, true, true, true, true, true, false, false, true, true, true, true, false, false, false, true, true, true, true, false, false, false, false, false, false] rfl rfl (take_ofW HT_.out HW_.out J8) (fun _ _ _ h => h) (Or.inl ⟨J47, ?_⟩) hHeld ?_ ?_
      rotate_left
      · rintro w' ⟨s0, s1, s2, s3⟩
        go_simp
        with_reducible rfl
      rotate_left
      · simp only [Act.put, List.setIfInBounds_toArray, List.set_cons_zero, List.set_cons_succ, i64_w, i32_w]
        rfl
      refine take_ (i := 18) (N := some 29) (v := ?_) (a' := ?_) #[true, true, true, true, true, true, false, true, true, true, true, true, false, false, true, true, true, true, true, false, false, true, true, true, true, false, false, false, false, false, false] rfl rfl (take_ofW HT_.out HW_.out J8) (fun _ _ _ h => h) (Or.inl ⟨J47, ?_⟩) hHeld ?_ ?_
      rotate_left
      · rintro w' ⟨s0, s1, s2, s3⟩
        go_simp
        with_reducible rfl
      rotate_left
      · simp only [Act.put, List.setIfInBounds_toArray, List.set_cons_zero, List.set_cons_succ, i64_w, i32_w]
        rfl
      refine take_ (i := 25) (N := some 36) (v := ?_) (a' := ?_) #[true, true, true, true, true, true, false, true, true, true, true, true, false, false, true, true, true, true, true, false, false, true, true, true, true, true, false, false, false, false, false] rfl rfl (take_ofW HT_.out HW_.out J8) (fun _ _ _ h => h) (Or.inl ⟨J47, ?_⟩) hHeld ?_ ?_
      rotate_left
      · rintro w' ⟨s0, s1, s2, s3⟩
        go_simp
        with_reducible rfl
      rotate_left
      · simp only [Act.put, List.setIfInBounds_toArray, List.set_cons_zero, List.set_cons_succ, i64_w, i32_w]
        rfl
      refine join_ (σ := Value × Value × Value × Value × Value) 5 #[true, true, true, true, true, true, true, true, true, true, true, true, true, true, true, true, true, true, true, true, true, true, true, true, true, true, false, false, false, false, false] (fun s_ => [(17, s_.1), (23, s_.2.1), (24, s_.2.2.1), (30, s_.2.2.2.1), (31, s_.2.2.2.2)]) (fun s_ w' => (w'.cell? (ad387.add ((x4_1).toNat * 4)) = some (.int .i64 ((rd_T32 l0 x4_1).f0)) ∧ w'.cell? ⟨(ad387.add ((x4_1).toNat * 4)).block, (ad387.add ((x4_1).toNat * 4)).off + 1, none⟩ = some (.slice A387_1 ((rd_T32 l0 x4_1).f1).length c387_1) ∧ w'.cell? ⟨(ad387.add ((x4_1).toNat * 4)).block, (ad387.add ((x4_1).toNat * 4)).off + 2, none⟩ = some (.slice A387_2 ((rd_T32 l0 x4_1).f2).length c387_2) ∧ w'.cell? ⟨(ad387.add ((x4_1).toNat * 4)).block, (ad387.add ((x4_1).toNat * 4)).off + 3, none⟩ = some (.slice A387_3 ((rd_T32 l0 x4_1).f3).length c387_3)) ∧ (Kd.R (Kd.int .i64) 3 w' w.heap.size (fun k_ => some k_ ≠ (s_.2.2.2.1 : Value).ownBlock) s_.2.1 y392) ∧ (Kd.R (Kd.int .i64) 3 w' w.heap.size (fun k_ => some k_ ≠ (s_.2.1 : Value).ownBlock) s_.2.2.2.1 y399) ∧ (Kd.R k41 41 w' w.heap.size (fun _ => True) s_.2.2.2.2 y402) ∧ (Kd.S k32 32 w' w.heap.size (fun k_ => some k_ ≠ (s_.2.1 : Value).ownBlock ∧ some k_ ≠ (s_.2.2.2.1 : Value).ownBlock ∧ some k_ ≠ (s_.2.2.2.2 : Value).ownBlock) (.slice Ao8 x3_1.length co8) x3_1) ∧ (Below w.heap.size w w')) ?_ ?_
      rotate_left
      · intro hJ6_12_13_19_20
        refine join_ (σ := Value × Value × Value × Value) 6 #[true, true, true, true, true, true, true, true, true, true, true, true, true, true, true, true, true, true, true, true, false, true, true, true, true, true, false, false, false, false, false] (fun s_ => [(17, s_.1), (23, s_.2.1), (24, s_.2.2.1), (30, s_.2.2.2)]) (fun s_ w' => (w'.cell? (ad387.add ((x4_1).toNat * 4)) = some (.int .i64 ((rd_T32 l0 x4_1).f0)) ∧ w'.cell? ⟨(ad387.add ((x4_1).toNat * 4)).block, (ad387.add ((x4_1).toNat * 4)).off + 1, none⟩ = some (.slice A387_1 ((rd_T32 l0 x4_1).f1).length c387_1) ∧ w'.cell? ⟨(ad387.add ((x4_1).toNat * 4)).block, (ad387.add ((x4_1).toNat * 4)).off + 2, none⟩ = some (.slice A387_2 ((rd_T32 l0 x4_1).f2).length c387_2) ∧ w'.cell? ⟨(ad387.add ((x4_1).toNat * 4)).block, (ad387.add ((x4_1).toNat * 4)).off + 3, none⟩ = some (.slice A387_3 ((rd_T32 l0 x4_1).f3).length c387_3)) ∧ (Kd.R (Kd.int .i64) 3 w' w.heap.size (fun k_ => some k_ ≠ (s_.2.2.2 : Value).ownBlock) s_.2.1 y392) ∧ (Kd.R (Kd.int .i64) 3 w' w.heap.size (fun k_ => some k_ ≠ (s_.2.1 : Value).ownBlock) s_.2.2.2 y399) ∧ (Kd.S k32 32 w' w.heap.size (fun k_ => some k_ ≠ (s_.2.1 : Value).ownBlock ∧ some k_ ≠ (s_.2.2.2 : Value).ownBlock) (.slice Ao8 x3_1.length co8) x3_1) ∧ (Below w.heap.size w w')) ?_ ?_
        rotate_left
        · intro hJ6_12_13_19
          refine join_ (σ := Value × Value × Value × Value) 6 #[true, true, true, true, true, true, true, true, true, true, true, true, true, true, true, true, true, true, true, false, true, true, true, true, true, true, false, false, false, false, false] (fun s_ => [(17, s_.1), (23, s_.2.1), (24, s_.2.2.1), (31, s_.2.2.2)]) (fun s_ w' => (w'.cell? (ad387.add ((x4_1).toNat * 4)) = some (.int .i64 ((rd_T32 l0 x4_1).f0)) ∧ w'.cell? ⟨(ad387.add ((x4_1).toNat * 4)).block, (ad387.add ((x4_1).toNat * 4)).off + 1, none⟩ = some (.slice A387_1 ((rd_T32 l0 x4_1).f1).length c387_1) ∧ w'.cell? ⟨(ad387.add ((x4_1).toNat * 4)).block, (ad387.add ((x4_1).toNat * 4)).off + 2, none⟩ = some (.slice A387_2 ((rd_T32 l0 x4_1).f2).length c387_2) ∧ w'.cell? ⟨(ad387.add ((x4_1).toNat * 4)).block, (ad387.add ((x4_1).toNat * 4)).off + 3, none⟩ = some (.slice A387_3 ((rd_T32 l0 x4_1).f3).length c387_3)) ∧ (Kd.R (Kd.int .i64) 3 w' w.heap.size (fun k_ => some k_ ≠ (s_.2.2.1 : Value).ownBlock) s_.2.1 y392) ∧ (Kd.R (Kd.int .i64) 3 w' w.heap.size (fun k_ => some k_ ≠ (s_.2.1 : Value).ownBlock) s_.2.2.1 y395) ∧ (Kd.R k41 41 w' w.heap.size (fun _ => True) s_.2.2.2 y402) ∧ (Kd.S k32 32 w' w.heap.size (fun k_ => some k_ ≠ (s_.2.1 : Value).ownBlock ∧ some k_ ≠ (s_.2.2.1 : Value).ownBlock ∧ some k_ ≠ (s_.2.2.2 : Value).ownBlock) (.slice Ao8 x3_1.length co8) x3_1) ∧ (Below w.heap.size w w')) ?_ ?_
          rotate_left
          · intro hJ6_12_13_20
            refine join_ (σ := Value × Value × Value) 7 #[true, true, true, true, true, true, true, true, true, true, true, true, true, true, true, true, true, true, true, false, false, true, true, true, true, true, false, false, false, false, false] (fun s_ => [(17, s_.1), (23, s_.2.1), (24, s_.2.2)]) (fun s_ w' => (w'.cell? (ad387.add ((x4_1).toNat * 4)) = some (.int .i64 ((rd_T32 l0 x4_1).f0)) ∧ w'.cell? ⟨(ad387.add ((x4_1).toNat * 4)).block, (ad387.add ((x4_1).toNat * 4)).off + 1, none⟩ = some (.slice A387_1 ((rd_T32 l0 x4_1).f1).length c387_1) ∧ w'.cell? ⟨(ad387.add ((x4_1).toNat * 4)).block, (ad387.add ((x4_1).toNat * 4)).off + 2, none⟩ = some (.slice A387_2 ((rd_T32 l0 x4_1).f2).length c387_2) ∧ w'.cell? ⟨(ad387.add ((x4_1).toNat * 4)).block, (ad387.add ((x4_1).toNat * 4)).off + 3, none⟩ = some (.slice A387_3 ((rd_T32 l0 x4_1).f3).length c387_3)) ∧ (Kd.R (Kd.int .i64) 3 w' w.heap.size (fun k_ => some k_ ≠ (s_.2.2 : Value).ownBlock) s_.2.1 y392) ∧ (Kd.R (Kd.int .i64) 3 w' w.heap.size (fun k_ => some k_ ≠ (s_.2.1 : Value).ownBlock) s_.2.2 y395) ∧ (Kd.S k32 32 w' w.heap.size (fun k_ => some k_ ≠ (s_.2.1 : Value).ownBlock ∧ some k_ ≠ (s_.2.2 : Value).ownBlock) (.slice Ao8 x3_1.length co8) x3_1) ∧ (Below w.heap.size w w')) ?_ ?_
            rotate_left
            · intro hJ6_12_13
              refine join_ (σ := Value × Value × Value) 7 #[true, true, true, true, true, true, true, true, true, true, true, true, true, false, true, true, true, true, true, false, true, true, true, true, true, true, false, false, false, false, false] (fun s_ => [(17, s_.1), (23, s_.2.1), (31, s_.2.2)]) (fun s_ w' => (w'.cell? (ad387.add ((x4_1).toNat * 4)) = some (.int .i64 ((rd_T32 l0 x4_1).f0)) ∧ w'.cell? ⟨(ad387.add ((x4_1).toNat * 4)).block, (ad387.add ((x4_1).toNat * 4)).off + 1, none⟩ = some (.slice A387_1 ((rd_T32 l0 x4_1).f1).length c387_1) ∧ w'.cell? ⟨(ad387.add ((x4_1).toNat * 4)).block, (ad387.add ((x4_1).toNat * 4)).off + 2, none⟩ = some (.slice A387_2 ((rd_T32 l0 x4_1).f2).length c387_2) ∧ w'.cell? ⟨(ad387.add ((x4_1).toNat * 4)).block, (ad387.add ((x4_1).toNat * 4)).off + 3, none⟩ = some (.slice A387_3 ((rd_T32 l0 x4_1).f3).length c387_3)) ∧ (Kd.R (Kd.int .i64) 3 w' w.heap.size (fun _ => True) s_.2.1 y392) ∧ (Kd.R k41 41 w' w.heap.size (fun _ => True) s_.2.2 y402) ∧ (Kd.S k32 32 w' w.heap.size (fun k_ => some k_ ≠ (s_.2.1 : Value).ownBlock ∧ some k_ ≠ (s_.2.2 : Value).ownBlock) (.slice Ao8 x3_1.length co8) x3_1) ∧ (Below w.heap.size w w')) ?_ ?_
              rotate_left
              · intro hJ6_12_20
                refine join_ (σ := Value × Value × Value) 7 #[true, true, true, true, true, true, true, true, true, true, true, true, false, true, true, true, true, true, true, false, true, true, true, true, true, true, false, false, false, false, false] (fun s_ => [(17, s_.1), (24, s_.2.1), (31, s_.2.2)]) (fun s_ w' => (w'.cell? (ad387.add ((x4_1).toNat * 4)) = some (.int .i64 ((rd_T32 l0 x4_1).f0)) ∧ w'.cell? ⟨(ad387.add ((x4_1).toNat * 4)).block, (ad387.add ((x4_1).toNat * 4)).off + 1, none⟩ = some (.slice A387_1 ((rd_T32 l0 x4_1).f1).length c387_1) ∧ w'.cell? ⟨(ad387.add ((x4_1).toNat * 4)).block, (ad387.add ((x4_1).toNat * 4)).off + 2, none⟩ = some (.slice A387_2 ((rd_T32 l0 x4_1).f2).length c387_2) ∧ w'.cell? ⟨(ad387.add ((x4_1).toNat * 4)).block, (ad387.add ((x4_1).toNat * 4)).off + 3, none⟩ = some (.slice A387_3 ((rd_T32 l0 x4_1).f3).length c387_3)) ∧ (Kd.R (Kd.int .i64) 3 w' w.heap.size (fun k_ => some k_ ≠ (s_.2.1 : Value).ownBlock) s_.1 y388) ∧ (Kd.R (Kd.int .i64) 3 w' w.heap.size (fun k_ => some k_ ≠ (s_.1 : Value).ownBlock) s_.2.1 y395) ∧ (Kd.R k41 41 w' w.heap.size (fun _ => True) s_.2.2 y402) ∧ (Kd.S k32 32 w' w.heap.size (fun k_ => some k_ ≠ (s_.1 : Value).ownBlock ∧ some k_ ≠ (s_.2.1 : Value).ownBlock ∧ some k_ ≠ (s_.2.2 : Value).ownBlock) (.slice Ao8 x3_1.length co8) x3_1) ∧ (Below w.heap.size w w')) ?_ ?_
                rotate_left
                · intro hJ6_13_20
                  refine join_ (σ := Value × Value) 8 #[true, true, true, true, true, true, true, true, true, true, true, true, true, false, true, true, true, true, true, false, false, true, true, true, true, true, false, false, false, false, false] (fun s_ => [(17, s_.1), (23, s_.2)]) (fun s_ w' => (w'.cell? (ad387.add ((x4_1).toNat * 4)) = some (.int .i64 ((rd_T32 l0 x4_1).f0)) ∧ w'.cell? ⟨(ad387.add ((x4_1).toNat * 4)).block, (ad387.add ((x4_1).toNat * 4)).off + 1, none⟩ = some (.slice A387_1 ((rd_T32 l0 x4_1).f1).length c387_1) ∧ w'.cell? ⟨(ad387.add ((x4_1).toNat * 4)).block, (ad387.add ((x4_1).toNat * 4)).off + 2, none⟩ = some (.slice A387_2 ((rd_T32 l0 x4_1).f2).length c387_2) ∧ w'.cell? ⟨(ad387.add ((x4_1).toNat * 4)).block, (ad387.add ((x4_1).toNat * 4)).off + 3, none⟩ = some (.slice A387_3 ((rd_T32 l0 x4_1).f3).length c387_3)) ∧ (Kd.R (Kd.int .i64) 3 w' w.heap.size (fun _ => True) s_.2 y392) ∧ (Kd.S k32 32 w' w.heap.size (fun k_ => some k_ ≠ (s_.2 : Value).ownBlock) (.slice Ao8 x3_1.length co8) x3_1) ∧ (Below w.heap.size w w')) ?_ ?_
                  rotate_left
                  · intro hJ6_12
                    refine join_ (σ := Value × Value) 8 #[true, true, true, true, true, true, true, true, true, true, true, true, false, true, true, true, true, true, true, false, false, true, true, true, true, true, false, false, false, false, false] (fun s_ => [(17, s_.1), (24, s_.2)]) (fun s_ w' => (w'.cell? (ad387.add ((x4_1).toNat * 4)) = some (.int .i64 ((rd_T32 l0 x4_1).f0)) ∧ w'.cell? ⟨(ad387.add ((x4_1).toNat * 4)).block, (ad387.add ((x4_1).toNat * 4)).off + 1, none⟩ = some (.slice A387_1 ((rd_T32 l0 x4_1).f1).length c387_1) ∧ w'.cell? ⟨(ad387.add ((x4_1).toNat * 4)).block, (ad387.add ((x4_1).toNat * 4)).off + 2, none⟩ = some (.slice A387_2 ((rd_T32 l0 x4_1).f2).length c387_2) ∧ w'.cell? ⟨(ad387.add ((x4_1).toNat * 4)).block, (ad387.add ((x4_1).toNat * 4)).off + 3, none⟩ = some (.slice A387_3 ((rd_T32 l0 x4_1).f3).length c387_3)) ∧ (Kd.R (Kd.int .i64) 3 w' w.heap.size (fun k_ => some k_ ≠ (s_.2 : Value).ownBlock) s_.1 y388) ∧ (Kd.R (Kd.int .i64) 3 w' w.heap.size (fun k_ => some k_ ≠ (s_.1 : Value).ownBlock) s_.2 y395) ∧ (Kd.S k32 32 w' w.heap.size (fun k_ => some k_ ≠ (s_.1 : Value).ownBlock ∧ some k_ ≠ (s_.2 : Value).ownBlock) (.slice Ao8 x3_1.length co8) x3_1) ∧ (Below w.heap.size w w')) ?_ ?_
                    rotate_left
                    · intro hJ6_13
                      refine join_ (σ := Value × Value) 8 #[true, true, true, true, true, true, true, true, true, true, true, true, false, false, true, true, true, true, true, false, true, true, true, true, true, true, false, false, false, false, false] (fun s_ => [(17, s_.1), (31, s_.2)]) (fun s_ w' => (w'.cell? (ad387.add ((x4_1).toNat * 4)) = some (.int .i64 ((rd_T32 l0 x4_1).f0)) ∧ w'.cell? ⟨(ad387.add ((x4_1).toNat * 4)).block, (ad387.add ((x4_1).toNat * 4)).off + 1, none⟩ = some (.slice A387_1 ((rd_T32 l0 x4_1).f1).length c387_1) ∧ w'.cell? ⟨(ad387.add ((x4_1).toNat * 4)).block, (ad387.add ((x4_1).toNat * 4)).off + 2, none⟩ = some (.slice A387_2 ((rd_T32 l0 x4_1).f2).length c387_2) ∧ w'.cell? ⟨(ad387.add ((x4_1).toNat * 4)).block, (ad387.add ((x4_1).toNat * 4)).off + 3, none⟩ = some (.slice A387_3 ((rd_T32 l0 x4_1).f3).length c387_3)) ∧ (Kd.R (Kd.int .i64) 3 w' w.heap.size (fun _ => True) s_.1 y388) ∧ (Kd.R k41 41 w' w.heap.size (fun _ => True) s_.2 y402) ∧ (Kd.S k32 32 w' w.heap.size (fun k_ => some k_ ≠ (s_.1 : Value).ownBlock ∧ some k_ ≠ (s_.2 : Value).ownBlock) (.slice Ao8 x3_1.length co8) x3_1) ∧ (Below w.heap.size w w')) ?_ ?_
                      rotate_left
                      · intro hJ6_20
                        refine join_ (σ := Value × Value) 8 #[true, true, true, true, true, true, false, true, true, true, true, true, false, true, true, true, true, true, true, false, true, true, true, true, true, true, false, false, false, false, false] (fun s_ => [(24, s_.1), (31, s_.2)]) (fun s_ w' => (w'.cell? (ad387.add ((x4_1).toNat * 4)) = some (.int .i64 ((rd_T32 l0 x4_1).f0)) ∧ w'.cell? ⟨(ad387.add ((x4_1).toNat * 4)).block, (ad387.add ((x4_1).toNat * 4)).off + 1, none⟩ = some (.slice A387_1 ((rd_T32 l0 x4_1).f1).length c387_1) ∧ w'.cell? ⟨(ad387.add ((x4_1).toNat * 4)).block, (ad387.add ((x4_1).toNat * 4)).off + 2, none⟩ = some (.slice A387_2 ((rd_T32 l0 x4_1).f2).length c387_2) ∧ w'.cell? ⟨(ad387.add ((x4_1).toNat * 4)).block, (ad387.add ((x4_1).toNat * 4)).off + 3, none⟩ = some (.slice A387_3 ((rd_T32 l0 x4_1).f3).length c387_3)) ∧ (Kd.R (Kd.int .i64) 3 w' w.heap.size (fun _ => True) s_.1 y395) ∧ (Kd.R k41 41 w' w.heap.size (fun _ => True) s_.2 y402) ∧ (Kd.S k32 32 w' w.heap.size (fun k_ => some k_ ≠ (s_.1 : Value).ownBlock ∧ some k_ ≠ (s_.2 : Value).ownBlock) (.slice Ao8 x3_1.length co8) x3_1) ∧ (Below w.heap.size w w')) ?_ ?_
                        rotate_left
                        · intro hJ13_20
                          refine join_ (σ := Value) 9 #[true, true, true, true, true, true, true, true, true, true, true, true, false, false, true, true, true, true, true, false, false, true, true, true, true, true, false, false, false, false, false] (fun s_ => [(17, s_)]) (fun s_ w' => (w'.cell? (ad387.add ((x4_1).toNat * 4)) = some (.int .i64 ((rd_T32 l0 x4_1).f0)) ∧ w'.cell? ⟨(ad387.add ((x4_1).toNat * 4)).block, (ad387.add ((x4_1).toNat * 4)).off + 1, none⟩ = some (.slice A387_1 ((rd_T32 l0 x4_1).f1).length c387_1) ∧ w'.cell? ⟨(ad387.add ((x4_1).toNat * 4)).block, (ad387.add ((x4_1).toNat * 4)).off + 2, none⟩ = some (.slice A387_2 ((rd_T32 l0 x4_1).f2).length c387_2) ∧ w'.cell? ⟨(ad387.add ((x4_1).toNat * 4)).block, (ad387.add ((x4_1).toNat * 4)).off + 3, none⟩ = some (.slice A387_3 ((rd_T32 l0 x4_1).f3).length c387_3)) ∧ (Kd.R (Kd.int .i64) 3 w' w.heap.size (fun _ => True) s_ y388) ∧ (Kd.S k32 32 w' w.heap.size (fun k_ => some k_ ≠ (s_ : Value).ownBlock) (.slice Ao8 x3_1.length co8) x3_1) ∧ (Below w.heap.size w w')) ?_ ?_
                          rotate_left
                          · intro hJ6
                            refine join_ (σ := Value) 9 #[true, true, true, true, true, true, false, true, true, true, true, true, false, true, true, true, true, true, true, false, false, true, true, true, true, true, false, false, false, false, false] (fun s_ => [(24, s_)]) (fun s_ w' => (w'.cell? (ad387.add ((x4_1).toNat * 4)) = some (.int .i64 ((rd_T32 l0 x4_1).f0)) ∧ w'.cell? ⟨(ad387.add ((x4_1).toNat * 4)).block, (ad387.add ((x4_1).toNat * 4)).off + 1, none⟩ = some (.slice A387_1 ((rd_T32 l0 x4_1).f1).length c387_1) ∧ w'.cell? ⟨(ad387.add ((x4_1).toNat * 4)).block, (ad387.add ((x4_1).toNat * 4)).off + 2, none⟩ = some (.slice A387_2 ((rd_T32 l0 x4_1).f2).length c387_2) ∧ w'.cell? ⟨(ad387.add ((x4_1).toNat * 4)).block, (ad387.add ((x4_1).toNat * 4)).off + 3, none⟩ = some (.slice A387_3 ((rd_T32 l0 x4_1).f3).length c387_3)) ∧ (Kd.R (Kd.int .i64) 3 w' w.heap.size (fun _ => True) s_ y395) ∧ (Kd.S k32 32 w' w.heap.size (fun k_ => some k_ ≠ (s_ : Value).ownBlock) (.slice Ao8 x3_1.length co8) x3_1) ∧ (Below w.heap.size w w')) ?_ ?_
                            rotate_left
                            · intro hJ13
                              refine join_ (σ := Value) 9 #[true, true, true, true, true, true, false, true, true, true, true, true, false, false, true, true, true, true, true, false, true, true, true, true, true, true, false, false, false, false, false] (fun s_ => [(31, s_)]) (fun s_ w' => (w'.cell? (ad387.add ((x4_1).toNat * 4)) = some (.int .i64 ((rd_T32 l0 x4_1).f0)) ∧ w'.cell? ⟨(ad387.add ((x4_1).toNat * 4)).block, (ad387.add ((x4_1).toNat * 4)).off + 1, none⟩ = some (.slice A387_1 ((rd_T32 l0 x4_1).f1).length c387_1) ∧ w'.cell? ⟨(ad387.add ((x4_1).toNat * 4)).block, (ad387.add ((x4_1).toNat * 4)).off + 2, none⟩ = some (.slice A387_2 ((rd_T32 l0 x4_1).f2).length c387_2) ∧ w'.cell? ⟨(ad387.add ((x4_1).toNat * 4)).block, (ad387.add ((x4_1).toNat * 4)).off + 3, none⟩ = some (.slice A387_3 ((rd_T32 l0 x4_1).f3).length c387_3)) ∧ (Kd.R k41 41 w' w.heap.size (fun _ => True) s_ y402) ∧ (Kd.S k32 32 w' w.heap.size (fun k_ => some k_ ≠ (s_ : Value).ownBlock) (.slice Ao8 x3_1.length co8) x3_1) ∧ (Below w.heap.size w w')) ?_ ?_
                              rotate_left
                              · intro hJ20
                                refine three_ (i := 6) (j := 13) (k := 20) (Ni := some 17) (Nj := some 24) (Nk := some 31) #[true, true, true, true, true, true, true, true, true, true, true, true, false, false, true, true, true, true, true, false, false, true, true, true, true, true, false, false, false, false, false] #[true, true, true, true, true, true, false, true, true, true, true, true, false, true, true, true, true, true, true, false, false, true, true, true, true, true, false, false, false, false, false] #[true, true, true, true, true, true, false, true, true, true, true, true, false, false, true, true, true, true, true, false, true, true, true, true, true, true, false, false, false, false, false] rfl rfl rfl rfl rfl rfl (three_of HT_.out J8) J21 J21 J21 (fun K hK => ?_) (fun K hK => ?_) (fun K hK => ?_)
                                · skip
                                  refine Kd.R_lit_step (Kd.int .i64) _ 3 ?hg (N := 17) ?hd (xs := ([] : List Int)) (inner := []) (ok := fun _ => True) (okp := fun _ => True) ?hr ?hp (fun _ hk => hk) trivial (Below.refl _ _) (Nat.le_refl _) J28 ?_; (case hd => rfl); (case hg => rfl); (case hr => first | (go_simp; done) | (go_simp; rfl)); (case hp => exact (Reps.none _ _))
                                  intro v389 w10 ho11 hb hg_ hnew_
                                  clear hg_ hnew_
                                  (first | rw [← Ny388.out] at ho11 | (simp only [Int.reduceToNat] at ho11; rw [← Ny388.out] at ho11))
                                  have n0_ := Aside0.mk (Kd.S_elder' (zs HO_3.out) (Kd.R_base ho11) hb)
                                  have n1_ := Aside0.mk (Kd.R_lower ho11 (below_size J0))
                                  have n2_ := Aside0.mk (below_step J0 hb)
                                  clear HO_3
                                  clear HB
                                  have HO_3 := n0_
                                  have HO390 := n1_
                                  have HB := n2_
                                  clear n0_ n1_ n2_
                                  clear hb ho11
                                  refine hK.out _ _ ⟨((HB.out.cell (World.block_lt_of_cell? w _ hw387_0)).trans hw387_0), ((HB.out.cell (World.block_lt_of_cell? w _ hw387_1)).trans hw387_1), ((HB.out.cell (World.block_lt_of_cell? w _ hw387_2)).trans hw387_2), ((HB.out.cell (World.block_lt_of_cell? w _ hw387_3)).trans hw387_3)⟩ (fun hHeld => ?_)
                                  clear hK K
                                  refine norm_ (a' := ?_) ?_ ?_
                                  rotate_left
                                  · show Act.put _ (some 17) _ = _
                                    simp only [Act.put, List.setIfInBounds_toArray, List.set_cons_zero, List.set_cons_succ, i64_w, i32_w]
                                    rfl
                                  exact norm_ J7 (hJ6 (v389) _ ⟨hHeld, (zr HO390.out), J50, J0⟩)
                                · skip
                                  refine Kd.R_lit_step (Kd.int .i64) _ 3 ?hg (N := 24) ?hd (xs := ([] : List Int)) (inner := []) (ok := fun _ => True) (okp := fun _ => True) ?hr ?hp (fun _ hk => hk) trivial (Below.refl _ _) (Nat.le_refl _) J28 ?_; (case hd => rfl); (case hg => rfl); (case hr => first | (go_simp; done) | (go_simp; rfl)); (case hp => exact (Reps.none _ _))
                                  intro v396 w10 ho11 hb hg_ hnew_
                                  clear hg_ hnew_
                                  (first | rw [← Ny395.out] at ho11 | (simp only [Int.reduceToNat] at ho11; rw [← Ny395.out] at ho11))
                                  have n0_ := Aside0.mk (Kd.S_elder' (zs HO_3.out) (Kd.R_base ho11) hb)
                                  have n1_ := Aside0.mk (Kd.R_lower ho11 (below_size J0))
                                  have n2_ := Aside0.mk (below_step J0 hb)
                                  clear HO_3
                                  clear HB
                                  have HO_3 := n0_
                                  have HO397 := n1_
                                  have HB := n2_
                                  clear n0_ n1_ n2_
                                  clear hb ho11
                                  refine hK.out _ _ ⟨((HB.out.cell (World.block_lt_of_cell? w _ hw387_0)).trans hw387_0), ((HB.out.cell (World.block_lt_of_cell? w _ hw387_1)).trans hw387_1), ((HB.out.cell (World.block_lt_of_cell? w _ hw387_2)).trans hw387_2), ((HB.out.cell (World.block_lt_of_cell? w _ hw387_3)).trans hw387_3)⟩ (fun hHeld => ?_)
                                  clear hK K
                                  refine norm_ (a' := ?_) ?_ ?_
                                  rotate_left
                                  · show Act.put _ (some 24) _ = _
                                    simp only [Act.put, List.setIfInBounds_toArray, List.set_cons_zero, List.set_cons_succ, i64_w, i32_w]
                                    rfl
                                  exact norm_ J7 (hJ13 (v396) _ ⟨hHeld, (zr HO397.out), J50, J0⟩)
                                · skip
                                  refine Kd.R_lit_step k41 _ 41 ?hg (N := 31) ?hd (xs := ([] : List (S41))) (inner := []) (ok := fun _ => True) (okp := fun _ => True) ?hr ?hp (fun _ hk => hk) trivial (Below.refl _ _) (Nat.le_refl _) J28 ?_; (case hd => rfl); (case hg => rfl); (case hr => first | (go_simp; done) | (go_simp; rfl)); (case hp => exact (Reps.none _ _))
                                  intro v403 w10 ho11 hb hg_ hnew_
                                  clear hg_ hnew_
                                  (first | rw [← Ny402.out] at ho11 | (simp only [Int.reduceToNat] at ho11; rw [← Ny402.out] at ho11))
                                  have n0_ := Aside0.mk (Kd.S_elder' (zs HO_3.out) (Kd.R_base ho11) hb)
                                  have n1_ := Aside0.mk (Kd.R_lower ho11 (below_size J0))
                                  have n2_ := Aside0.mk (below_step J0 hb)
                                  clear HO_3
                                  clear HB
                                  have HO_3 := n0_
                                  have HO404 := n1_
                                  have HB := n2_
                                  clear n0_ n1_ n2_
                                  clear hb ho11
                                  refine hK.out _ _ ⟨((HB.out.cell (World.block_lt_of_cell? w _ hw387_0)).trans hw387_0), ((HB.out.cell (World.block_lt_of_cell? w _ hw387_1)).trans hw387_1), ((HB.out.cell (World.block_lt_of_cell? w _ hw387_2)).trans hw387_2), ((HB.out.cell (World.block_lt_of_cell? w _ hw387_3)).trans hw387_3)⟩ (fun hHeld => ?_)
                                  clear hK K
                                  refine norm_ (a' := ?_) ?_ ?_
                                  rotate_left
                                  · show Act.put _ (some 31) _ = _
                                    simp only [Act.put, List.setIfInBounds_toArray, List.set_cons_zero, List.set_cons_succ, i64_w, i32_w]
                                    rfl
                                  exact norm_ J7 (hJ20 (v403) _ ⟨hHeld, (zr HO404.out), J50, J0⟩)
                              · skip
                                rintro v403 w12 ⟨hS_, h0_, h1_, h2_⟩
                                have n0_ : Aside0 (Kd.R k41 41 w12 w.heap.size (fun _ => True) v403 y402) := ⟨h0_⟩
                                have n1_ : Aside0 (Kd.S k32 32 w12 w.heap.size (fun k_ => some k_ ≠ (v403 : Value).ownBlock) (.slice Ao8 x3_1.length co8) x3_1) := ⟨h1_⟩
                                have n2_ : Aside0 (Below w.heap.size w w12) := ⟨h2_⟩
                                clear HO_3
                                clear HB
                                clear h0_ h1_ h2_
                                have HO404 := n0_
                                have HO_3 := n1_
                                have HB := n2_
                                clear n0_ n1_ n2_
                                have hHeld : w12.cell? (ad387.add ((x4_1).toNat * 4)) = some (.int .i64 ((rd_T32 l0 x4_1).f0)) ∧ w12.cell? ⟨(ad387.add ((x4_1).toNat * 4)).block, (ad387.add ((x4_1).toNat * 4)).off + 1, none⟩ = some (.slice A387_1 ((rd_T32 l0 x4_1).f1).length c387_1) ∧ w12.cell? ⟨(ad387.add ((x4_1).toNat * 4)).block, (ad387.add ((x4_1).toNat * 4)).off + 2, none⟩ = some (.slice A387_2 ((rd_T32 l0 x4_1).f2).length c387_2) ∧ w12.cell? ⟨(ad387.add ((x4_1).toNat * 4)).block, (ad387.add ((x4_1).toNat * 4)).off + 3, none⟩ = some (.slice A387_3 ((rd_T32 l0 x4_1).f3).length c387_3) := hS_
                                refine norm_ (a' := ?_) ?_ ?_
                                rotate_left
                                · simp only [putAll, Act.put, List.setIfInBounds_toArray, List.set_cons_zero, List.set_cons_succ]
                                  rfl
                                refine two_ (i := 6) (j := 13) (Ni := some 17) (Nj := some 24) #[true, true, true, true, true, true, true, true, true, true, true, true, false, false, true, true, true, true, true, false, true, true, true, true, true, true, false, false, false, false, false] #[true, true, true, true, true, true, false, true, true, true, true, true, false, true, true, true, true, true, true, false, true, true, true, true, true, true, false, false, false, false, false] rfl rfl rfl rfl (two_of HT_.out J8) J21 J21 (fun K hK => ?_) (fun K hK => ?_)
                                · skip
                                  refine Kd.R_lit_step (Kd.int .i64) _ 3 ?hg (N := 17) ?hd (xs := ([] : List Int)) (inner := []) (ok := fun _ => True) (okp := fun _ => True) ?hr ?hp (fun _ hk => hk) trivial (Below.refl _ _) (Nat.le_refl _) J28 ?_; (case hd => rfl); (case hg => rfl); (case hr => first | (go_simp; done) | (go_simp; rfl)); (case hp => exact (Reps.none _ _))
                                  intro v389 w13 ho14 hb hg_ hnew_
                                  clear hg_ hnew_
                                  (first | rw [← Ny388.out] at ho14 | (simp only [Int.reduceToNat] at ho14; rw [← Ny388.out] at ho14))
                                  have n0_ := Aside0.mk (Kd.S_elder' (zs HO_3.out) (Kd.R_base ho14) hb)
                                  have n1_ := Aside0.mk (Kd.R_below (zr HO404.out) hb)
                                  have n2_ := Aside0.mk (Kd.R_lower ho14 (below_size J0))
                                  have n3_ := Aside0.mk (below_step J0 hb)
                                  clear HO_3
                                  clear HO404
                                  clear HB
                                  have HO_3 := n0_
                                  have HO404 := n1_
                                  have HO390 := n2_
                                  have HB := n3_
                                  clear n0_ n1_ n2_ n3_
                                  clear hb ho14
                                  refine hK.out _ _ ⟨((HB.out.cell (World.block_lt_of_cell? w _ hw387_0)).trans hw387_0), ((HB.out.cell (World.block_lt_of_cell? w _ hw387_1)).trans hw387_1), ((HB.out.cell (World.block_lt_of_cell? w _ hw387_2)).trans hw387_2), ((HB.out.cell (World.block_lt_of_cell? w _ hw387_3)).trans hw387_3)⟩ (fun hHeld => ?_)
                                  clear hK K
                                  refine norm_ (a' := ?_) ?_ ?_
                                  rotate_left
                                  · show Act.put _ (some 17) _ = _
                                    simp only [Act.put, List.setIfInBounds_toArray, List.set_cons_zero, List.set_cons_succ, i64_w, i32_w]
                                    rfl
                                  exact norm_ J7 (hJ6_20 (v389, v403) _ ⟨hHeld, (zr HO390.out), (zr HO404.out), J29, J0⟩)
                                · skip
                                  refine Kd.R_lit_step (Kd.int .i64) _ 3 ?hg (N := 24) ?hd (xs := ([] : List Int)) (inner := []) (ok := fun _ => True) (okp := fun _ => True) ?hr ?hp (fun _ hk => hk) trivial (Below.refl _ _) (Nat.le_refl _) J28 ?_; (case hd => rfl); (case hg => rfl); (case hr => first | (go_simp; done) | (go_simp; rfl)); (case hp => exact (Reps.none _ _))
                                  intro v396 w13 ho14 hb hg_ hnew_
                                  clear hg_ hnew_
                                  (first | rw [← Ny395.out] at ho14 | (simp only [Int.reduceToNat] at ho14; rw [← Ny395.out] at ho14))
                                  have n0_ := Aside0.mk (Kd.S_elder' (zs HO_3.out) (Kd.R_base ho14) hb)
                                  have n1_ := Aside0.mk (Kd.R_below (zr HO404.out) hb)
                                  have n2_ := Aside0.mk (Kd.R_lower ho14 (below_size J0))
                                  have n3_ := Aside0.mk (below_step J0 hb)
                                  clear HO_3
                                  clear HO404
                                  clear HB
                                  have HO_3 := n0_
                                  have HO404 := n1_
                                  have HO397 := n2_
                                  have HB := n3_
                                  clear n0_ n1_ n2_ n3_
                                  clear hb ho14
                                  refine hK.out _ _ ⟨((HB.out.cell (World.block_lt_of_cell? w _ hw387_0)).trans hw387_0), ((HB.out.cell (World.block_lt_of_cell? w _ hw387_1)).trans hw387_1), ((HB.out.cell (World.block_lt_of_cell? w _ hw387_2)).trans hw387_2), ((HB.out.cell (World.block_lt_of_cell? w _ hw387_3)).trans hw387_3)⟩ (fun hHeld => ?_)
                                  clear hK K
                                  refine norm_ (a' := ?_) ?_ ?_
                                  rotate_left
                                  · show Act.put _ (some 24) _ = _
                                    simp only [Act.put, List.setIfInBounds_toArray, List.set_cons_zero, List.set_cons_succ, i64_w, i32_w]
                                    rfl
                                  exact norm_ J7 (hJ13_20 (v396, v403) _ ⟨hHeld, (zr HO397.out), (zr HO404.out), J29, J0⟩)
                            · skip
                              rintro v396 w12 ⟨hS_, h0_, h1_, h2_⟩
                              have n0_ : Aside0 (Kd.R (Kd.int .i64) 3 w12 w.heap.size (fun _ => True) v396 y395) := ⟨h0_⟩
                              have n1_ : Aside0 (Kd.S k32 32 w12 w.heap.size (fun k_ => some k_ ≠ (v396 : Value).ownBlock) (.slice Ao8 x3_1.length co8) x3_1) := ⟨h1_⟩
                              have n2_ : Aside0 (Below w.heap.size w w12) := ⟨h2_⟩
                              clear HO_3
                              clear HB
                              clear h0_ h1_ h2_
                              have HO397 := n0_
                              have HO_3 := n1_
                              have HB := n2_
                              clear n0_ n1_ n2_
                              have hHeld : w12.cell? (ad387.add ((x4_1).toNat * 4)) = some (.int .i64 ((rd_T32 l0 x4_1).f0)) ∧ w12.cell? ⟨(ad387.add ((x4_1).toNat * 4)).block, (ad387.add ((x4_1).toNat * 4)).off + 1, none⟩ = some (.slice A387_1 ((rd_T32 l0 x4_1).f1).length c387_1) ∧ w12.cell? ⟨(ad387.add ((x4_1).toNat * 4)).block, (ad387.add ((x4_1).toNat * 4)).off + 2, none⟩ = some (.slice A387_2 ((rd_T32 l0 x4_1).f2).length c387_2) ∧ w12.cell? ⟨(ad387.add ((x4_1).toNat * 4)).block, (ad387.add ((x4_1).toNat * 4)).off + 3, none⟩ = some (.slice A387_3 ((rd_T32 l0 x4_1).f3).length c387_3) := hS_
                              refine norm_ (a' := ?_) ?_ ?_
                              rotate_left
                              · simp only [putAll, Act.put, List.setIfInBounds_toArray, List.set_cons_zero, List.set_cons_succ]
                                rfl
                              refine two_ (i := 6) (j := 20) (Ni := some 17) (Nj := some 31) #[true, true, true, true, true, true, true, true, true, true, true, true, false, true, true, true, true, true, true, false, false, true, true, true, true, true, false, false, false, false, false] #[true, true, true, true, true, true, false, true, true, true, true, true, false, true, true, true, true, true, true, false, true, true, true, true, true, true, false, false, false, false, false] rfl rfl rfl rfl (two_of HT_.out J8) J21 J21 (fun K hK => ?_) (fun K hK => ?_)
                              · skip
                                refine Kd.R_lit_step (Kd.int .i64) _ 3 ?hg (N := 17) ?hd (xs := ([] : List Int)) (inner := []) (ok := fun _ => True) (okp := fun _ => True) ?hr ?hp (fun _ hk => hk) trivial (Below.refl _ _) (Nat.le_refl _) J28 ?_; (case hd => rfl); (case hg => rfl); (case hr => first | (go_simp; done) | (go_simp; rfl)); (case hp => exact (Reps.none _ _))
                                intro v389 w13 ho14 hb hg_ hnew_
                                clear hg_ hnew_
                                (first | rw [← Ny388.out] at ho14 | (simp only [Int.reduceToNat] at ho14; rw [← Ny388.out] at ho14))
                                have n0_ := Aside0.mk (Kd.S_elder' (zs HO_3.out) (Kd.R_base ho14) hb)
                                have n1_ := Aside0.mk (Kd.R_elder' (zr HO397.out) (Kd.R_base ho14) hb)
                                have n2_ := Aside0.mk (Kd.R_lower (Kd.R_new' ho14 (Kd.R_lt (zr HO397.out))) (below_size J0))
                                have n3_ := Aside0.mk (below_step J0 hb)
                                clear HO_3
                                clear HO397
                                clear HB
                                have HO_3 := n0_
                                have HO397 := n1_
                                have HO390 := n2_
                                have HB := n3_
                                clear n0_ n1_ n2_ n3_
                                clear hb ho14
                                refine hK.out _ _ ⟨((HB.out.cell (World.block_lt_of_cell? w _ hw387_0)).trans hw387_0), ((HB.out.cell (World.block_lt_of_cell? w _ hw387_1)).trans hw387_1), ((HB.out.cell (World.block_lt_of_cell? w _ hw387_2)).trans hw387_2), ((HB.out.cell (World.block_lt_of_cell? w _ hw387_3)).trans hw387_3)⟩ (fun hHeld => ?_)
                                clear hK K
                                refine norm_ (a' := ?_) ?_ ?_
                                rotate_left
                                · show Act.put _ (some 17) _ = _
                                  simp only [Act.put, List.setIfInBounds_toArray, List.set_cons_zero, List.set_cons_succ, i64_w, i32_w]
                                  rfl
                                exact norm_ J7 (hJ6_13 (v389, v396) _ ⟨hHeld, J48, J27, J29, J0⟩)
                              · skip
                                refine Kd.R_lit_step k41 _ 41 ?hg (N := 31) ?hd (xs := ([] : List (S41))) (inner := []) (ok := fun _ => True) (okp := fun _ => True) ?hr ?hp (fun _ hk => hk) trivial (Below.refl _ _) (Nat.le_refl _) J28 ?_; (case hd => rfl); (case hg => rfl); (case hr => first | (go_simp; done) | (go_simp; rfl)); (case hp => exact (Reps.none _ _))
                                intro v403 w13 ho14 hb hg_ hnew_
                                clear hg_ hnew_
                                (first | rw [← Ny402.out] at ho14 | (simp only [Int.reduceToNat] at ho14; rw [← Ny402.out] at ho14))
                                have n0_ := Aside0.mk (Kd.S_elder' (zs HO_3.out) (Kd.R_base ho14) hb)
                                have n1_ := Aside0.mk (Kd.R_below (zr HO397.out) hb)
                                have n2_ := Aside0.mk (Kd.R_lower ho14 (below_size J0))
                                have n3_ := Aside0.mk (below_step J0 hb)
                                clear HO_3
                                clear HO397
                                clear HB
                                have HO_3 := n0_
                                have HO397 := n1_
                                have HO404 := n2_
                                have HB := n3_
                                clear n0_ n1_ n2_ n3_
                                clear hb ho14
                                refine hK.out _ _ ⟨((HB.out.cell (World.block_lt_of_cell? w _ hw387_0)).trans hw387_0), ((HB.out.cell (World.block_lt_of_cell? w _ hw387_1)).trans hw387_1), ((HB.out.cell (World.block_lt_of_cell? w _ hw387_2)).trans hw387_2), ((HB.out.cell (World.block_lt_of_cell? w _ hw387_3)).trans hw387_3)⟩ (fun hHeld => ?_)
                                clear hK K
                                refine norm_ (a' := ?_) ?_ ?_
                                rotate_left
                                · show Act.put _ (some 31) _ = _
                                  simp only [Act.put, List.setIfInBounds_toArray, List.set_cons_zero, List.set_cons_succ, i64_w, i32_w]
                                  rfl
                                exact norm_ J7 (hJ13_20 (v396, v403) _ ⟨hHeld, (zr HO397.out), (zr HO404.out), (zs HO_3.out), J0⟩)
                          · skip
                            rintro v389 w12 ⟨hS_, h0_, h1_, h2_⟩
                            have n0_ : Aside0 (Kd.R (Kd.int .i64) 3 w12 w.heap.size (fun _ => True) v389 y388) := ⟨h0_⟩
                            have n1_ : Aside0 (Kd.S k32 32 w12 w.heap.size (fun k_ => some k_ ≠ (v389 : Value).ownBlock) (.slice Ao8 x3_1.length co8) x3_1) := ⟨h1_⟩
                            have n2_ : Aside0 (Below w.heap.size w w12) := ⟨h2_⟩
                            clear HO_3
                            clear HB
                            clear h0_ h1_ h2_
                            have HO390 := n0_
                            have HO_3 := n1_
                            have HB := n2_
                            clear n0_ n1_ n2_
                            have hHeld : w12.cell? (ad387.add ((x4_1).toNat * 4)) = some (.int .i64 ((rd_T32 l0 x4_1).f0)) ∧ w12.cell? ⟨(ad387.add ((x4_1).toNat * 4)).block, (ad387.add ((x4_1).toNat * 4)).off + 1, none⟩ = some (.slice A387_1 ((rd_T32 l0 x4_1).f1).length c387_1) ∧ w12.cell? ⟨(ad387.add ((x4_1).toNat * 4)).block, (ad387.add ((x4_1).toNat * 4)).off + 2, none⟩ = some (.slice A387_2 ((rd_T32 l0 x4_1).f2).length c387_2) ∧ w12.cell? ⟨(ad387.add ((x4_1).toNat * 4)).block, (ad387.add ((x4_1).toNat * 4)).off + 3, none⟩ = some (.slice A387_3 ((rd_T32 l0 x4_1).f3).length c387_3) := hS_
                            refine norm_ (a' := ?_) ?_ ?_
                            rotate_left
                            · simp only [putAll, Act.put, List.setIfInBounds_toArray, List.set_cons_zero, List.set_cons_succ]
                              rfl
                            refine three_ (i := 12) (j := 13) (k := 20) (Ni := some 23) (Nj := some 24) (Nk := some 31) #[true, true, true, true, true, true, true, true, true, true, true, true, true, false, true, true, true, true, true, false, false, true, true, true, true, true, false, false, false, false, false] #[true, true, true, true, true, true, true, true, true, true, true, true, false, true, true, true, true, true, true, false, false, true, true, true, true, true, false, false, false, false, false] #[true, true, true, true, true, true, true, true, true, true, true, true, false, false, true, true, true, true, true, false, true, true, true, true, true, true, false, false, false, false, false] rfl rfl rfl rfl rfl rfl (three_of HT_.out J8) J21 J21 J21 (fun K hK => ?_) (fun K hK => ?_) (fun K hK => ?_)
                            · skip
                              refine Kd.R_append_rows_step (Kd.int .i64) (w0 := w) w.heap.size J47 (.tmp 17) (.tmp 22) 29 3 (.int .i64 0) 8 rfl Try.underlying29 info3 rfl J21 J31 v389 y388 ((rd_T32 l0 x4_1).f1) _ _ _ (fun _ => True) (fun _ => False) rfl rfl ?aO ?aR (fun _ _ h => h) (fun _ h => h.elim) ?aF ?aB ?aS ?aL ?_
                              (case aR => repeat (first | exact (Kd.C_below HR391_1.out HB.out) | (with_reducible refine Kd.C_alloc ?_ _) | (with_reducible refine Kd.C_drewN ?_ _) | (with_reducible refine Kd.C_drew ?_)))
                              (case aB => exact J0)
                              (case aF => exact (fun _ _ => trivial))
                              (case aO => exact (zr HO390.out))
                              (case aS => exact (below_size J0))
                              (case aL => have := LMc4.out; omega)
                              intro v393 w13 ho hb hg hat
                              rw [← Ny392.out] at ho
                              have n0_ := Aside0.mk (Kd.S_after (ok := (fun _ => True)) (by (with_reducible repeat (first | apply Kd.S_alloc | apply Kd.S_drewN | apply Kd.S_drew)); exact Kd.S_mono HO_3.out (fun _ hk => ⟨trivial, hk⟩)) hg hat)
                              have n1_ := Aside0.mk (hb)
                              have n2_ := Aside0.mk (ho)
                              clear HO_3
                              clear HB
                              clear HO390
                              have HO_3 := n0_
                              have HB := n1_
                              have HO394 := n2_
                              clear n0_ n1_ n2_
                              clear ho hb hg hat
                              refine hK.out _ _ ⟨((HB.out.cell (World.block_lt_of_cell? w _ hw387_0)).trans hw387_0), ((HB.out.cell (World.block_lt_of_cell? w _ hw387_1)).trans hw387_1), ((HB.out.cell (World.block_lt_of_cell? w _ hw387_2)).trans hw387_2), ((HB.out.cell (World.block_lt_of_cell? w _ hw387_3)).trans hw387_3)⟩ (fun hHeld => ?_)
                              clear hK K
                              refine norm_ (a' := ?_) ?_ ?_
                              rotate_left
                              · show Act.put _ (some 23) _ = _
                                simp only [Act.put, List.setIfInBounds_toArray, List.set_cons_zero, List.set_cons_succ, i64_w, i32_w]
                                rfl
                              exact norm_ J7 (hJ6_12 (v389, v393) _ ⟨hHeld, (zr HO394.out), J50, J0⟩)
                            · skip
                              refine Kd.R_lit_step (Kd.int .i64) _ 3 ?hg (N := 24) ?hd (xs := ([] : List Int)) (inner := []) (ok := fun _ => True) (okp := fun _ => True) ?hr ?hp (fun _ hk => hk) trivial (Below.refl _ _) (Nat.le_refl _) J28 ?_; (case hd => rfl); (case hg => rfl); (case hr => first | (go_simp; done) | (go_simp; rfl)); (case hp => exact (Reps.none _ _))
                              intro v396 w13 ho14 hb hg_ hnew_
                              clear hg_ hnew_
                              (first | rw [← Ny395.out] at ho14 | (simp only [Int.reduceToNat] at ho14; rw [← Ny395.out] at ho14))
                              have n0_ := Aside0.mk (Kd.S_elder' (zs HO_3.out) (Kd.R_base ho14) hb)
                              have n1_ := Aside0.mk (Kd.R_elder' (zr HO390.out) (Kd.R_base ho14) hb)
                              have n2_ := Aside0.mk (Kd.R_lower (Kd.R_new' ho14 (Kd.R_lt (zr HO390.out))) (below_size J0))
                              have n3_ := Aside0.mk (below_step J0 hb)
                              clear HO_3
                              clear HO390
                              clear HB
                              have HO_3 := n0_
                              have HO390 := n1_
                              have HO397 := n2_
                              have HB := n3_
                              clear n0_ n1_ n2_ n3_
                              clear hb ho14
                              refine hK.out _ _ ⟨((HB.out.cell (World.block_lt_of_cell? w _ hw387_0)).trans hw387_0), ((HB.out.cell (World.block_lt_of_cell? w _ hw387_1)).trans hw387_1), ((HB.out.cell (World.block_lt_of_cell? w _ hw387_2)).trans hw387_2), ((HB.out.cell (World.block_lt_of_cell? w _ hw387_3)).trans hw387_3)⟩ (fun hHeld => ?_)
                              clear hK K
                              refine norm_ (a' := ?_) ?_ ?_
                              rotate_left
                              · show Act.put _ (some 24) _ = _
                                simp only [Act.put, List.setIfInBounds_toArray, List.set_cons_zero, List.set_cons_succ, i64_w, i32_w]
                                rfl
                              exact norm_ J7 (hJ6_13 (v389, v396) _ ⟨hHeld, J48, J27, (zs HO_3.out), J0⟩)
                            · skip
                              refine Kd.R_lit_step k41 _ 41 ?hg (N := 31) ?hd (xs := ([] : List (S41))) (inner := []) (ok := fun _ => True) (okp := fun _ => True) ?hr ?hp (fun _ hk => hk) trivial (Below.refl _ _) (Nat.le_refl _) J28 ?_; (case hd => rfl); (case hg => rfl); (case hr => first | (go_simp; done) | (go_simp; rfl)); (case hp => exact (Reps.none _ _))
                              intro v403 w13 ho14 hb hg_ hnew_
                              clear hg_ hnew_
                              (first | rw [← Ny402.out] at ho14 | (simp only [Int.reduceToNat] at ho14; rw [← Ny402.out] at ho14))
                              have n0_ := Aside0.mk (Kd.S_elder' (zs HO_3.out) (Kd.R_base ho14) hb)
                              have n1_ := Aside0.mk (Kd.R_below (zr HO390.out) hb)
                              have n2_ := Aside0.mk (Kd.R_lower ho14 (below_size J0))
                              have n3_ := Aside0.mk (below_step J0 hb)
                              clear HO_3
                              clear HO390
                              clear HB
                              have HO_3 := n0_
                              have HO390 := n1_
                              have HO404 := n2_
                              have HB := n3_
                              clear n0_ n1_ n2_ n3_
                              clear hb ho14
                              refine hK.out _ _ ⟨((HB.out.cell (World.block_lt_of_cell? w _ hw387_0)).trans hw387_0), ((HB.out.cell (World.block_lt_of_cell? w _ hw387_1)).trans hw387_1), ((HB.out.cell (World.block_lt_of_cell? w _ hw387_2)).trans hw387_2), ((HB.out.cell (World.block_lt_of_cell? w _ hw387_3)).trans hw387_3)⟩ (fun hHeld => ?_)
                              clear hK K
                              refine norm_ (a' := ?_) ?_ ?_
                              rotate_left
                              · show Act.put _ (some 31) _ = _
                                simp only [Act.put, List.setIfInBounds_toArray, List.set_cons_zero, List.set_cons_succ, i64_w, i32_w]
                                rfl
                              exact norm_ J7 (hJ6_20 (v389, v403) _ ⟨hHeld, (zr HO390.out), (zr HO404.out), (zs HO_3.out), J0⟩)
                        · skip
                          rintro ⟨v396, v403⟩ w14 ⟨hS_, h0_, h1_, h2_, h3_⟩
                          have n0_ : Aside0 (Kd.R (Kd.int .i64) 3 w14 w.heap.size (fun _ => True) v396 y395) := ⟨h0_⟩
                          have n1_ : Aside0 (Kd.R k41 41 w14 w.heap.size (fun _ => True) v403 y402) := ⟨h1_⟩
                          have n2_ : Aside0 (Kd.S k32 32 w14 w.heap.size (fun k_ => some k_ ≠ (v396 : Value).ownBlock ∧ some k_ ≠ (v403 : Value).ownBlock) (.slice Ao8 x3_1.length co8) x3_1) := ⟨h2_⟩
                          have n3_ : Aside0 (Below w.heap.size w w14) := ⟨h3_⟩
                          clear HO_3
                          clear HB
                          clear h0_ h1_ h2_ h3_
                          have HO397 := n0_
                          have HO404 := n1_
                          have HO_3 := n2_
                          have HB := n3_
                          clear n0_ n1_ n2_ n3_
                          have hHeld : w14.cell? (ad387.add ((x4_1).toNat * 4)) = some (.int .i64 ((rd_T32 l0 x4_1).f0)) ∧ w14.cell? ⟨(ad387.add ((x4_1).toNat * 4)).block, (ad387.add ((x4_1).toNat * 4)).off + 1, none⟩ = some (.slice A387_1 ((rd_T32 l0 x4_1).f1).length c387_1) ∧ w14.cell? ⟨(ad387.add ((x4_1).toNat * 4)).block, (ad387.add ((x4_1).toNat * 4)).off + 2, none⟩ = some (.slice A387_2 ((rd_T32 l0 x4_1).f2).length c387_2) ∧ w14.cell? ⟨(ad387.add ((x4_1).toNat * 4)).block, (ad387.add ((x4_1).toNat * 4)).off + 3, none⟩ = some (.slice A387_3 ((rd_T32 l0 x4_1).f3).length c387_3) := hS_
                          refine norm_ (a' := ?_) ?_ ?_
                          rotate_left
                          · simp only [putAll, Act.put, List.setIfInBounds_toArray, List.set_cons_zero, List.set_cons_succ]
                            rfl
                          refine one_ (i := 6) (N := some 17) #[true, true, true, true, true, true, true, true, true, true, true, true, false, true, true, true, true, true, true, false, true, true, true, true, true, true, false, false, false, false, false] rfl rfl (one_of HT_.out J8) J21 (fun K hK => ?_)
                          refine Kd.R_lit_step (Kd.int .i64) _ 3 ?hg (N := 17) ?hd (xs := ([] : List Int)) (inner := []) (ok := fun _ => True) (okp := fun _ => True) ?hr ?hp (fun _ hk => hk) trivial (Below.refl _ _) (Nat.le_refl _) J28 ?_; (case hd => rfl); (case hg => rfl); (case hr => first | (go_simp; done) | (go_simp; rfl)); (case hp => exact (Reps.none _ _))
                          intro v389 w15 ho16 hb hg_ hnew_
                          clear hg_ hnew_
                          (first | rw [← Ny388.out] at ho16 | (simp only [Int.reduceToNat] at ho16; rw [← Ny388.out] at ho16))
                          have n0_ := Aside0.mk (Kd.S_elder' (zs HO_3.out) (Kd.R_base ho16) hb)
                          have n1_ := Aside0.mk (Kd.R_elder' (zr HO397.out) (Kd.R_base ho16) hb)
                          have n2_ := Aside0.mk (Kd.R_below (zr HO404.out) hb)
                          have n3_ := Aside0.mk (Kd.R_lower (Kd.R_new' ho16 (Kd.R_lt (zr HO397.out))) (below_size J0))
                          have n4_ := Aside0.mk (below_step J0 hb)
                          clear HO_3
                          clear HO397
                          clear HO404
                          clear HB
                          have HO_3 := n0_
                          have HO397 := n1_
                          have HO404 := n2_
                          have HO390 := n3_
                          have HB := n4_
                          clear n0_ n1_ n2_ n3_ n4_
                          clear hb ho16
                          refine hK.out _ _ ⟨((HB.out.cell (World.block_lt_of_cell? w _ hw387_0)).trans hw387_0), ((HB.out.cell (World.block_lt_of_cell? w _ hw387_1)).trans hw387_1), ((HB.out.cell (World.block_lt_of_cell? w _ hw387_2)).trans hw387_2), ((HB.out.cell (World.block_lt_of_cell? w _ hw387_3)).trans hw387_3)⟩ (fun hHeld => ?_)
                          clear hK K
                          refine norm_ (a' := ?_) ?_ ?_
                          rotate_left
                          · show Act.put _ (some 17) _ = _
                            simp only [Act.put, List.setIfInBounds_toArray, List.set_cons_zero, List.set_cons_succ, i64_w, i32_w]
                            rfl
                          exact norm_ J7 (hJ6_13_20 (v389, v396, v403) _ ⟨hHeld, J48, J27, (zr HO404.out), J70, J0⟩)
                      · skip
                        rintro ⟨v389, v403⟩ w14 ⟨hS_, h0_, h1_, h2_, h3_⟩
                        have n0_ : Aside0 (Kd.R (Kd.int .i64) 3 w14 w.heap.size (fun _ => True) v389 y388) := ⟨h0_⟩
                        have n1_ : Aside0 (Kd.R k41 41 w14 w.heap.size (fun _ => True) v403 y402) := ⟨h1_⟩
                        have n2_ : Aside0 (Kd.S k32 32 w14 w.heap.size (fun k_ => some k_ ≠ (v389 : Value).ownBlock ∧ some k_ ≠ (v403 : Value).ownBlock) (.slice Ao8 x3_1.length co8) x3_1) := ⟨h2_⟩
                        have n3_ : Aside0 (Below w.heap.size w w14) := ⟨h3_⟩
                        clear HO_3
                        clear HB
                        clear h0_ h1_ h2_ h3_
                        have HO390 := n0_
                        have HO404 := n1_
                        have HO_3 := n2_
                        have HB := n3_
                        clear n0_ n1_ n2_ n3_
                        have hHeld : w14.cell? (ad387.add ((x4_1).toNat * 4)) = some (.int .i64 ((rd_T32 l0 x4_1).f0)) ∧ w14.cell? ⟨(ad387.add ((x4_1).toNat * 4)).block, (ad387.add ((x4_1).toNat * 4)).off + 1, none⟩ = some (.slice A387_1 ((rd_T32 l0 x4_1).f1).length c387_1) ∧ w14.cell? ⟨(ad387.add ((x4_1).toNat * 4)).block, (ad387.add ((x4_1).toNat * 4)).off + 2, none⟩ = some (.slice A387_2 ((rd_T32 l0 x4_1).f2).length c387_2) ∧ w14.cell? ⟨(ad387.add ((x4_1).toNat * 4)).block, (ad387.add ((x4_1).toNat * 4)).off + 3, none⟩ = some (.slice A387_3 ((rd_T32 l0 x4_1).f3).length c387_3) := hS_
                        refine norm_ (a' := ?_) ?_ ?_
                        rotate_left
                        · simp only [putAll, Act.put, List.setIfInBounds_toArray, List.set_cons_zero, List.set_cons_succ]
                          rfl
                        refine two_ (i := 12) (j := 13) (Ni := some 23) (Nj := some 24) #[true, true, true, true, true, true, true, true, true, true, true, true, true, false, true, true, true, true, true, false, true, true, true, true, true, true, false, false, false, false, false] #[true, true, true, true, true, true, true, true, true, true, true, true, false, true, true, true, true, true, true, false, true, true, true, true, true, true, false, false, false, false, false] rfl rfl rfl rfl (two_of HT_.out J8) J21 J21 (fun K hK => ?_) (fun K hK => ?_)
                        · skip
                          refine Kd.R_append_rows_step (Kd.int .i64) (w0 := w) w.heap.size J47 (.tmp 17) (.tmp 22) 29 3 (.int .i64 0) 8 rfl Try.underlying29 info3 rfl J21 J31 v389 y388 ((rd_T32 l0 x4_1).f1) _ _ _ (fun _ => True) (fun _ => False) rfl rfl ?aO ?aR (fun _ _ h => h) (fun _ h => h.elim) ?aF ?aB ?aS ?aL ?_
                          (case aR => repeat (first | exact (Kd.C_below HR391_1.out HB.out) | (with_reducible refine Kd.C_alloc ?_ _) | (with_reducible refine Kd.C_drewN ?_ _) | (with_reducible refine Kd.C_drew ?_)))
                          (case aB => exact J0)
                          (case aF => exact (fun _ _ => trivial))
                          (case aO => exact (zr HO390.out))
                          (case aS => exact (below_size J0))
                          (case aL => have := LMc4.out; omega)
                          intro v393 w15 ho hb hg hat
                          rw [← Ny392.out] at ho
                          have n0_ := Aside0.mk (Kd.S_after (ok := (fun k_ => some k_ ≠ (v403 : Value).ownBlock)) J29 hg hat)
                          have n1_ := Aside0.mk (Kd.R_over' (zr HO404.out) (Kd.R_typed (zr HO390.out)) J21 hg)
                          have n2_ := Aside0.mk (hb)
                          have n3_ := Aside0.mk (ho)
                          clear HO_3
                          clear HO404
                          clear HB
                          clear HO390
                          have HO_3 := n0_
                          have HO404 := n1_
                          have HB := n2_
                          have HO394 := n3_
                          clear n0_ n1_ n2_ n3_
                          clear ho hb hg hat
                          refine hK.out _ _ ⟨((HB.out.cell (World.block_lt_of_cell? w _ hw387_0)).trans hw387_0), ((HB.out.cell (World.block_lt_of_cell? w _ hw387_1)).trans hw387_1), ((HB.out.cell (World.block_lt_of_cell? w _ hw387_2)).trans hw387_2), ((HB.out.cell (World.block_lt_of_cell? w _ hw387_3)).trans hw387_3)⟩ (fun hHeld => ?_)
                          clear hK K
                          refine norm_ (a' := ?_) ?_ ?_
                          rotate_left
                          · show Act.put _ (some 23) _ = _
                            simp only [Act.put, List.setIfInBounds_toArray, List.set_cons_zero, List.set_cons_succ, i64_w, i32_w]
                            rfl
                          exact norm_ J7 (hJ6_12_20 (v389, v393, v403) _ ⟨hHeld, (zr HO394.out), (zr HO404.out), J29, J0⟩)
                        · skip
                          refine Kd.R_lit_step (Kd.int .i64) _ 3 ?hg (N := 24) ?hd (xs := ([] : List Int)) (inner := []) (ok := fun _ => True) (okp := fun _ => True) ?hr ?hp (fun _ hk => hk) trivial (Below.refl _ _) (Nat.le_refl _) J28 ?_; (case hd => rfl); (case hg => rfl); (case hr => first | (go_simp; done) | (go_simp; rfl)); (case hp => exact (Reps.none _ _))
                          intro v396 w15 ho16 hb hg_ hnew_
                          clear hg_ hnew_
                          (first | rw [← Ny395.out] at ho16 | (simp only [Int.reduceToNat] at ho16; rw [← Ny395.out] at ho16))
                          have n0_ := Aside0.mk (Kd.S_elder' (zs HO_3.out) (Kd.R_base ho16) hb)
                          have n1_ := Aside0.mk (Kd.R_elder' (zr HO390.out) (Kd.R_base ho16) hb)
                          have n2_ := Aside0.mk (Kd.R_below (zr HO404.out) hb)
                          have n3_ := Aside0.mk (Kd.R_lower (Kd.R_new' ho16 (Kd.R_lt (zr HO390.out))) (below_size J0))
                          have n4_ := Aside0.mk (below_step J0 hb)
                          clear HO_3
                          clear HO390
                          clear HO404
                          clear HB
                          have HO_3 := n0_
                          have HO390 := n1_
                          have HO404 := n2_
                          have HO397 := n3_
                          have HB := n4_
                          clear n0_ n1_ n2_ n3_ n4_
                          clear hb ho16
                          refine hK.out _ _ ⟨((HB.out.cell (World.block_lt_of_cell? w _ hw387_0)).trans hw387_0), ((HB.out.cell (World.block_lt_of_cell? w _ hw387_1)).trans hw387_1), ((HB.out.cell (World.block_lt_of_cell? w _ hw387_2)).trans hw387_2), ((HB.out.cell (World.block_lt_of_cell? w _ hw387_3)).trans hw387_3)⟩ (fun hHeld => ?_)
                          clear hK K
                          refine norm_ (a' := ?_) ?_ ?_
                          rotate_left
                          · show Act.put _ (some 24) _ = _
                            simp only [Act.put, List.setIfInBounds_toArray, List.set_cons_zero, List.set_cons_succ, i64_w, i32_w]
                            rfl
                          exact norm_ J7 (hJ6_13_20 (v389, v396, v403) _ ⟨hHeld, J48, J27, (zr HO404.out), J53, J0⟩)
                    · skip
                      rintro ⟨v389, v396⟩ w14 ⟨hS_, h0_, h1_, h2_, h3_⟩
                      have n0_ : Aside0 (Kd.R (Kd.int .i64) 3 w14 w.heap.size (fun k_ => some k_ ≠ (v396 : Value).ownBlock) v389 y388) := ⟨h0_⟩
                      have n1_ : Aside0 (Kd.R (Kd.int .i64) 3 w14 w.heap.size (fun k_ => some k_ ≠ (v389 : Value).ownBlock) v396 y395) := ⟨h1_⟩
                      have n2_ : Aside0 (Kd.S k32 32 w14 w.heap.size (fun k_ => some k_ ≠ (v389 : Value).ownBlock ∧ some k_ ≠ (v396 : Value).ownBlock) (.slice Ao8 x3_1.length co8) x3_1) := ⟨h2_⟩
                      have n3_ : Aside0 (Below w.heap.size w w14) := ⟨h3_⟩
                      clear HO_3
                      clear HB
                      clear h0_ h1_ h2_ h3_
                      have HO390 := n0_
                      have HO397 := n1_
                      have HO_3 := n2_
                      have HB := n3_
                      clear n0_ n1_ n2_ n3_
                      have hHeld : w14.cell? (ad387.add ((x4_1).toNat * 4)) = some (.int .i64 ((rd_T32 l0 x4_1).f0)) ∧ w14.cell? ⟨(ad387.add ((x4_1).toNat * 4)).block, (ad387.add ((x4_1).toNat * 4)).off + 1, none⟩ = some (.slice A387_1 ((rd_T32 l0 x4_1).f1).length c387_1) ∧ w14.cell? ⟨(ad387.add ((x4_1).toNat * 4)).block, (ad387.add ((x4_1).toNat * 4)).off + 2, none⟩ = some (.slice A387_2 ((rd_T32 l0 x4_1).f2).length c387_2) ∧ w14.cell? ⟨(ad387.add ((x4_1).toNat * 4)).block, (ad387.add ((x4_1).toNat * 4)).off + 3, none⟩ = some (.slice A387_3 ((rd_T32 l0 x4_1).f3).length c387_3) := hS_
                      refine norm_ (a' := ?_) ?_ ?_
                      rotate_left
                      · simp only [putAll, Act.put, List.setIfInBounds_toArray, List.set_cons_zero, List.set_cons_succ]
                        rfl
                      refine two_ (i := 12) (j := 20) (Ni := some 23) (Nj := some 31) #[true, true, true, true, true, true, true, true, true, true, true, true, true, true, true, true, true, true, true, false, false, true, true, true, true, true, false, false, false, false, false] #[true, true, true, true, true, true, true, true, true, true, true, true, false, true, true, true, true, true, true, false, true, true, true, true, true, true, false, false, false, false, false] rfl rfl rfl rfl (two_of HT_.out J8) J21 J21 (fun K hK => ?_) (fun K hK => ?_)
                      · skip
                        refine Kd.R_append_rows_step (Kd.int .i64) (w0 := w) w.heap.size J47 (.tmp 17) (.tmp 22) 29 3 (.int .i64 0) 8 rfl Try.underlying29 info3 rfl J21 J31 v389 y388 ((rd_T32 l0 x4_1).f1) _ _ _ (fun k_ => some k_ ≠ (v396 : Value).ownBlock) (fun _ => False) rfl rfl ?aO ?aR (fun _ _ h => h) (fun _ h => h.elim) ?aF ?aB ?aS ?aL ?_
                        (case aR => repeat (first | exact (Kd.C_below HR391_1.out HB.out) | (with_reducible refine Kd.C_alloc ?_ _) | (with_reducible refine Kd.C_drewN ?_ _) | (with_reducible refine Kd.C_drew ?_)))
                        (case aB => exact J0)
                        (case aF => exact (fun k_ hk => Kd.fresh' (Kd.R_lt (zr HO397.out)) k_ hk))
                        (case aO => exact (zr HO390.out))
                        (case aS => exact (below_size J0))
                        (case aL => have := LMc4.out; omega)
                        intro v393 w15 ho hb hg hat
                        rw [← Ny392.out] at ho
                        have n0_ := Aside0.mk (Kd.S_after (ok := (fun k_ => some k_ ≠ (v396 : Value).ownBlock)) J29 hg hat)
                        have n1_ := Aside0.mk (Kd.R_after (ok := (fun _ => True)) J73 hg hat)
                        have n2_ := Aside0.mk (hb)
                        have n3_ := Aside0.mk (ho)
                        clear HO_3
                        clear HO397
                        clear HB
                        clear HO390
                        have HO_3 := n0_
                        have HO397 := n1_
                        have HB := n2_
                        have HO394 := n3_
                        clear n0_ n1_ n2_ n3_
                        clear ho hb hg hat
                        refine hK.out _ _ ⟨((HB.out.cell (World.block_lt_of_cell? w _ hw387_0)).trans hw387_0), ((HB.out.cell (World.block_lt_of_cell? w _ hw387_1)).trans hw387_1), ((HB.out.cell (World.block_lt_of_cell? w _ hw387_2)).trans hw387_2), ((HB.out.cell (World.block_lt_of_cell? w _ hw387_3)).trans hw387_3)⟩ (fun hHeld => ?_)
                        clear hK K
                        refine norm_ (a' := ?_) ?_ ?_
                        rotate_left
                        · show Act.put _ (some 23) _ = _
                          simp only [Act.put, List.setIfInBounds_toArray, List.set_cons_zero, List.set_cons_succ, i64_w, i32_w]
                          rfl
                        exact norm_ J7 (hJ6_12_13 (v389, v393, v396) _ ⟨hHeld, (zr HO394.out), J27, J29, J0⟩)
                      · skip
                        refine Kd.R_lit_step k41 _ 41 ?hg (N := 31) ?hd (xs := ([] : List (S41))) (inner := []) (ok := fun _ => True) (okp := fun _ => True) ?hr ?hp (fun _ hk => hk) trivial (Below.refl _ _) (Nat.le_refl _) J28 ?_; (case hd => rfl); (case hg => rfl); (case hr => first | (go_simp; done) | (go_simp; rfl)); (case hp => exact (Reps.none _ _))
                        intro v403 w15 ho16 hb hg_ hnew_
                        clear hg_ hnew_
                        (first | rw [← Ny402.out] at ho16 | (simp only [Int.reduceToNat] at ho16; rw [← Ny402.out] at ho16))
                        have n0_ := Aside0.mk (Kd.S_elder' (zs HO_3.out) (Kd.R_base ho16) hb)
                        have n1_ := Aside0.mk (Kd.R_below (zr HO390.out) hb)
                        have n2_ := Aside0.mk (Kd.R_below (zr HO397.out) hb)
                        have n3_ := Aside0.mk (Kd.R_lower ho16 (below_size J0))
                        have n4_ := Aside0.mk (below_step J0 hb)
                        clear HO_3
                        clear HO390
                        clear HO397
                        clear HB
                        have HO_3 := n0_
                        have HO390 := n1_
                        have HO397 := n2_
                        have HO404 := n3_
                        have HB := n4_
                        clear n0_ n1_ n2_ n3_ n4_
                        clear hb ho16
                        refine hK.out _ _ ⟨((HB.out.cell (World.block_lt_of_cell? w _ hw387_0)).trans hw387_0), ((HB.out.cell (World.block_lt_of_cell? w _ hw387_1)).trans hw387_1), ((HB.out.cell (World.block_lt_of_cell? w _ hw387_2)).trans hw387_2), ((HB.out.cell (World.block_lt_of_cell? w _ hw387_3)).trans hw387_3)⟩ (fun hHeld => ?_)
                        clear hK K
                        refine norm_ (a' := ?_) ?_ ?_
                        rotate_left
                        · show Act.put _ (some 31) _ = _
                          simp only [Act.put, List.setIfInBounds_toArray, List.set_cons_zero, List.set_cons_succ, i64_w, i32_w]
                          rfl
                        exact norm_ J7 (hJ6_13_20 (v389, v396, v403) _ ⟨hHeld, (zr HO390.out), (zr HO397.out), (zr HO404.out), J54, J0⟩)
                  · skip
                    rintro ⟨v389, v393⟩ w13 ⟨hS_, h0_, h1_, h2_⟩
                    have n0_ : Aside0 (Kd.R (Kd.int .i64) 3 w13 w.heap.size (fun _ => True) v393 y392) := ⟨h0_⟩
                    have n1_ : Aside0 (Kd.S k32 32 w13 w.heap.size (fun k_ => some k_ ≠ (v393 : Value).ownBlock) (.slice Ao8 x3_1.length co8) x3_1) := ⟨h1_⟩
                    have n2_ : Aside0 (Below w.heap.size w w13) := ⟨h2_⟩
                    clear HO_3
                    clear HB
                    clear h0_ h1_ h2_
                    have HO394 := n0_
                    have HO_3 := n1_
                    have HB := n2_
                    clear n0_ n1_ n2_
                    have hHeld : w13.cell? (ad387.add ((x4_1).toNat * 4)) = some (.int .i64 ((rd_T32 l0 x4_1).f0)) ∧ w13.cell? ⟨(ad387.add ((x4_1).toNat * 4)).block, (ad387.add ((x4_1).toNat * 4)).off + 1, none⟩ = some (.slice A387_1 ((rd_T32 l0 x4_1).f1).length c387_1) ∧ w13.cell? ⟨(ad387.add ((x4_1).toNat * 4)).block, (ad387.add ((x4_1).toNat * 4)).off + 2, none⟩ = some (.slice A387_2 ((rd_T32 l0 x4_1).f2).length c387_2) ∧ w13.cell? ⟨(ad387.add ((x4_1).toNat * 4)).block, (ad387.add ((x4_1).toNat * 4)).off + 3, none⟩ = some (.slice A387_3 ((rd_T32 l0 x4_1).f3).length c387_3) := hS_
                    refine norm_ (a' := ?_) ?_ ?_
                    rotate_left
                    · simp only [putAll, Act.put, List.setIfInBounds_toArray, List.set_cons_zero, List.set_cons_succ]
                      rfl
                    refine two_ (i := 13) (j := 20) (Ni := some 24) (Nj := some 31) #[true, true, true, true, true, true, true, true, true, true, true, true, true, true, true, true, true, true, true, false, false, true, true, true, true, true, false, false, false, false, false] #[true, true, true, true, true, true, true, true, true, true, true, true, true, false, true, true, true, true, true, false, true, true, true, true, true, true, false, false, false, false, false] rfl rfl rfl rfl (two_of HT_.out J8) J21 J21 (fun K hK => ?_) (fun K hK => ?_)
                    · skip
                      refine Kd.R_lit_step (Kd.int .i64) _ 3 ?hg (N := 24) ?hd (xs := ([] : List Int)) (inner := []) (ok := fun _ => True) (okp := fun _ => True) ?hr ?hp (fun _ hk => hk) trivial (Below.refl _ _) (Nat.le_refl _) J28 ?_; (case hd => rfl); (case hg => rfl); (case hr => first | (go_simp; done) | (go_simp; rfl)); (case hp => exact (Reps.none _ _))
                      intro v396 w14 ho15 hb hg_ hnew_
                      clear hg_ hnew_
                      (first | rw [← Ny395.out] at ho15 | (simp only [Int.reduceToNat] at ho15; rw [← Ny395.out] at ho15))
                      have n0_ := Aside0.mk (Kd.S_elder' (zs HO_3.out) (Kd.R_base ho15) hb)
                      have n1_ := Aside0.mk (Kd.R_elder' (zr HO394.out) (Kd.R_base ho15) hb)
                      have n2_ := Aside0.mk (Kd.R_lower (Kd.R_new' ho15 (Kd.R_lt (zr HO394.out))) (below_size J0))
                      have n3_ := Aside0.mk (below_step J0 hb)
                      clear HO_3
                      clear HO394
                      clear HB
                      have HO_3 := n0_
                      have HO394 := n1_
                      have HO397 := n2_
                      have HB := n3_
                      clear n0_ n1_ n2_ n3_
                      clear hb ho15
                      refine hK.out _ _ ⟨((HB.out.cell (World.block_lt_of_cell? w _ hw387_0)).trans hw387_0), ((HB.out.cell (World.block_lt_of_cell? w _ hw387_1)).trans hw387_1), ((HB.out.cell (World.block_lt_of_cell? w _ hw387_2)).trans hw387_2), ((HB.out.cell (World.block_lt_of_cell? w _ hw387_3)).trans hw387_3)⟩ (fun hHeld => ?_)
                      clear hK K
                      refine norm_ (a' := ?_) ?_ ?_
                      rotate_left
                      · show Act.put _ (some 24) _ = _
                        simp only [Act.put, List.setIfInBounds_toArray, List.set_cons_zero, List.set_cons_succ, i64_w, i32_w]
                        rfl
                      exact norm_ J7 (hJ6_12_13 (v389, v393, v396) _ ⟨hHeld, J49, J27, (zs HO_3.out), J0⟩)
                    · skip
                      refine Kd.R_lit_step k41 _ 41 ?hg (N := 31) ?hd (xs := ([] : List (S41))) (inner := []) (ok := fun _ => True) (okp := fun _ => True) ?hr ?hp (fun _ hk => hk) trivial (Below.refl _ _) (Nat.le_refl _) J28 ?_; (case hd => rfl); (case hg => rfl); (case hr => first | (go_simp; done) | (go_simp; rfl)); (case hp => exact (Reps.none _ _))
                      intro v403 w14 ho15 hb hg_ hnew_
                      clear hg_ hnew_
                      (first | rw [← Ny402.out] at ho15 | (simp only [Int.reduceToNat] at ho15; rw [← Ny402.out] at ho15))
                      have n0_ := Aside0.mk (Kd.S_elder' (zs HO_3.out) (Kd.R_base ho15) hb)
                      have n1_ := Aside0.mk (Kd.R_below (zr HO394.out) hb)
                      have n2_ := Aside0.mk (Kd.R_lower ho15 (below_size J0))
                      have n3_ := Aside0.mk (below_step J0 hb)
                      clear HO_3
                      clear HO394
                      clear HB
                      have HO_3 := n0_
                      have HO394 := n1_
                      have HO404 := n2_
                      have HB := n3_
                      clear n0_ n1_ n2_ n3_
                      clear hb ho15
                      refine hK.out _ _ ⟨((HB.out.cell (World.block_lt_of_cell? w _ hw387_0)).trans hw387_0), ((HB.out.cell (World.block_lt_of_cell? w _ hw387_1)).trans hw387_1), ((HB.out.cell (World.block_lt_of_cell? w _ hw387_2)).trans hw387_2), ((HB.out.cell (World.block_lt_of_cell? w _ hw387_3)).trans hw387_3)⟩ (fun hHeld => ?_)
                      clear hK K
                      refine norm_ (a' := ?_) ?_ ?_
                      rotate_left
                      · show Act.put _ (some 31) _ = _
                        simp only [Act.put, List.setIfInBounds_toArray, List.set_cons_zero, List.set_cons_succ, i64_w, i32_w]
                        rfl
                      exact norm_ J7 (hJ6_12_20 (v389, v393, v403) _ ⟨hHeld, (zr HO394.out), (zr HO404.out), (zs HO_3.out), J0⟩)
                · skip
                  rintro ⟨v389, v396, v403⟩ w16 ⟨hS_, h0_, h1_, h2_, h3_, h4_⟩
                  have n0_ : Aside0 (Kd.R (Kd.int .i64) 3 w16 w.heap.size (fun k_ => some k_ ≠ (v396 : Value).ownBlock) v389 y388) := ⟨h0_⟩
                  have n1_ : Aside0 (Kd.R (Kd.int .i64) 3 w16 w.heap.size (fun k_ => some k_ ≠ (v389 : Value).ownBlock) v396 y395) := ⟨h1_⟩
                  have n2_ : Aside0 (Kd.R k41 41 w16 w.heap.size (fun _ => True) v403 y402) := ⟨h2_⟩
                  have n3_ : Aside0 (Kd.S k32 32 w16 w.heap.size (fun k_ => some k_ ≠ (v389 : Value).ownBlock ∧ some k_ ≠ (v396 : Value).ownBlock ∧ some k_ ≠ (v403 : Value).ownBlock) (.slice Ao8 x3_1.length co8) x3_1) := ⟨h3_⟩
                  have n4_ : Aside0 (Below w.heap.size w w16) := ⟨h4_⟩
                  clear HO_3
                  clear HB
                  clear h0_ h1_ h2_ h3_ h4_
                  have HO390 := n0_
                  have HO397 := n1_
                  have HO404 := n2_
                  have HO_3 := n3_
                  have HB := n4_
                  clear n0_ n1_ n2_ n3_ n4_
                  have hHeld : w16.cell? (ad387.add ((x4_1).toNat * 4)) = some (.int .i64 ((rd_T32 l0 x4_1).f0)) ∧ w16.cell? ⟨(ad387.add ((x4_1).toNat * 4)).block, (ad387.add ((x4_1).toNat * 4)).off + 1, none⟩ = some (.slice A387_1 ((rd_T32 l0 x4_1).f1).length c387_1) ∧ w16.cell? ⟨(ad387.add ((x4_1).toNat * 4)).block, (ad387.add ((x4_1).toNat * 4)).off + 2, none⟩ = some (.slice A387_2 ((rd_T32 l0 x4_1).f2).length c387_2) ∧ w16.cell? ⟨(ad387.add ((x4_1).toNat * 4)).block, (ad387.add ((x4_1).toNat * 4)).off + 3, none⟩ = some (.slice A387_3 ((rd_T32 l0 x4_1).f3).length c387_3) := hS_
                  refine norm_ (a' := ?_) ?_ ?_
                  rotate_left
                  · simp only [putAll, Act.put, List.setIfInBounds_toArray, List.set_cons_zero, List.set_cons_succ]
                    rfl
                  refine one_ (i := 12) (N := some 23) #[true, true, true, true, true, true, true, true, true, true, true, true, true, true, true, true, true, true, true, false, true, true, true, true, true, true, false, false, false, false, false] rfl rfl (one_of HT_.out J8) J21 (fun K hK => ?_)
                  refine Kd.R_append_rows_step (Kd.int .i64) (w0 := w) w.heap.size J47 (.tmp 17) (.tmp 22) 29 3 (.int .i64 0) 8 rfl Try.underlying29 info3 rfl J21 J31 v389 y388 ((rd_T32 l0 x4_1).f1) _ _ _ (fun k_ => some k_ ≠ (v396 : Value).ownBlock) (fun _ => False) rfl rfl ?aO ?aR (fun _ _ h => h) (fun _ h => h.elim) ?aF ?aB ?aS ?aL ?_
                  (case aR => repeat (first | exact (Kd.C_below HR391_1.out HB.out) | (with_reducible refine Kd.C_alloc ?_ _) | (with_reducible refine Kd.C_drewN ?_ _) | (with_reducible refine Kd.C_drew ?_)))
                  (case aB => exact J0)
                  (case aF => exact (fun k_ hk => Kd.fresh' (Kd.R_lt (zr HO397.out)) k_ hk))
                  (case aO => exact (zr HO390.out))
                  (case aS => exact (below_size J0))
                  (case aL => have := LMc4.out; omega)
                  intro v393 w17 ho hb hg hat
                  rw [← Ny392.out] at ho
                  have n0_ := Aside0.mk (Kd.S_after (ok := (fun k_ => some k_ ≠ (v396 : Value).ownBlock ∧ some k_ ≠ (v403 : Value).ownBlock)) (by (with_reducible repeat (first | apply Kd.S_alloc | apply Kd.S_drewN | apply Kd.S_drew)); exact Kd.S_mono HO_3.out (fun _ hk => ⟨⟨hk.2.1, hk.2.2⟩, hk.1⟩)) hg hat)
                  have n1_ := Aside0.mk (Kd.R_after (ok := (fun _ => True)) J73 hg hat)
                  have n2_ := Aside0.mk (Kd.R_over' (zr HO404.out) (Kd.R_typed (zr HO390.out)) J21 hg)
                  have n3_ := Aside0.mk (hb)
                  have n4_ := Aside0.mk (ho)
                  clear HO_3
                  clear HO397
                  clear HO404
                  clear HB
                  clear HO390
                  have HO_3 := n0_
                  have HO397 := n1_
                  have HO404 := n2_
                  have HB := n3_
                  have HO394 := n4_
                  clear n0_ n1_ n2_ n3_ n4_
                  clear ho hb hg hat
                  refine hK.out _ _ ⟨((HB.out.cell (World.block_lt_of_cell? w _ hw387_0)).trans hw387_0), ((HB.out.cell (World.block_lt_of_cell? w _ hw387_1)).trans hw387_1), ((HB.out.cell (World.block_lt_of_cell? w _ hw387_2)).trans hw387_2), ((HB.out.cell (World.block_lt_of_cell? w _ hw387_3)).trans hw387_3)⟩ (fun hHeld => ?_)
                  clear hK K
                  refine norm_ (a' := ?_) ?_ ?_
                  rotate_left
                  · show Act.put _ (some 23) _ = _
                    simp only [Act.put, List.setIfInBounds_toArray, List.set_cons_zero, List.set_cons_succ, i64_w, i32_w]
                    rfl
                  exact norm_ J7 (hJ6_12_13_20 (v389, v393, v396, v403) _ ⟨hHeld, (zr HO394.out), J27, (zr HO404.out), J70, J0⟩)
              · skip
                rintro ⟨v389, v393, v403⟩ w15 ⟨hS_, h0_, h1_, h2_, h3_⟩
                have n0_ : Aside0 (Kd.R (Kd.int .i64) 3 w15 w.heap.size (fun _ => True) v393 y392) := ⟨h0_⟩
                have n1_ : Aside0 (Kd.R k41 41 w15 w.heap.size (fun _ => True) v403 y402) := ⟨h1_⟩
                have n2_ : Aside0 (Kd.S k32 32 w15 w.heap.size (fun k_ => some k_ ≠ (v393 : Value).ownBlock ∧ some k_ ≠ (v403 : Value).ownBlock) (.slice Ao8 x3_1.length co8) x3_1) := ⟨h2_⟩
                have n3_ : Aside0 (Below w.heap.size w w15) := ⟨h3_⟩
                clear HO_3
                clear HB
                clear h0_ h1_ h2_ h3_
                have HO394 := n0_
                have HO404 := n1_
                have HO_3 := n2_
                have HB := n3_
                clear n0_ n1_ n2_ n3_
                have hHeld : w15.cell? (ad387.add ((x4_1).toNat * 4)) = some (.int .i64 ((rd_T32 l0 x4_1).f0)) ∧ w15.cell? ⟨(ad387.add ((x4_1).toNat * 4)).block, (ad387.add ((x4_1).toNat * 4)).off + 1, none⟩ = some (.slice A387_1 ((rd_T32 l0 x4_1).f1).length c387_1) ∧ w15.cell? ⟨(ad387.add ((x4_1).toNat * 4)).block, (ad387.add ((x4_1).toNat * 4)).off + 2, none⟩ = some (.slice A387_2 ((rd_T32 l0 x4_1).f2).length c387_2) ∧ w15.cell? ⟨(ad387.add ((x4_1).toNat * 4)).block, (ad387.add ((x4_1).toNat * 4)).off + 3, none⟩ = some (.slice A387_3 ((rd_T32 l0 x4_1).f3).length c387_3) := hS_
                refine norm_ (a' := ?_) ?_ ?_
                rotate_left
                · simp only [putAll, Act.put, List.setIfInBounds_toArray, List.set_cons_zero, List.set_cons_succ]
                  rfl
                refine one_ (i := 13) (N := some 24) #[true, true, true, true, true, true, true, true, true, true, true, true, true, true, true, true, true, true, true, false, true, true, true, true, true, true, false, false, false, false, false] rfl rfl (one_of HT_.out J8) J21 (fun K hK => ?_)
                refine Kd.R_lit_step (Kd.int .i64) _ 3 ?hg (N := 24) ?hd (xs := ([] : List Int)) (inner := []) (ok := fun _ => True) (okp := fun _ => True) ?hr ?hp (fun _ hk => hk) trivial (Below.refl _ _) (Nat.le_refl _) J28 ?_; (case hd => rfl); (case hg => rfl); (case hr => first | (go_simp; done) | (go_simp; rfl)); (case hp => exact (Reps.none _ _))
                intro v396 w16 ho17 hb hg_ hnew_
                clear hg_ hnew_
                (first | rw [← Ny395.out] at ho17 | (simp only [Int.reduceToNat] at ho17; rw [← Ny395.out] at ho17))
                have n0_ := Aside0.mk (Kd.S_elder' (zs HO_3.out) (Kd.R_base ho17) hb)
                have n1_ := Aside0.mk (Kd.R_elder' (zr HO394.out) (Kd.R_base ho17) hb)
                have n2_ := Aside0.mk (Kd.R_below (zr HO404.out) hb)
                have n3_ := Aside0.mk (Kd.R_lower (Kd.R_new' ho17 (Kd.R_lt (zr HO394.out))) (below_size J0))
                have n4_ := Aside0.mk (below_step J0 hb)
                clear HO_3
                clear HO394
                clear HO404
                clear HB
                have HO_3 := n0_
                have HO394 := n1_
                have HO404 := n2_
                have HO397 := n3_
                have HB := n4_
                clear n0_ n1_ n2_ n3_ n4_
                clear hb ho17
                refine hK.out _ _ ⟨((HB.out.cell (World.block_lt_of_cell? w _ hw387_0)).trans hw387_0), ((HB.out.cell (World.block_lt_of_cell? w _ hw387_1)).trans hw387_1), ((HB.out.cell (World.block_lt_of_cell? w _ hw387_2)).trans hw387_2), ((HB.out.cell (World.block_lt_of_cell? w _ hw387_3)).trans hw387_3)⟩ (fun hHeld => ?_)
                clear hK K
                refine norm_ (a' := ?_) ?_ ?_
                rotate_left
                · show Act.put _ (some 24) _ = _
                  simp only [Act.put, List.setIfInBounds_toArray, List.set_cons_zero, List.set_cons_succ, i64_w, i32_w]
                  rfl
                exact norm_ J7 (hJ6_12_13_20 (v389, v393, v396, v403) _ ⟨hHeld, J49, J27, (zr HO404.out), J53, J0⟩)
            · skip
              rintro ⟨v389, v393, v396⟩ w15 ⟨hS_, h0_, h1_, h2_, h3_⟩
              have n0_ : Aside0 (Kd.R (Kd.int .i64) 3 w15 w.heap.size (fun k_ => some k_ ≠ (v396 : Value).ownBlock) v393 y392) := ⟨h0_⟩
              have n1_ : Aside0 (Kd.R (Kd.int .i64) 3 w15 w.heap.size (fun k_ => some k_ ≠ (v393 : Value).ownBlock) v396 y395) := ⟨h1_⟩
              have n2_ : Aside0 (Kd.S k32 32 w15 w.heap.size (fun k_ => some k_ ≠ (v393 : Value).ownBlock ∧ some k_ ≠ (v396 : Value).ownBlock) (.slice Ao8 x3_1.length co8) x3_1) := ⟨h2_⟩
              have n3_ : Aside0 (Below w.heap.size w w15) := ⟨h3_⟩
              clear HO_3
              clear HB
              clear h0_ h1_ h2_ h3_
              have HO394 := n0_
              have HO397 := n1_
              have HO_3 := n2_
              have HB := n3_
              clear n0_ n1_ n2_ n3_
              have hHeld : w15.cell? (ad387.add ((x4_1).toNat * 4)) = some (.int .i64 ((rd_T32 l0 x4_1).f0)) ∧ w15.cell? ⟨(ad387.add ((x4_1).toNat * 4)).block, (ad387.add ((x4_1).toNat * 4)).off + 1, none⟩ = some (.slice A387_1 ((rd_T32 l0 x4_1).f1).length c387_1) ∧ w15.cell? ⟨(ad387.add ((x4_1).toNat * 4)).block, (ad387.add ((x4_1).toNat * 4)).off + 2, none⟩ = some (.slice A387_2 ((rd_T32 l0 x4_1).f2).length c387_2) ∧ w15.cell? ⟨(ad387.add ((x4_1).toNat * 4)).block, (ad387.add ((x4_1).toNat * 4)).off + 3, none⟩ = some (.slice A387_3 ((rd_T32 l0 x4_1).f3).length c387_3) := hS_
              refine norm_ (a' := ?_) ?_ ?_
              rotate_left
              · simp only [putAll, Act.put, List.setIfInBounds_toArray, List.set_cons_zero, List.set_cons_succ]
                rfl
              refine two_ (i := 19) (j := 20) (Ni := some 30) (Nj := some 31) #[true, true, true, true, true, true, true, true, true, true, true, true, true, true, true, true, true, true, true, true, false, true, true, true, true, true, false, false, false, false, false] #[true, true, true, true, true, true, true, true, true, true, true, true, true, true, true, true, true, true, true, false, true, true, true, true, true, true, false, false, false, false, false] rfl rfl rfl rfl (two_of HT_.out J8) J21 J21 (fun K hK => ?_) (fun K hK => ?_)
              · skip
                refine Kd.R_append_rows_step (Kd.int .i64) (w0 := w) w.heap.size J47 (.tmp 24) (.tmp 29) 29 3 (.int .i64 0) 8 rfl Try.underlying29 info3 rfl J21 J31 v396 y395 ((rd_T32 l0 x4_1).f2) _ _ _ (fun k_ => some k_ ≠ (v393 : Value).ownBlock) (fun _ => False) rfl rfl ?aO ?aR (fun _ _ h => h) (fun _ h => h.elim) ?aF ?aB ?aS ?aL ?_
                (case aR => repeat (first | exact (Kd.C_below HR398_2.out HB.out) | (with_reducible refine Kd.C_alloc ?_ _) | (with_reducible refine Kd.C_drewN ?_ _) | (with_reducible refine Kd.C_drew ?_)))
                (case aB => exact J0)
                (case aF => exact (fun k_ hk => Kd.fresh' (Kd.R_lt (zr HO394.out)) k_ hk))
                (case aO => exact (zr HO397.out))
                (case aS => exact (below_size J0))
                (case aL => have := LMc5.out; omega)
                intro v400 w16 ho hb hg hat
                rw [← Ny399.out] at ho
                have n0_ := Aside0.mk (Kd.S_after (ok := (fun k_ => some k_ ≠ (v393 : Value).ownBlock)) (zs HO_3.out) hg hat)
                have n1_ := Aside0.mk (Kd.R_after (ok := (fun _ => True)) J74 hg hat)
                have n2_ := Aside0.mk (hb)
                have n3_ := Aside0.mk (ho)
                clear HO_3
                clear HO394
                clear HB
                clear HO397
                have HO_3 := n0_
                have HO394 := n1_
                have HB := n2_
                have HO401 := n3_
                clear n0_ n1_ n2_ n3_
                clear ho hb hg hat
                refine hK.out _ _ ⟨((HB.out.cell (World.block_lt_of_cell? w _ hw387_0)).trans hw387_0), ((HB.out.cell (World.block_lt_of_cell? w _ hw387_1)).trans hw387_1), ((HB.out.cell (World.block_lt_of_cell? w _ hw387_2)).trans hw387_2), ((HB.out.cell (World.block_lt_of_cell? w _ hw387_3)).trans hw387_3)⟩ (fun hHeld => ?_)
                clear hK K
                refine norm_ (a' := ?_) ?_ ?_
                rotate_left
                · show Act.put _ (some 30) _ = _
                  simp only [Act.put, List.setIfInBounds_toArray, List.set_cons_zero, List.set_cons_succ, i64_w, i32_w]
                  rfl
                exact norm_ J7 (hJ6_12_13_19 (v389, v393, v396, v400) _ ⟨hHeld, J49, (zr HO401.out), (zs HO_3.out), J0⟩)
              · skip
                refine Kd.R_lit_step k41 _ 41 ?hg (N := 31) ?hd (xs := ([] : List (S41))) (inner := []) (ok := fun _ => True) (okp := fun _ => True) ?hr ?hp (fun _ hk => hk) trivial (Below.refl _ _) (Nat.le_refl _) J28 ?_; (case hd => rfl); (case hg => rfl); (case hr => first | (go_simp; done) | (go_simp; rfl)); (case hp => exact (Reps.none _ _))
                intro v403 w16 ho17 hb hg_ hnew_
                clear hg_ hnew_
                (first | rw [← Ny402.out] at ho17 | (simp only [Int.reduceToNat] at ho17; rw [← Ny402.out] at ho17))
                have n0_ := Aside0.mk (Kd.S_elder' (zs HO_3.out) (Kd.R_base ho17) hb)
                have n1_ := Aside0.mk (Kd.R_below (zr HO394.out) hb)
                have n2_ := Aside0.mk (Kd.R_below (zr HO397.out) hb)
                have n3_ := Aside0.mk (Kd.R_lower ho17 (below_size J0))
                have n4_ := Aside0.mk (below_step J0 hb)
                clear HO_3
                clear HO394
                clear HO397
                clear HB
                have HO_3 := n0_
                have HO394 := n1_
                have HO397 := n2_
                have HO404 := n3_
                have HB := n4_
                clear n0_ n1_ n2_ n3_ n4_
                clear hb ho17
                refine hK.out _ _ ⟨((HB.out.cell (World.block_lt_of_cell? w _ hw387_0)).trans hw387_0), ((HB.out.cell (World.block_lt_of_cell? w _ hw387_1)).trans hw387_1), ((HB.out.cell (World.block_lt_of_cell? w _ hw387_2)).trans hw387_2), ((HB.out.cell (World.block_lt_of_cell? w _ hw387_3)).trans hw387_3)⟩ (fun hHeld => ?_)
                clear hK K
                refine norm_ (a' := ?_) ?_ ?_
                rotate_left
                · show Act.put _ (some 31) _ = _
                  simp only [Act.put, List.setIfInBounds_toArray, List.set_cons_zero, List.set_cons_succ, i64_w, i32_w]
                  rfl
                exact norm_ J7 (hJ6_12_13_20 (v389, v393, v396, v403) _ ⟨hHeld, (zr HO394.out), (zr HO397.out), (zr HO404.out), J54, J0⟩)
          · skip
            rintro ⟨v389, v393, v396, v403⟩ w17 ⟨hS_, h0_, h1_, h2_, h3_, h4_⟩
            have n0_ : Aside0 (Kd.R (Kd.int .i64) 3 w17 w.heap.size (fun k_ => some k_ ≠ (v396 : Value).ownBlock) v393 y392) := ⟨h0_⟩
            have n1_ : Aside0 (Kd.R (Kd.int .i64) 3 w17 w.heap.size (fun k_ => some k_ ≠ (v393 : Value).ownBlock) v396 y395) := ⟨h1_⟩
            have n2_ : Aside0 (Kd.R k41 41 w17 w.heap.size (fun _ => True) v403 y402) := ⟨h2_⟩
            have n3_ : Aside0 (Kd.S k32 32 w17 w.heap.size (fun k_ => some k_ ≠ (v393 : Value).ownBlock ∧ some k_ ≠ (v396 : Value).ownBlock ∧ some k_ ≠ (v403 : Value).ownBlock) (.slice Ao8 x3_1.length co8) x3_1) := ⟨h3_⟩
            have n4_ : Aside0 (Below w.heap.size w w17) := ⟨h4_⟩
            clear HO_3
            clear HB
            clear h0_ h1_ h2_ h3_ h4_
            have HO394 := n0_
            have HO397 := n1_
            have HO404 := n2_
            have HO_3 := n3_
            have HB := n4_
            clear n0_ n1_ n2_ n3_ n4_
            have hHeld : w17.cell? (ad387.add ((x4_1).toNat * 4)) = some (.int .i64 ((rd_T32 l0 x4_1).f0)) ∧ w17.cell? ⟨(ad387.add ((x4_1).toNat * 4)).block, (ad387.add ((x4_1).toNat * 4)).off + 1, none⟩ = some (.slice A387_1 ((rd_T32 l0 x4_1).f1).length c387_1) ∧ w17.cell? ⟨(ad387.add ((x4_1).toNat * 4)).block, (ad387.add ((x4_1).toNat * 4)).off + 2, none⟩ = some (.slice A387_2 ((rd_T32 l0 x4_1).f2).length c387_2) ∧ w17.cell? ⟨(ad387.add ((x4_1).toNat * 4)).block, (ad387.add ((x4_1).toNat * 4)).off + 3, none⟩ = some (.slice A387_3 ((rd_T32 l0 x4_1).f3).length c387_3) := hS_
            refine norm_ (a' := ?_) ?_ ?_
            rotate_left
            · simp only [putAll, Act.put, List.setIfInBounds_toArray, List.set_cons_zero, List.set_cons_succ]
              rfl
            refine one_ (i := 19) (N := some 30) #[true, true, true, true, true, true, true, true, true, true, true, true, true, true, true, true, true, true, true, true, true, true, true, true, true, true, false, false, false, false, false] rfl rfl (one_of HT_.out J8) J21 (fun K hK => ?_)
            refine Kd.R_append_rows_step (Kd.int .i64) (w0 := w) w.heap.size J47 (.tmp 24) (.tmp 29) 29 3 (.int .i64 0) 8 rfl Try.underlying29 info3 rfl J21 J31 v396 y395 ((rd_T32 l0 x4_1).f2) _ _ _ (fun k_ => some k_ ≠ (v393 : Value).ownBlock) (fun _ => False) rfl rfl ?aO ?aR (fun _ _ h => h) (fun _ h => h.elim) ?aF ?aB ?aS ?aL ?_
            (case aR => repeat (first | exact (Kd.C_below HR398_2.out HB.out) | (with_reducible refine Kd.C_alloc ?_ _) | (with_reducible refine Kd.C_drewN ?_ _) | (with_reducible refine Kd.C_drew ?_)))
            (case aB => exact J0)
            (case aF => exact (fun k_ hk => Kd.fresh' (Kd.R_lt (zr HO394.out)) k_ hk))
            (case aO => exact (zr HO397.out))
            (case aS => exact (below_size J0))
            (case aL => have := LMc5.out; omega)
            intro v400 w18 ho hb hg hat
            rw [← Ny399.out] at ho
            have n0_ := Aside0.mk (Kd.S_after (ok := (fun k_ => some k_ ≠ (v393 : Value).ownBlock ∧ some k_ ≠ (v403 : Value).ownBlock)) (by (with_reducible repeat (first | apply Kd.S_alloc | apply Kd.S_drewN | apply Kd.S_drew)); exact Kd.S_mono HO_3.out (fun _ hk => ⟨⟨hk.1, hk.2.2⟩, hk.2.1⟩)) hg hat)
            have n1_ := Aside0.mk (Kd.R_after (ok := (fun _ => True)) J74 hg hat)
            have n2_ := Aside0.mk (Kd.R_over' (zr HO404.out) (Kd.R_typed (zr HO397.out)) J21 hg)
            have n3_ := Aside0.mk (hb)
            have n4_ := Aside0.mk (ho)
            clear HO_3
            clear HO394
            clear HO404
            clear HB
            clear HO397
            have HO_3 := n0_
            have HO394 := n1_
            have HO404 := n2_
            have HB := n3_
            have HO401 := n4_
            clear n0_ n1_ n2_ n3_ n4_
            clear ho hb hg hat
            refine hK.out _ _ ⟨((HB.out.cell (World.block_lt_of_cell? w _ hw387_0)).trans hw387_0), ((HB.out.cell (World.block_lt_of_cell? w _ hw387_1)).trans hw387_1), ((HB.out.cell (World.block_lt_of_cell? w _ hw387_2)).trans hw387_2), ((HB.out.cell (World.block_lt_of_cell? w _ hw387_3)).trans hw387_3)⟩ (fun hHeld => ?_)
            clear hK K
            refine norm_ (a' := ?_) ?_ ?_
            rotate_left
            · show Act.put _ (some 30) _ = _
              simp only [Act.put, List.setIfInBounds_toArray, List.set_cons_zero, List.set_cons_succ, i64_w, i32_w]
              rfl
            exact norm_ J7 (hJ6_12_13_19_20 (v389, v393, v396, v400, v403) _ ⟨hHeld, J49, (zr HO401.out), (zr HO404.out), J53, J0⟩)
        · skip
          rintro ⟨v389, v393, v396, v400⟩ w16 ⟨hS_, h0_, h1_, h2_, h3_⟩
          have n0_ : Aside0 (Kd.R (Kd.int .i64) 3 w16 w.heap.size (fun k_ => some k_ ≠ (v400 : Value).ownBlock) v393 y392) := ⟨h0_⟩
          have n1_ : Aside0 (Kd.R (Kd.int .i64) 3 w16 w.heap.size (fun k_ => some k_ ≠ (v393 : Value).ownBlock) v400 y399) := ⟨h1_⟩
          have n2_ : Aside0 (Kd.S k32 32 w16 w.heap.size (fun k_ => some k_ ≠ (v393 : Value).ownBlock ∧ some k_ ≠ (v400 : Value).ownBlock) (.slice Ao8 x3_1.length co8) x3_1) := ⟨h2_⟩
          have n3_ : Aside0 (Below w.heap.size w w16) := ⟨h3_⟩
          clear HO_3
          clear HB
          clear h0_ h1_ h2_ h3_
          have HO394 := n0_
          have HO401 := n1_
          have HO_3 := n2_
          have HB := n3_
          clear n0_ n1_ n2_ n3_
          have hHeld : w16.cell? (ad387.add ((x4_1).toNat * 4)) = some (.int .i64 ((rd_T32 l0 x4_1).f0)) ∧ w16.cell? ⟨(ad387.add ((x4_1).toNat * 4)).block, (ad387.add ((x4_1).toNat * 4)).off + 1, none⟩ = some (.slice A387_1 ((rd_T32 l0 x4_1).f1).length c387_1) ∧ w16.cell? ⟨(ad387.add ((x4_1).toNat * 4)).block, (ad387.add ((x4_1).toNat * 4)).off + 2, none⟩ = some (.slice A387_2 ((rd_T32 l0 x4_1).f2).length c387_2) ∧ w16.cell? ⟨(ad387.add ((x4_1).toNat * 4)).block, (ad387.add ((x4_1).toNat * 4)).off + 3, none⟩ = some (.slice A387_3 ((rd_T32 l0 x4_1).f3).length c387_3) := hS_
          refine norm_ (a' := ?_) ?_ ?_
          rotate_left
          · simp only [putAll, Act.put, List.setIfInBounds_toArray, List.set_cons_zero, List.set_cons_succ]
            rfl
          refine one_ (i := 20) (N := some 31) #[true, true, true, true, true, true, true, true, true, true, true, true, true, true, true, true, true, true, true, true, true, true, true, true, true, true, false, false, false, false, false] rfl rfl (one_of HT_.out J8) J21 (fun K hK => ?_)
          refine Kd.R_lit_step k41 _ 41 ?hg (N := 31) ?hd (xs := ([] : List (S41))) (inner := []) (ok := fun _ => True) (okp := fun _ => True) ?hr ?hp (fun _ hk => hk) trivial (Below.refl _ _) (Nat.le_refl _) J28 ?_; (case hd => rfl); (case hg => rfl); (case hr => first | (go_simp; done) | (go_simp; rfl)); (case hp => exact (Reps.none _ _))
          intro v403 w17 ho18 hb hg_ hnew_
          clear hg_ hnew_
          (first | rw [← Ny402.out] at ho18 | (simp only [Int.reduceToNat] at ho18; rw [← Ny402.out] at ho18))
          have n0_ := Aside0.mk (Kd.S_elder' (zs HO_3.out) (Kd.R_base ho18) hb)
          have n1_ := Aside0.mk (Kd.R_below (zr HO394.out) hb)
          have n2_ := Aside0.mk (Kd.R_below (zr HO401.out) hb)
          have n3_ := Aside0.mk (Kd.R_lower ho18 (below_size J0))
          have n4_ := Aside0.mk (below_step J0 hb)
          clear HO_3
          clear HO394
          clear HO401
          clear HB
          have HO_3 := n0_
          have HO394 := n1_
          have HO401 := n2_
          have HO404 := n3_
          have HB := n4_
          clear n0_ n1_ n2_ n3_ n4_
          clear hb ho18
          refine hK.out _ _ ⟨((HB.out.cell (World.block_lt_of_cell? w _ hw387_0)).trans hw387_0), ((HB.out.cell (World.block_lt_of_cell? w _ hw387_1)).trans hw387_1), ((HB.out.cell (World.block_lt_of_cell? w _ hw387_2)).trans hw387_2), ((HB.out.cell (World.block_lt_of_cell? w _ hw387_3)).trans hw387_3)⟩ (fun hHeld => ?_)
          clear hK K
          refine norm_ (a' := ?_) ?_ ?_
          rotate_left
          · show Act.put _ (some 31) _ = _
            simp only [Act.put, List.setIfInBounds_toArray, List.set_cons_zero, List.set_cons_succ, i64_w, i32_w]
            rfl
          exact norm_ J7 (hJ6_12_13_19_20 (v389, v393, v396, v400, v403) _ ⟨hHeld, (zr HO394.out), (zr HO401.out), (zr HO404.out), J54, J0⟩)
      rintro ⟨v389, v393, v396, v400, v403⟩ w18 ⟨hS_, h0_, h1_, h2_, h3_, h4_⟩
      have n0_ : Aside0 (Kd.R (Kd.int .i64) 3 w18 w.heap.size (fun k_ => some k_ ≠ (v400 : Value).ownBlock) v393 y392) := ⟨h0_⟩
      have n1_ : Aside0 (Kd.R (Kd.int .i64) 3 w18 w.heap.size (fun k_ => some k_ ≠ (v393 : Value).ownBlock) v400 y399) := ⟨h1_⟩
      have n2_ : Aside0 (Kd.R k41 41 w18 w.heap.size (fun _ => True) v403 y402) := ⟨h2_⟩
      have n3_ : Aside0 (Kd.S k32 32 w18 w.heap.size (fun k_ => some k_ ≠ (v393 : Value).ownBlock ∧ some k_ ≠ (v400 : Value).ownBlock ∧ some k_ ≠ (v403 : Value).ownBlock) (.slice Ao8 x3_1.length co8) x3_1) := ⟨h3_⟩
      have n4_ : Aside0 (Below w.heap.size w w18) := ⟨h4_⟩
      clear HO_3
      clear HB
      clear h0_ h1_ h2_ h3_ h4_
      have HO394 := n0_
      have HO401 := n1_
      have HO404 := n2_
      have HO_3 := n3_
      have HB := n4_
      clear n0_ n1_ n2_ n3_ n4_
      have hHeld : w18.cell? (ad387.add ((x4_1).toNat * 4)) = some (.int .i64 ((rd_T32 l0 x4_1).f0)) ∧ w18.cell? ⟨(ad387.add ((x4_1).toNat * 4)).block, (ad387.add ((x4_1).toNat * 4)).off + 1, none⟩ = some (.slice A387_1 ((rd_T32 l0 x4_1).f1).length c387_1) ∧ w18.cell? ⟨(ad387.add ((x4_1).toNat * 4)).block, (ad387.add ((x4_1).toNat * 4)).off + 2, none⟩ = some (.slice A387_2 ((rd_T32 l0 x4_1).f2).length c387_2) ∧ w18.cell? ⟨(ad387.add ((x4_1).toNat * 4)).block, (ad387.add ((x4_1).toNat * 4)).off + 3, none⟩ = some (.slice A387_3 ((rd_T32 l0 x4_1).f3).length c387_3) := hS_
      refine norm_ (a' := ?_) ?_ ?_
      rotate_left
      · simp only [putAll, Act.put, List.setIfInBounds_toArray, List.set_cons_zero, List.set_cons_succ]
        rfl
      refine one_ (i := 26) (N := some 37) #[true, true, true, true, true, true, true, true, true, true, true, true, true, true, true, true, true, true, true, true, true, true, true, true, true, true, true, false, false, false, false] rfl rfl (one_of HT_.out J8) J21 (fun K hK => ?_)
      refine Kd.R_append_rows_step k41 (w0 := w) w.heap.size J47 (.tmp 31) (.tmp 36) 30 41 (.agg #[(.int .i64 0), (.int .i64 0)]) 16 rfl Try.underlying30 info41 rfl J21 J31 v403 y402 ((rd_T32 l0 x4_1).f3) _ _ _ (fun _ => True) (fun _ => False) rfl rfl ?aO ?aR (fun _ _ h => h) (fun _ h => h.elim) ?aF ?aB ?aS ?aL ?_
      (case aR => repeat (first | exact (Kd.C_below HR405_3.out HB.out) | (with_reducible refine Kd.C_alloc ?_ _) | (with_reducible refine Kd.C_drewN ?_ _) | (with_reducible refine Kd.C_drew ?_)))
      (case aB => exact J0)
      (case aF => exact (fun _ _ => trivial))
      (case aO => exact (zr HO404.out))
      (case aS => exact (below_size J0))
      (case aL => have := LMc6.out; omega)
      intro v407 w19 ho hb hg hat
      rw [← Ny406.out] at ho
      have n0_ := Aside0.mk (Kd.S_after (ok := (fun k_ => some k_ ≠ (v393 : Value).ownBlock ∧ some k_ ≠ (v400 : Value).ownBlock)) (by (with_reducible repeat (first | apply Kd.S_alloc | apply Kd.S_drewN | apply Kd.S_drew)); exact Kd.S_mono HO_3.out (fun _ hk => ⟨⟨hk.1, hk.2.1⟩, hk.2.2⟩)) hg hat)
      have n1_ := Aside0.mk (Kd.R_over' (zr HO394.out) (Kd.R_typed (zr HO404.out)) J21 hg)
      have n2_ := Aside0.mk (Kd.R_over' (zr HO401.out) (Kd.R_typed (zr HO404.out)) J21 hg)
      have n3_ := Aside0.mk (hb)
      have n4_ := Aside0.mk (ho)
      clear HO_3
      clear HO394
      clear HO401
      clear HB
      clear HO404
      have HO_3 := n0_
      have HO394 := n1_
      have HO401 := n2_
      have HB := n3_
      have HO408 := n4_
      clear n0_ n1_ n2_ n3_ n4_
      clear ho hb hg hat
      obtain ⟨Ao20, co20, eo20⟩ := Kd.R_slice HO408.out
      (first | subst eo20 | (injection eo20 with f1_ f2_ f3_; have f4_ := f1_.symm; have f5_ := f3_.symm; clear f1_ f2_ f3_; subst f4_; subst f5_))
      obtain ⟨Ao21, co21, eo21⟩ := Kd.R_slice HO401.out
      (first | subst eo21 | (injection eo21 with f1_ f2_ f3_; have f4_ := f1_.symm; have f5_ := f3_.symm; clear f1_ f2_ f3_; subst f4_; subst f5_))
      obtain ⟨Ao22, co22, eo22⟩ := Kd.R_slice HO394.out
      (first | subst eo22 | (injection eo22 with f1_ f2_ f3_; have f4_ := f1_.symm; have f5_ := f3_.symm; clear f1_ f2_ f3_; subst f4_; subst f5_))
      refine hK.out _ _ ⟨((HB.out.cell (World.block_lt_of_cell? w _ hw387_0)).trans hw387_0), ((HB.out.cell (World.block_lt_of_cell? w _ hw387_1)).trans hw387_1), ((HB.out.cell (World.block_lt_of_cell? w _ hw387_2)).trans hw387_2), ((HB.out.cell (World.block_lt_of_cell? w _ hw387_3)).trans hw387_3)⟩ (fun hHeld => ?_)
      clear hK K
      refine norm_ (a' := ?_) ?_ ?_
      rotate_left
      · show Act.put _ (some 37) _ = _
        simp only [Act.put, List.setIfInBounds_toArray, List.set_cons_zero, List.set_cons_succ, i64_w, i32_w]
        rfl
      refine pure_ (i := 27) (N := some 38) (v := ?_) (a' := ?_) #[true, true, true, true, true, true, true, true, true, true, true, true, true, true, true, true, true, true, true, true, true, true, true, true, true, true, true, true, false, false, false] rfl rfl (any_of HT_.out J8) (fun _ _ _ h => h) (Or.inl ⟨J47, ?_⟩) ?_ ?_
      rotate_left
      · intro w'
        go_simp
        with_reducible rfl
      rotate_left
      · simp only [Act.put, List.setIfInBounds_toArray, List.set_cons_zero, List.set_cons_succ, i64_w, i32_w]
        rfl
      refine one_ (i := 28) (N := some 39) #[true, true, true, true, true, true, true, true, true, true, true, true, true, true, true, true, true, true, true, true, true, true, true, true, true, true, true, true, true, false, false] rfl rfl (one_of HT_.out J8) J21 (fun K hK => ?_)
      refine value_ (w1 := ?_) (v := ?_) J47 rfl ?_ ?_
      rotate_left 2
      · go_simp
        constructor
        · rfl
        · rfl
      refine hK.out _ _ ⟨(World.cell?_alloc_lt _ _ _ (World.block_lt_of_cell? _ _ (((HB.out.cell (World.block_lt_of_cell? w _ hw387_0)).trans hw387_0)))).trans (((HB.out.cell (World.block_lt_of_cell? w _ hw387_0)).trans hw387_0)), (World.cell?_alloc_lt _ _ _ (World.block_lt_of_cell? _ _ (((HB.out.cell (World.block_lt_of_cell? w _ hw387_1)).trans hw387_1)))).trans (((HB.out.cell (World.block_lt_of_cell? w _ hw387_1)).trans hw387_1)), (World.cell?_alloc_lt _ _ _ (World.block_lt_of_cell? _ _ (((HB.out.cell (World.block_lt_of_cell? w _ hw387_2)).trans hw387_2)))).trans (((HB.out.cell (World.block_lt_of_cell? w _ hw387_2)).trans hw387_2)), (World.cell?_alloc_lt _ _ _ (World.block_lt_of_cell? _ _ (((HB.out.cell (World.block_lt_of_cell? w _ hw387_3)).trans hw387_3)))).trans (((HB.out.cell (World.block_lt_of_cell? w _ hw387_3)).trans hw387_3))⟩ (fun hHeld => ?_)
      clear hK K
      refine norm_ (a' := ?_) ?_ ?_
      rotate_left
      · show Act.put _ (some 39) _ = _
        simp only [Act.put, List.setIfInBounds_toArray, List.set_cons_zero, List.set_cons_succ, i64_w, i32_w]
        rfl
      refine one_ (i := 29) (N := some 40) #[true, true, true, true, true, true, true, true, true, true, true, true, true, true, true, true, true, true, true, true, true, true, true, true, true, true, true, true, true, true, false] rfl rfl (one_of HT_.out J8) J21 (fun K hK => ?_)
      refine Kd.S_append_step k32 (w0 := w) w.heap.size J47 (.tmp 11) (.tmp 39) 22 32 (.agg #[(.int .i64 0), (.slice none 0 0), (.slice none 0 0), (.slice none 0 0)]) 80 rfl Try.underlying22 info32 rfl J21 J31 (.slice Ao8 x3_1.length co8) x3_1 (⟨(rd_T32 l0 x4_1).f0, y392, y399, y406⟩ : S32) [.int .i64 ((rd_T32 l0 x4_1).f0), .slice Ao22 y392.length co22, .slice Ao21 y399.length co21, .slice Ao20 y406.length co20] (fun _ => True) (fun k_ => some k_ = (.slice Ao22 y392.length co22 : Value).ownBlock ∨ some k_ = (.slice Ao21 y399.length co21 : Value).ownBlock ∨ some k_ = (.slice Ao20 y406.length co20 : Value).ownBlock) rfl rfl ?aP (fun k_ hk_ => hk_.elim (fun h_ => ((Kd.R_mono (ok' := fun k_ => ((fun _ => True)) k_ ∧ some k_ ≠ (.slice Ao8 x3_1.length co8 : Value).ownBlock) (Kd.R_apart' (HO394.out) (Kd.S_typed HO_3.out) J21) (fun k_ hk => ⟨trivial, hk.2⟩))).1 k_ h_.symm) (fun h_ => h_.elim (fun h_ => ((Kd.R_mono (ok' := fun k_ => ((fun _ => True)) k_ ∧ some k_ ≠ (.slice Ao8 x3_1.length co8 : Value).ownBlock) (Kd.R_apart' (HO401.out) (Kd.S_typed HO_3.out) J21) (fun k_ hk => ⟨trivial, hk.2⟩))).1 k_ h_.symm) (fun h_ => ((Kd.R_mono (ok' := fun k_ => ((fun _ => True)) k_ ∧ some k_ ≠ (.slice Ao8 x3_1.length co8 : Value).ownBlock) (Kd.R_apart' (HO408.out) (Kd.S_typed HO_3.out) J21) (fun k_ hk => ⟨trivial, hk.2⟩))).1 k_ h_.symm))) ?aF ?aO ?aB ?aS ?aL ?_
      (case aP => exact k32_mkM _ _ _ (⟨(rd_T32 l0 x4_1).f0, y392, y399, y406⟩ : S32) (Kd.R_mono (Kd.R_tight rfl (Kd.R_mono (ok' := fun k_ => ((fun _ => True)) k_ ∧ some k_ ≠ (.slice Ao8 x3_1.length co8 : Value).ownBlock) (Kd.R_apart' (HO394.out) (Kd.S_typed HO_3.out) J21) (fun k_ hk => ⟨trivial, hk.2⟩))) (fun _ h_ => Or.inl h_)) (Kd.R_mono (Kd.R_tight rfl (Kd.R_mono (ok' := fun k_ => ((fun _ => True)) k_ ∧ some k_ ≠ (.slice Ao8 x3_1.length co8 : Value).ownBlock) (Kd.R_apart' (HO401.out) (Kd.S_typed HO_3.out) J21) (fun k_ hk => ⟨trivial, hk.2⟩))) (fun _ h_ => Or.inr (Or.inl h_))) (Kd.R_mono (Kd.R_tight rfl (Kd.R_mono (ok' := fun k_ => ((fun _ => True)) k_ ∧ some k_ ≠ (.slice Ao8 x3_1.length co8 : Value).ownBlock) (Kd.R_apart' (HO408.out) (Kd.S_typed HO_3.out) J21) (fun k_ hk => ⟨trivial, hk.2⟩))) (fun _ h_ => Or.inr (Or.inr (h_)))))
      (case aB => exact J0)
      (case aF => exact (fun _ _ => trivial))
      (case aO => exact (by (with_reducible repeat (first | apply Kd.S_alloc | apply Kd.S_drewN | apply Kd.S_drew)); exact Kd.S_mono HO_3.out (fun k_ hk => ⟨trivial, fun e_ => e_.elim (fun h_ => hk.1.1 h_) (fun h_ => h_.elim (fun h_ => hk.1.2 h_) (fun h_ => hk.2 h_))⟩)))
      (case aS => exact (below_size J0))
      (case aL => have := LMc7.out; omega)
      intro v410 w23 ho hb hg hat
      rw [← Ny409.out] at ho
      have n0_ := Aside0.mk (hb)
      have n1_ := Aside0.mk (ho)
      clear HB
      clear HO_3
      clear HO394
      clear HO401
      clear HO408
      have HB := n0_
      have HO411 := n1_
      clear n0_ n1_
      clear ho hb hg hat
      refine hK.out _ _ ⟨((HB.out.cell (World.block_lt_of_cell? w _ hw387_0)).trans hw387_0), ((HB.out.cell (World.block_lt_of_cell? w _ hw387_1)).trans hw387_1), ((HB.out.cell (World.block_lt_of_cell? w _ hw387_2)).trans hw387_2), ((HB.out.cell (World.block_lt_of_cell? w _ hw387_3)).trans hw387_3)⟩ (fun hHeld => ?_)
      clear hK K
      refine norm_ (a' := ?_) ?_ ?_
      rotate_left
      · show Act.put _ (some 40) _ = _
        simp only [Act.put, List.setIfInBounds_toArray, List.set_cons_zero, List.set_cons_succ, i64_w, i32_w]
        rfl
      refine pure_ (i := 30) (N := some 3) (v := ?_) (a' := ?_) #[true, true, true, true, true, true, true, true, true, true, true, true, true, true, true, true, true, true, true, true, true, true, true, true, true, true, true, true, true, true, true] rfl rfl (any_of HT_.out J8) (fun _ _ _ h => h) (Or.inl ⟨J47, ?_⟩) ?_ ?_
      rotate_left
      · intro w'
        go_simp
        with_reducible rfl
      rotate_left
      · simp only [Act.put, List.setIfInBounds_toArray, List.set_cons_zero, List.set_cons_succ, i64_w, i32_w]
        rfl
      refine done_ (done_of HT_.out J8) ?_
      try go_wp2
      go_roundg k1
      case measure => have := HK1.out; omega
      case rel => exact ⟨(y409), (wrap64 (x4_1 + 1)), J4, H', ⟨J51⟩, ⟨by (with_reducible repeat (first | apply Kd.S_alloc | apply Kd.S_drewN | apply Kd.S_drew)); exact HO411.out⟩, ⟨J0⟩⟩
end Go.Proofs.Ytgbmbcippldhnaa.HArrayTells
