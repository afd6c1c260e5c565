/- Words and walks, shortened by a program: what this claim's functions answer, and that other memory stays. -/
import Derived.Test.YtecdklheppcihaaSTightTellsx0
import Derived.Test.YtecdklheppcihaaSTightTellsx1
import Derived.Test.YtecdklheppcihaaSTightTellsx11
namespace Go.Proofs.Ytecdklheppcihaa.HTightTells
open Go.RowKit Go.Proofs.YtecdklheppcihaaW.PrintWords Go.Proofs.YtecdklheppcihaaW.PrintWords.Kd Go.Proofs.YtecdklheppcihaaW.PrintLast Go.Proofs.YtecdklheppcihaaW.PrintMore Go.Proofs.YtecdklheppcihaaW.PrintMore.Kd
attribute [local go_sem] Xbp Xbn Xbu Xbt Xbg Xbf Xbo Xbm
set_option linter.unusedVariables false
set_option linter.unusedSimpArgs false
attribute [local go_sem high] eqA38
def deckleref10_Same.l0 : Nat → List (S30) → List (S30) → Int → Option (Bool)
 | 0, _, _, _ => none
 | k + 1, x0, x1, x5 => if x5 < (x0.length : Int) then (if 0 ≤ x5 then (if x5 < (x1.length : Int) then ((X5.f k ((Xa x0 x5).f0) ((Xa x0 x5).f1) ((Xa x0 x5).f2) ((Xa x0 x5).f3) ((Xa x1 x5).f0) ((Xa x1 x5).f1) ((Xa x1 x5).f2) ((Xa x1 x5).f3)).bind fun t353 => (if t353 = true then (deckleref10_Same.l0 k x0 x1 (wrap64 (x5 + 1))) else (some false))) else (none)) else (none)) else (some true)
def deckleref10_Same.f (k : Nat) (l0 : List (S30)) (l1 : List (S30)) : Option (Bool) := if (l0.length : Int) = (l1.length : Int) then (deckleref10_Same.l0 k l0 l1 0) else (some false)
theorem deckleref10_Same.mono_l : ∀ k, (∀ y0 y1 y2, LeO (deckleref10_Same.l0 k y0 y1 y2) (deckleref10_Same.l0 (k + 1) y0 y1 y2))
 | 0 => fun _ _ _ r h => by simp [deckleref10_Same.l0] at h
 | k + 1 => by
  have ih0 := deckleref10_Same.mono_l k
  ·intro y0 y1 y2
   unfold deckleref10_Same.l0
   have im0 := @X5.mono
   exact mz3
theorem deckleref10_Same.mono : ∀ a0 a1 k, LeO (deckleref10_Same.f k a0 a1) (deckleref10_Same.f (k + 1) a0 a1) := by
 intro a0 a1 k
 have ih0 := deckleref10_Same.mono_l k
 unfold deckleref10_Same.f
 have im0 := @X5.mono
 exact mz3
def deckleref10_Same.T6 : Bool × List (List Nat × List Nat) := (true, [([], []), ([], []), ([0, 1], [0, 1]), ([2], [2]), ([], []), ([], []), ([4, 5], [4, 5]), ([6], [6]), ([3, 7], [3, 7]), ([8], [8])])
def deckleref10_Same.B6 : List Nat := [0, 0, 3, 7, 0, 0, 48, 112, 255, 511]
theorem deckleref10_Same.tab6 : Xch .any (opsOf Try.f16 6) = deckleref10_Same.T6 := J17
theorem deckleref10_Same.bits6 : Xcf deckleref10_Same.T6.2 deckleref10_Same.B6 = true := J17
set_option maxHeartbeats 8000000 in
set_option maxRecDepth 100000 in
theorem deckleref10_Same.calls (k : Nat) (A0 : Option Addr) (c0 : Nat) (l0 : List (S30)) (A1 : Option Addr) (c1 : Nat) (l1 : List (S30)) (r : Bool) (w : World) (hr0 : Kd.C k30 w A0 l0.length l0) (hc0 : l0.length ≤ c0) (hr1 : Kd.C k30 w A1 l1.length l1) (hc1 : l1.length ≤ c1) (h : deckleref10_Same.f k l0 l1 = some r) :
  Calls Try.prog 16 #[.slice A0 l0.length c0, .slice A1 l1.length c1] w fun e w' => e = .returned (.bool r) ∧ Below w.heap.size w w' := by
 have hu30 := Try.underlying30
 have HR0 := zq hr0
 have HC0 := zq hc0
 clear hr0 hc0
 have HR1 := zq hr1
 have HC1 := zq hc1
 clear hr1 hc1
 have HB := zq (Below.refl w.heap.size w)
 unfold deckleref10_Same.f at h
 have H := h
 clear h
 refine yE H ?_ ?_ <;> clear H <;> rintro ⟨c3b0, c3b1, c3⟩ H
 ·have c3b2 : (l0.length == l1.length) = false := by first | simpa using c3 | (simp at c3 ⊢; omega)
  obtain rfl := yo H
  go_enter Try.func16, Try.ntmps16
  go_wp2
  go_ret
  exact ⟨J1, J0⟩
 have c3b2 : (l0.length == l1.length) = true := J112
 clear c3
 have H' := zq H
 clear H
 go_enter Try.func16, Try.ntmps16
 go_wp2
 go_loopg [5] k (fun kq v5 w' => ∃ (x5_1 : Int), v5 = .int .i64 x5_1 ∧ Aside0 (deckleref10_Same.l0 kq l0 l1 x5_1 = some r) ∧ Aside0 (kq ≤ k) ∧ Aside0 (Below w.heap.size w w'))
 case atStart => exact ⟨(0), J4, H', ⟨Nat.le_refl _⟩, ⟨J0⟩⟩
 case round =>
  clear H'
  try clear c1
  try clear c3
  try clear c3b0
  try clear c3b1
  try clear c3b2
  obtain ⟨x5_1, rfl, HA, HK1, HB⟩ := hrel
  cases gk with
  | zero => exact absurd HA.out (by simp [deckleref10_Same.l0])
  | succ k1 =>
   have H := HA.out
   clear HA
   simp only [deckleref10_Same.l0] at H
   refine yd H ?_ ?_ <;> clear H <;> rintro c4b0 H
   ·obtain rfl := yo H
    go_wp2
    go_ret
    exact ⟨J1, J0⟩
   refine yj H ?_; clear H; intro c5b0 H
   refine yj H ?_; clear H; intro c6b0 H
   refine yv H ?_; clear H; rintro t353 A7 H
   refine yB H ?_ ?_ <;> clear H <;> rintro rfl H
   ·obtain rfl := yo H
    try go_wp2
    replace HB := zq (X9 HB.out)
    have p351 : 0 ≤ (x5_1 : Int) := of_decide_eq_true J2
    have q351 : x5_1 < (l0.length : Int) := of_decide_eq_true J2
    obtain ⟨ad351, A351_1, c351_1, A351_2, c351_2, A351_3, c351_3, e351, hx351_0, hx351_1, hx351_2, hx351_3, hl351_1, hi351_1, hl351_2, hi351_2, hl351_3, hi351_3⟩ := Xb4 HR0.out x5_1 p351 q351
    have hw351_3 := hx351_3
    have hw351_2 := hx351_2
    have hw351_1 := hx351_1
    have hw351_0 := hx351_0
    cases e351
    replace hx351_0 := yh HB hx351_0
    replace hx351_1 := yh HB hx351_1
    replace hx351_2 := yh HB hx351_2
    replace hx351_3 := yh HB hx351_3
    have HR351_1 := zq hi351_1
    have HC351_1 := zq hl351_1
    clear hi351_1 hl351_1
    have HR351_2 := zq hi351_2
    have HC351_2 := zq hl351_2
    clear hi351_2 hl351_2
    have HR351_3 := zq hi351_3
    have HC351_3 := zq hl351_3
    clear hi351_3 hl351_3
    replace p351 := eq_true p351
    replace q351 := eq_true q351
    have p352 : 0 ≤ (x5_1 : Int) := of_decide_eq_true J2
    have q352 : x5_1 < (l1.length : Int) := of_decide_eq_true J2
    obtain ⟨ad352, A352_1, c352_1, A352_2, c352_2, A352_3, c352_3, e352, hx352_0, hx352_1, hx352_2, hx352_3, hl352_1, hi352_1, hl352_2, hi352_2, hl352_3, hi352_3⟩ := Xb4 HR1.out x5_1 p352 q352
    have hw352_3 := hx352_3
    have hw352_2 := hx352_2
    have hw352_1 := hx352_1
    have hw352_0 := hx352_0
    cases e352
    replace hx352_0 := yh HB hx352_0
    replace hx352_1 := yh HB hx352_1
    replace hx352_2 := yh HB hx352_2
    replace hx352_3 := yh HB hx352_3
    have HR352_1 := zq hi352_1
    have HC352_1 := zq hl352_1
    clear hi352_1 hl352_1
    have HR352_2 := zq hi352_2
    have HC352_2 := zq hl352_2
    clear hi352_2 hl352_2
    have HR352_3 := zq hi352_3
    have HC352_3 := zq hl352_3
    clear hi352_3 hl352_3
    replace p352 := eq_true p352
    replace q352 := eq_true q352
    refine Xdb (n := 10) (S := fun w' => hdENEN w' (ad351.add ((x5_1).toNat * 4)) (Xa l0 x5_1) A351_1 c351_1 A351_2 c351_2 A351_3 c351_3 (ad352.add ((x5_1).toNat * 4)) (Xa l1 x5_1) A352_1 c352_1 A352_2 c352_2 A352_3 c352_3) (ds := []) #[Z,Z,Z,Z,Z,Z,Z,Z,Z,Z] J17 rfl rfl ⟨(yh HB hw351_0), (yh HB hw351_1), (yh HB hw351_2), (yh HB hw351_3), (yh HB hw352_0), (yh HB hw352_1), (yh HB hw352_2), (yh HB hw352_3)⟩ (fun hHeld => ?_); refine Xb9 deckleref10_Same.tab6 deckleref10_Same.bits6 (fun HT_ HW_ => ?_)
    generalize wr.drew = w11 at HB HR351_1 HR351_2 HR351_3 HR352_1 HR352_2 HR352_3 hx351_0 hx351_1 hx351_2 hx351_3 hx352_0 hx352_1 hx352_2 hx352_3 hHeld ⊢
    refine Xax 0 17 #[Y,Z,Z,Z,Z,Z,Z,Z,Z,Z] HT_ ?_
    refine Xax 1 18 #[Y,Y,Z,Z,Z,Z,Z,Z,Z,Z] HT_ ?_
    refine Xax 2 19 #[Y,Y,Y,Z,Z,Z,Z,Z,Z,Z] HT_ ?_
    refine Xax 4 21 #[Y,Y,Y,Z,Y,Z,Z,Z,Z,Z] HT_ ?_
    refine Xax 5 22 #[Y,Y,Y,Z,Y,Y,Z,Z,Z,Z] HT_ ?_
    refine Xax 6 23 #[Y,Y,Y,Z,Y,Y,Y,Z,Z,Z] HT_ ?_
    refine Xcq (i := 3) (N := some 20) (v := ?_) (a' := ?_) #[Y,Y,Y,Y,Y,Y,Y,Z,Z,Z] rfl rfl (Xbw HT_.out HW_.out J17) (fun _ _ _ h => h) (Or.inl ⟨J63, ?_⟩) hHeld ?_ ?_
    rotate_left
    ·rintro w' ⟨s0, s1, s2, s3, s4, s5, s6, s7⟩
     go_simp
     with_reducible rfl
    rotate_left
    ·exact pz1
    refine Xcq (i := 7) (N := some 24) (v := ?_) (a' := ?_) #[Y,Y,Y,Y,Y,Y,Y,Y,Z,Z] rfl rfl (Xbw HT_.out HW_.out J17) (fun _ _ _ h => h) (Or.inl ⟨J63, ?_⟩) hHeld ?_ ?_
    rotate_left
    ·rintro w' ⟨s0, s1, s2, s3, s4, s5, s6, s7⟩
     go_simp
     with_reducible rfl
    rotate_left
    ·exact pz1
    refine Xcb (i := 8) (N := some 25) #[Y,Y,Y,Y,Y,Y,Y,Y,Y,Z] rfl rfl (Xbl HT_.out J17) J14 (fun K hK => ?_)
    refine Xcx Try.func17 J17 rfl #[.agg #[.int .i64 ((Xa l0 x5_1).f0), .slice A351_1 ((Xa l0 x5_1).f1).length c351_1, .slice A351_2 ((Xa l0 x5_1).f2).length c351_2, .slice A351_3 ((Xa l0 x5_1).f3).length c351_3], .agg #[.int .i64 ((Xa l1 x5_1).f0), .slice A352_1 ((Xa l1 x5_1).f1).length c352_1, .slice A352_2 ((Xa l1 x5_1).f2).length c352_2, .slice A352_3 ((Xa l1 x5_1).f3).length c352_3]] J63 rfl rfl J3 ?_
    with_reducible refine (X5.calls k1 ((Xa l0 x5_1).f0) _ _ ((Xa l0 x5_1).f1) _ _ ((Xa l0 x5_1).f2) _ _ ((Xa l0 x5_1).f3) ((Xa l1 x5_1).f0) _ _ ((Xa l1 x5_1).f1) _ _ ((Xa l1 x5_1).f2) _ _ ((Xa l1 x5_1).f3) false _ ?side1 ?side2 ?side3 ?side4 ?side5 ?side6 ?side7 ?side8 ?side9 ?side10 ?side11 ?side12 A7.out).mono ?_
    (case side1 => exact zc (ac HR351_1.out HB.out))
    (case side2 => exact HC351_1.out)
    (case side3 => exact zc (ac HR351_2.out HB.out))
    (case side4 => exact HC351_2.out)
    (case side5 => exact zc (ac HR351_3.out HB.out))
    (case side6 => exact HC351_3.out)
    (case side7 => exact zc (ac HR352_1.out HB.out))
    (case side8 => exact HC352_1.out)
    (case side9 => exact zc (ac HR352_2.out HB.out))
    (case side10 => exact HC352_2.out)
    (case side11 => exact zc (ac HR352_3.out HB.out))
    (case side12 => exact HC352_3.out)
    rintro e w12 ⟨rfl, hb⟩
    refine ⟨_, rfl, ?_⟩
    replace HB := zq (Xe J0 hb)
    (try clear hb)
    (try clear hb2)
    (try clear hk)
    (try clear hi)
    refine hK.out _ _ ⟨(yh HB hw351_0), (yh HB hw351_1), (yh HB hw351_2), (yh HB hw351_3), (yh HB hw352_0), (yh HB hw352_1), (yh HB hw352_2), (yh HB hw352_3)⟩ (fun hHeld => ?_)
    clear hK K
    refine Xap (a' := ?_) ?_ ?_
    rotate_left
    ·show Act.put _ (some 25) _ = _
     simp only [Act.put, List.setIfInBounds_toArray, List.set_cons_zero, List.set_cons_succ, Xan, Xaq]
     rfl
    refine Xax 9 26 #[Y,Y,Y,Y,Y,Y,Y,Y,Y,Y] HT_ ?_
    refine Xd3 (Xcw HT_.out J17) ?_
    try go_wp2
    go_ret
    exact ⟨J1, J0⟩
   have H' := zq H
   clear H
   try go_wp2
   replace HB := zq (X9 HB.out)
   have p351 : 0 ≤ (x5_1 : Int) := of_decide_eq_true J2
   have q351 : x5_1 < (l0.length : Int) := of_decide_eq_true J2
   obtain ⟨ad351, A351_1, c351_1, A351_2, c351_2, A351_3, c351_3, e351, hx351_0, hx351_1, hx351_2, hx351_3, hl351_1, hi351_1, hl351_2, hi351_2, hl351_3, hi351_3⟩ := Xb4 HR0.out x5_1 p351 q351
   have hw351_3 := hx351_3
   have hw351_2 := hx351_2
   have hw351_1 := hx351_1
   have hw351_0 := hx351_0
   cases e351
   replace hx351_0 := yh HB hx351_0
   replace hx351_1 := yh HB hx351_1
   replace hx351_2 := yh HB hx351_2
   replace hx351_3 := yh HB hx351_3
   have HR351_1 := zq hi351_1
   have HC351_1 := zq hl351_1
   clear hi351_1 hl351_1
   have HR351_2 := zq hi351_2
   have HC351_2 := zq hl351_2
   clear hi351_2 hl351_2
   have HR351_3 := zq hi351_3
   have HC351_3 := zq hl351_3
   clear hi351_3 hl351_3
   replace p351 := eq_true p351
   replace q351 := eq_true q351
   have p352 : 0 ≤ (x5_1 : Int) := of_decide_eq_true J2
   have q352 : x5_1 < (l1.length : Int) := of_decide_eq_true J2
   obtain ⟨ad352, A352_1, c352_1, A352_2, c352_2, A352_3, c352_3, e352, hx352_0, hx352_1, hx352_2, hx352_3, hl352_1, hi352_1, hl352_2, hi352_2, hl352_3, hi352_3⟩ := Xb4 HR1.out x5_1 p352 q352
   have hw352_3 := hx352_3
   have hw352_2 := hx352_2
   have hw352_1 := hx352_1
   have hw352_0 := hx352_0
   cases e352
   replace hx352_0 := yh HB hx352_0
   replace hx352_1 := yh HB hx352_1
   replace hx352_2 := yh HB hx352_2
   replace hx352_3 := yh HB hx352_3
   have HR352_1 := zq hi352_1
   have HC352_1 := zq hl352_1
   clear hi352_1 hl352_1
   have HR352_2 := zq hi352_2
   have HC352_2 := zq hl352_2
   clear hi352_2 hl352_2
   have HR352_3 := zq hi352_3
   have HC352_3 := zq hl352_3
   clear hi352_3 hl352_3
   replace p352 := eq_true p352
   replace q352 := eq_true q352
   refine Xdb (n := 10) (S := fun w' => hdENEN w' (ad351.add ((x5_1).toNat * 4)) (Xa l0 x5_1) A351_1 c351_1 A351_2 c351_2 A351_3 c351_3 (ad352.add ((x5_1).toNat * 4)) (Xa l1 x5_1) A352_1 c352_1 A352_2 c352_2 A352_3 c352_3) (ds := []) #[Z,Z,Z,Z,Z,Z,Z,Z,Z,Z] J17 rfl rfl ⟨(yh HB hw351_0), (yh HB hw351_1), (yh HB hw351_2), (yh HB hw351_3), (yh HB hw352_0), (yh HB hw352_1), (yh HB hw352_2), (yh HB hw352_3)⟩ (fun hHeld => ?_); refine Xb9 deckleref10_Same.tab6 deckleref10_Same.bits6 (fun HT_ HW_ => ?_)
   generalize wr.drew = w9 at HB HR351_1 HR351_2 HR351_3 HR352_1 HR352_2 HR352_3 hx351_0 hx351_1 hx351_2 hx351_3 hx352_0 hx352_1 hx352_2 hx352_3 hHeld ⊢
   refine Xax 0 17 #[Y,Z,Z,Z,Z,Z,Z,Z,Z,Z] HT_ ?_
   refine Xax 1 18 #[Y,Y,Z,Z,Z,Z,Z,Z,Z,Z] HT_ ?_
   refine Xax 2 19 #[Y,Y,Y,Z,Z,Z,Z,Z,Z,Z] HT_ ?_
   refine Xax 4 21 #[Y,Y,Y,Z,Y,Z,Z,Z,Z,Z] HT_ ?_
   refine Xax 5 22 #[Y,Y,Y,Z,Y,Y,Z,Z,Z,Z] HT_ ?_
   refine Xax 6 23 #[Y,Y,Y,Z,Y,Y,Y,Z,Z,Z] HT_ ?_
   refine Xcq (i := 3) (N := some 20) (v := ?_) (a' := ?_) #[Y,Y,Y,Y,Y,Y,Y,Z,Z,Z] rfl rfl (Xbw HT_.out HW_.out J17) (fun _ _ _ h => h) (Or.inl ⟨J63, ?_⟩) hHeld ?_ ?_
   rotate_left
   ·rintro w' ⟨s0, s1, s2, s3, s4, s5, s6, s7⟩
    go_simp
    with_reducible rfl
   rotate_left
   ·exact pz1
   refine Xcq (i := 7) (N := some 24) (v := ?_) (a' := ?_) #[Y,Y,Y,Y,Y,Y,Y,Y,Z,Z] rfl rfl (Xbw HT_.out HW_.out J17) (fun _ _ _ h => h) (Or.inl ⟨J63, ?_⟩) hHeld ?_ ?_
   rotate_left
   ·rintro w' ⟨s0, s1, s2, s3, s4, s5, s6, s7⟩
    go_simp
    with_reducible rfl
   rotate_left
   ·exact pz1
   refine Xcb (i := 8) (N := some 25) #[Y,Y,Y,Y,Y,Y,Y,Y,Y,Z] rfl rfl (Xbl HT_.out J17) J14 (fun K hK => ?_)
   refine Xcx Try.func17 J17 rfl #[.agg #[.int .i64 ((Xa l0 x5_1).f0), .slice A351_1 ((Xa l0 x5_1).f1).length c351_1, .slice A351_2 ((Xa l0 x5_1).f2).length c351_2, .slice A351_3 ((Xa l0 x5_1).f3).length c351_3], .agg #[.int .i64 ((Xa l1 x5_1).f0), .slice A352_1 ((Xa l1 x5_1).f1).length c352_1, .slice A352_2 ((Xa l1 x5_1).f2).length c352_2, .slice A352_3 ((Xa l1 x5_1).f3).length c352_3]] J63 rfl rfl J3 ?_
   with_reducible refine (X5.calls k1 ((Xa l0 x5_1).f0) _ _ ((Xa l0 x5_1).f1) _ _ ((Xa l0 x5_1).f2) _ _ ((Xa l0 x5_1).f3) ((Xa l1 x5_1).f0) _ _ ((Xa l1 x5_1).f1) _ _ ((Xa l1 x5_1).f2) _ _ ((Xa l1 x5_1).f3) true _ ?side1 ?side2 ?side3 ?side4 ?side5 ?side6 ?side7 ?side8 ?side9 ?side10 ?side11 ?side12 A7.out).mono ?_
   (case side1 => exact zc (ac HR351_1.out HB.out))
   (case side2 => exact HC351_1.out)
   (case side3 => exact zc (ac HR351_2.out HB.out))
   (case side4 => exact HC351_2.out)
   (case side5 => exact zc (ac HR351_3.out HB.out))
   (case side6 => exact HC351_3.out)
   (case side7 => exact zc (ac HR352_1.out HB.out))
   (case side8 => exact HC352_1.out)
   (case side9 => exact zc (ac HR352_2.out HB.out))
   (case side10 => exact HC352_2.out)
   (case side11 => exact zc (ac HR352_3.out HB.out))
   (case side12 => exact HC352_3.out)
   rintro e w10 ⟨rfl, hb⟩
   refine ⟨_, rfl, ?_⟩
   replace HB := zq (Xe J0 hb)
   (try clear hb)
   (try clear hb2)
   (try clear hk)
   (try clear hi)
   refine hK.out _ _ ⟨(yh HB hw351_0), (yh HB hw351_1), (yh HB hw351_2), (yh HB hw351_3), (yh HB hw352_0), (yh HB hw352_1), (yh HB hw352_2), (yh HB hw352_3)⟩ (fun hHeld => ?_)
   clear hK K
   refine Xap (a' := ?_) ?_ ?_
   rotate_left
   ·show Act.put _ (some 25) _ = _
    simp only [Act.put, List.setIfInBounds_toArray, List.set_cons_zero, List.set_cons_succ, Xan, Xaq]
    rfl
   refine Xax 9 26 #[Y,Y,Y,Y,Y,Y,Y,Y,Y,Y] HT_ ?_
   refine Xd3 (Xcw HT_.out J17) ?_
   try go_wp2
   go_roundg k1
   case measure => have := HK1.out; omega
   case rel => exact ⟨(wrap64 (x5_1 + 1)), J4, H', ⟨J84⟩, ⟨J0⟩⟩
def Xr.l0 : Nat → List Int → List Int → Int → Int → Option (Bool)
 | 0, _, _, _, _ => none
 | k + 1, x0, x1, x12, x13 => if x13 < x12 then (if 0 ≤ x13 then (if x13 < (x0.length : Int) then (if x13 < (x1.length : Int) then (if (rd x0 x13) = (rd x1 x13) then (Xr.l0 k x0 x1 x12 (wrap64 (x13 + 1))) else (some false)) else (none)) else (none)) else (none)) else (some true)
def Xr.f (k : Nat) (l0 : List Int) (l1 : List Int) : Option (Bool) := if (l0.length : Int) = (l1.length : Int) then (Xr.l0 k l0 l1 (l0.length : Int) 0) else (some false)
theorem Xr.mono_l : ∀ k, (∀ y0 y1 y2 y3, LeO (Xr.l0 k y0 y1 y2 y3) (Xr.l0 (k + 1) y0 y1 y2 y3))
 | 0 => fun _ _ _ _ r h => by simp [Xr.l0] at h
 | k + 1 => by
  have ih0 := Xr.mono_l k
  ·intro y0 y1 y2 y3
   unfold Xr.l0
   exact mz0
theorem Xr.mono : ∀ a0 a1 k, LeO (Xr.f k a0 a1) (Xr.f (k + 1) a0 a1) := by
 intro a0 a1 k
 have ih0 := Xr.mono_l k
 unfold Xr.f
 exact mz0
set_option maxHeartbeats 8000000 in
set_option maxRecDepth 100000 in
theorem Xr.calls (k : Nat) (A0 : Option Addr) (c0 : Nat) (l0 : List Int) (A1 : Option Addr) (c1 : Nat) (l1 : List Int) (r : Bool) (w : World) (hr0 : Kd.C (Kd.int .i64) w A0 l0.length l0) (hc0 : l0.length ≤ c0) (hr1 : Kd.C (Kd.int .i64) w A1 l1.length l1) (hc1 : l1.length ≤ c1) (h : Xr.f k l0 l1 = some r) :
  Calls Try.prog 63 #[.slice A0 l0.length c0, .slice A1 l1.length c1] w fun e w' => e = .returned (.bool r) ∧ Drawn0 w w' := by
 have HR0 := zq hr0
 have HC0 := zq hc0
 clear hr0 hc0
 have HR1 := zq hr1
 have HC1 := zq hc1
 clear hr1 hc1
 unfold Xr.f at h
 have H := h
 clear h
 refine yE H ?_ ?_ <;> clear H <;> rintro ⟨c3b0, c3b1, c3⟩ H
 ·have c3b2 : (l0.length == l1.length) = false := by first | simpa using c3 | (simp at c3 ⊢; omega)
  obtain rfl := yo H
  go_enter Try.func63, Try.ntmps63
  go_wp2
  repeat (go_quiet (fail); try go_wp2)
  go_ret
  exact ⟨J4, J9⟩
 have c3b2 : (l0.length == l1.length) = true := J112
 clear c3
 have H' := zq H
 clear H
 go_enter Try.func63, Try.ntmps63
 go_wp2
 repeat (go_quiet (fail); try go_wp2)
 go_loopg [13] k (fun kq v13 w' => ∃ (x13_1 : Int), v13 = .int .i64 x13_1 ∧ Aside0 (Xr.l0 kq l0 l1 (l0.length : Int) x13_1 = some r) ∧ Aside0 (kq ≤ k) ∧ Drawn0 w w')
 case atStart => exact ⟨(0), J4, H', ⟨Nat.le_refl _⟩, J9⟩
 case round =>
  clear H'
  try clear c1
  try clear c3
  try clear c3b0
  try clear c3b1
  try clear c3b2
  obtain ⟨x13_1, rfl, HA, HK1, ⟨m1, rfl⟩⟩ := hrel
  cases gk with
  | zero => exact absurd HA.out (by simp [Xr.l0])
  | succ k1 =>
   have H := HA.out
   clear HA
   simp only [Xr.l0] at H
   refine yd H ?_ ?_ <;> clear H <;> rintro c4b0 H
   ·obtain rfl := yo H
    go_wp2
    repeat (go_quiet (fail); try go_wp2)
    go_ret
    exact ⟨J4, J9⟩
   refine yj H ?_; clear H; intro c5b0 H
   refine yj H ?_; clear H; intro c6b0 H
   refine yj H ?_; clear H; intro c7b0 H
   refine yE H ?_ ?_ <;> clear H <;> rintro ⟨c8b0, c8b1, c8⟩ H
   ·obtain rfl := yo H
    have p354 : 0 ≤ (x13_1 : Int) := of_decide_eq_true J2
    have q354 : x13_1 < (l0.length : Int) := of_decide_eq_true J2
    obtain ⟨ad354, e354, hx354_0⟩ := Kd.at_int HR0.out x13_1 p354 q354
    cases e354
    replace p354 := eq_true p354
    replace q354 := eq_true q354
    have p355 : 0 ≤ (x13_1 : Int) := of_decide_eq_true J2
    have q355 : x13_1 < (l1.length : Int) := of_decide_eq_true J2
    obtain ⟨ad355, e355, hx355_0⟩ := Kd.at_int HR1.out x13_1 p355 q355
    cases e355
    replace p355 := eq_true p355
    replace q355 := eq_true q355
    go_wp2
    repeat (go_quiet (fail); try go_wp2)
    go_ret
    exact ⟨J4, J9⟩
   clear c8
   have H' := zq H
   clear H
   have p354 : 0 ≤ (x13_1 : Int) := of_decide_eq_true J2
   have q354 : x13_1 < (l0.length : Int) := of_decide_eq_true J2
   obtain ⟨ad354, e354, hx354_0⟩ := Kd.at_int HR0.out x13_1 p354 q354
   cases e354
   replace p354 := eq_true p354
   replace q354 := eq_true q354
   have p355 : 0 ≤ (x13_1 : Int) := of_decide_eq_true J2
   have q355 : x13_1 < (l1.length : Int) := of_decide_eq_true J2
   obtain ⟨ad355, e355, hx355_0⟩ := Kd.at_int HR1.out x13_1 p355 q355
   cases e355
   replace p355 := eq_true p355
   replace q355 := eq_true q355
   go_wp2
   repeat (go_quiet (fail); try go_wp2)
   go_roundg k1
   case measure => have := HK1.out; omega
   case rel => exact ⟨(wrap64 (x13_1 + 1)), J4, H', ⟨J84⟩, J9⟩
def Xa2.l0 : Nat → List (S38) → List (S38) → Int → Int → Option (Bool)
 | 0, _, _, _, _ => none
 | k + 1, x0, x1, x12, x13 => if x13 < x12 then (if 0 ≤ x13 then (if x13 < (x0.length : Int) then (if x13 < (x1.length : Int) then (if (!(((Xt x0 x13).f0) == ((Xt x1 x13).f0)) || (!(((Xt x0 x13).f1) == ((Xt x1 x13).f1)))) = true then (some false) else (Xa2.l0 k x0 x1 x12 (wrap64 (x13 + 1)))) else (none)) else (none)) else (none)) else (some true)
def Xa2.f (k : Nat) (l0 : List (S38)) (l1 : List (S38)) : Option (Bool) := if (l0.length : Int) = (l1.length : Int) then (Xa2.l0 k l0 l1 (l0.length : Int) 0) else (some false)
theorem Xa2.mono_l : ∀ k, (∀ y0 y1 y2 y3, LeO (Xa2.l0 k y0 y1 y2 y3) (Xa2.l0 (k + 1) y0 y1 y2 y3))
 | 0 => fun _ _ _ _ r h => by simp [Xa2.l0] at h
 | k + 1 => by
  have ih0 := Xa2.mono_l k
  ·intro y0 y1 y2 y3
   unfold Xa2.l0
   exact mz0
theorem Xa2.mono : ∀ a0 a1 k, LeO (Xa2.f k a0 a1) (Xa2.f (k + 1) a0 a1) := by
 intro a0 a1 k
 have ih0 := Xa2.mono_l k
 unfold Xa2.f
 exact mz0
set_option maxHeartbeats 8000000 in
set_option maxRecDepth 100000 in
theorem Xa2.calls (k : Nat) (A0 : Option Addr) (c0 : Nat) (l0 : List (S38)) (A1 : Option Addr) (c1 : Nat) (l1 : List (S38)) (r : Bool) (w : World) (hr0 : Kd.C k38 w A0 l0.length l0) (hc0 : l0.length ≤ c0) (hr1 : Kd.C k38 w A1 l1.length l1) (hc1 : l1.length ≤ c1) (h : Xa2.f k l0 l1 = some r) :
  Calls Try.prog 64 #[.slice A0 l0.length c0, .slice A1 l1.length c1] w fun e w' => e = .returned (.bool r) ∧ Drawn0 w w' := by
 have hu38 := Try.underlying38
 have HR0 := zq hr0
 have HC0 := zq hc0
 clear hr0 hc0
 have HR1 := zq hr1
 have HC1 := zq hc1
 clear hr1 hc1
 unfold Xa2.f at h
 have H := h
 clear h
 refine yE H ?_ ?_ <;> clear H <;> rintro ⟨c3b0, c3b1, c3⟩ H
 ·have c3b2 : (l0.length == l1.length) = false := by first | simpa using c3 | (simp at c3 ⊢; omega)
  obtain rfl := yo H
  go_enter Try.func64, Try.ntmps64
  go_wp2
  repeat (go_quiet (fail); try go_wp2)
  go_ret
  exact ⟨J4, J9⟩
 have c3b2 : (l0.length == l1.length) = true := J112
 clear c3
 have H' := zq H
 clear H
 go_enter Try.func64, Try.ntmps64
 go_wp2
 repeat (go_quiet (fail); try go_wp2)
 go_loopg [13] k (fun kq v13 w' => ∃ (x13_1 : Int), v13 = .int .i64 x13_1 ∧ Aside0 (Xa2.l0 kq l0 l1 (l0.length : Int) x13_1 = some r) ∧ Aside0 (kq ≤ k) ∧ Drawn0 w w')
 case atStart => exact ⟨(0), J4, H', ⟨Nat.le_refl _⟩, J9⟩
 case round =>
  clear H'
  try clear c1
  try clear c3
  try clear c3b0
  try clear c3b1
  try clear c3b2
  obtain ⟨x13_1, rfl, HA, HK1, ⟨m1, rfl⟩⟩ := hrel
  cases gk with
  | zero => exact absurd HA.out (by simp [Xa2.l0])
  | succ k1 =>
   have H := HA.out
   clear HA
   simp only [Xa2.l0] at H
   refine yd H ?_ ?_ <;> clear H <;> rintro c4b0 H
   ·obtain rfl := yo H
    go_wp2
    repeat (go_quiet (fail); try go_wp2)
    go_ret
    exact ⟨J4, J9⟩
   refine yj H ?_; clear H; intro c5b0 H
   refine yj H ?_; clear H; intro c6b0 H
   refine yj H ?_; clear H; intro c7b0 H
   refine yu H ?_ ?_ <;> clear H <;> rintro c8 H
   ·have c8b0 : (!(((Xt l0 x13_1).f0) == ((Xt l1 x13_1).f0)) || (!(((Xt l0 x13_1).f1) == ((Xt l1 x13_1).f1)))) = true := c8
    clear c8
    obtain rfl := yo H
    obtain ⟨ad356, e356, hx356_0, hx356_1, p356, q356⟩ := rdD HR0.out (Below.refl _ _) x13_1
    cases e356
    obtain ⟨ad357, e357, hx357_0, hx357_1, p357, q357⟩ := rdD HR1.out (Below.refl _ _) x13_1
    cases e357
    go_wp2
    repeat (go_quiet (fail); try go_wp2)
    go_ret
    exact ⟨J4, J9⟩
   have c8b0 : (!(((Xt l0 x13_1).f0) == ((Xt l1 x13_1).f0)) || (!(((Xt l0 x13_1).f1) == ((Xt l1 x13_1).f1)))) = false := by simpa using c8
   clear c8
   have H' := zq H
   clear H
   obtain ⟨ad356, e356, hx356_0, hx356_1, p356, q356⟩ := rdD HR0.out (Below.refl _ _) x13_1
   cases e356
   obtain ⟨ad357, e357, hx357_0, hx357_1, p357, q357⟩ := rdD HR1.out (Below.refl _ _) x13_1
   cases e357
   go_wp2
   repeat (go_quiet (fail); try go_wp2)
   go_roundg k1
   case measure => have := HK1.out; omega
   case rel => exact ⟨(wrap64 (x13_1 + 1)), J4, H', ⟨J84⟩, J9⟩
end Go.Proofs.Ytecdklheppcihaa.HTightTells
