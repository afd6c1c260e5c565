/- What the Go functions of this claim answer, told as functions of numbers and lists, and that other memory stays as it was: words and walks, shortened by a program. -/
import Derived.Test.YtfjhiiaahbjaiaaDoorSSystemFirstx0
import Derived.Test.YtfjhiiaahbjaiaaDoorSSystemFirstx20
namespace Go.Proofs.YtfjhiiaahbjaiaaDoor.HSystemFirst
open Go.RowKit Go.Proofs.YtfjhiiaahbjaiaaDoorW.PrintWords Go.Proofs.YtfjhiiaahbjaiaaDoorW.PrintLast Go.Proofs.YtfjhiiaahbjaiaaDoorW.PrintMore
attribute [local go_sem] Xby Xbw Xcb Xca Xbp Xbo Xbx Xbv
set_option linter.unusedVariables false
set_option linter.unusedSimpArgs false
def deckleref10_Same.l0 : Nat → List (S32) → List (S32) → Int → Option (Bool)
 | 0, _, _, _ => none
 | k + 1, x0, x1, x5 => if x5 < (x0.length : Int) then (if 0 ≤ x5 then (if x5 < (x1.length : Int) then ((Xas.f k ((Xa x0 x5).f0) ((Xa x0 x5).f1) ((Xa x0 x5).f2) ((Xa x0 x5).f3) ((Xa x1 x5).f0) ((Xa x1 x5).f1) ((Xa x1 x5).f2) ((Xa x1 x5).f3)).bind fun t644 => (if t644 = true then (deckleref10_Same.l0 k x0 x1 (wrap64 (x5 + 1))) else (some false))) else (none)) else (none)) else (some true)
def deckleref10_Same.f (k : Nat) (l0 : List (S32)) (l1 : List (S32)) : Option (Bool) := if (l0.length : Int) = (l1.length : Int) then (deckleref10_Same.l0 k l0 l1 0) else (some false)
theorem deckleref10_Same.mono_l : ∀ k, (∀ y0 y1 y2, LeO (deckleref10_Same.l0 k y0 y1 y2) (deckleref10_Same.l0 (k + 1) y0 y1 y2))
 | 0 => fun _ _ _ r h => by simp [deckleref10_Same.l0] at h
 | k + 1 => by
  have ih0 := deckleref10_Same.mono_l k
  ·intro y0 y1 y2
   unfold deckleref10_Same.l0
   have im0 := @Xas.mono
   exact mz3
theorem deckleref10_Same.mono : ∀ a0 a1 k, LeO (deckleref10_Same.f k a0 a1) (deckleref10_Same.f (k + 1) a0 a1) := by
 intro a0 a1 k
 have ih0 := deckleref10_Same.mono_l k
 unfold deckleref10_Same.f
 have im0 := @Xas.mono
 exact mz3
def deckleref10_Same.T6 : Bool × List (List Nat × List Nat) := (true, [([], []), ([], []), ([0, 1], [0, 1]), ([2], [2]), ([], []), ([], []), ([4, 5], [4, 5]), ([6], [6]), ([3, 7], [3, 7]), ([8], [8])])
def deckleref10_Same.B6 : List Nat := [0, 0, 3, 7, 0, 0, 48, 112, 255, 511]
theorem deckleref10_Same.tab6 : Xc8 .any (opsOf Tryd.f14 6) = deckleref10_Same.T6 := J8
theorem deckleref10_Same.bits6 : Xdc deckleref10_Same.T6.2 deckleref10_Same.B6 = true := J8
set_option maxHeartbeats 8000000 in
set_option maxRecDepth 100000 in
theorem deckleref10_Same.calls (k : Nat) (A0 : Option Addr) (c0 : Nat) (l0 : List (S32)) (A1 : Option Addr) (c1 : Nat) (l1 : List (S32)) (r : Bool) (w : World) (hr0 : Kd.C k32 w A0 l0.length l0) (hc0 : l0.length ≤ c0) (hr1 : Kd.C k32 w A1 l1.length l1) (hc1 : l1.length ≤ c1) (h : deckleref10_Same.f k l0 l1 = some r) :
  Calls Tryd.prog 14 #[.slice A0 l0.length c0, .slice A1 l1.length c1] w fun e w' => e = .returned (.bool r) ∧ Below w.heap.size w w' := by
 have hu32 := Tryd.underlying32
 have HR0 := zq hr0
 have HC0 := zq hc0
 clear hr0 hc0
 have HR1 := zq hr1
 have HC1 := zq hc1
 clear hr1 hc1
 have HB := zq (Below.refl w.heap.size w)
 unfold deckleref10_Same.f at h
 have H := h
 clear h
 refine yE H ?_ ?_ <;> clear H <;> rintro ⟨c3b0, c3b1, c3⟩ H
 ·have c3b2 : (l0.length == l1.length) = false := by first | simpa using c3 | (simp at c3 ⊢; omega)
  obtain rfl := yo H
  go_enter Tryd.func14, Tryd.ntmps14
  go_wp2
  go_ret
  exact ⟨J2, J0⟩
 have c3b2 : (l0.length == l1.length) = true := J99
 clear c3
 have H' := zq H
 clear H
 go_enter Tryd.func14, Tryd.ntmps14
 go_wp2
 go_loopg [5] k (fun kq v5 w' => ∃ (x5_1 : Int), v5 = .int .i64 x5_1 ∧ Aside0 (deckleref10_Same.l0 kq l0 l1 x5_1 = some r) ∧ Aside0 (kq ≤ k) ∧ Aside0 (Below w.heap.size w w'))
 case atStart => exact ⟨(0), J4, H', ⟨Nat.le_refl _⟩, ⟨J0⟩⟩
 case round =>
  clear H'
  try clear c1
  try clear c3
  try clear c3b0
  try clear c3b1
  try clear c3b2
  obtain ⟨x5_1, rfl, HA, HK1, HB⟩ := hrel
  cases gk with
  | zero => exact absurd HA.out (by simp [deckleref10_Same.l0])
  | succ k1 =>
   have H := HA.out
   clear HA
   simp only [deckleref10_Same.l0] at H
   refine yd H ?_ ?_ <;> clear H <;> rintro c4b0 H
   ·obtain rfl := yo H
    go_wp2
    go_ret
    exact ⟨J2, J0⟩
   refine yj H ?_; clear H; intro c5b0 H
   refine yj H ?_; clear H; intro c6b0 H
   refine yv H ?_; clear H; rintro t644 A7 H
   refine yB H ?_ ?_ <;> clear H <;> rintro rfl H
   ·obtain rfl := yo H
    try go_wp2
    replace HB := zq (X8 HB.out)
    have p642 : 0 ≤ (x5_1 : Int) := of_decide_eq_true J3
    have q642 : x5_1 < (l0.length : Int) := of_decide_eq_true J3
    obtain ⟨ad642, A642_1, c642_1, A642_2, c642_2, A642_3, c642_3, e642, hx642_0, hx642_1, hx642_2, hx642_3, hl642_1, hi642_1, hl642_2, hi642_2, hl642_3, hi642_3⟩ := Xbz HR0.out x5_1 p642 q642
    have hw642_3 := hx642_3
    have hw642_2 := hx642_2
    have hw642_1 := hx642_1
    have hw642_0 := hx642_0
    cases e642
    replace hx642_0 := yh HB hx642_0
    replace hx642_1 := yh HB hx642_1
    replace hx642_2 := yh HB hx642_2
    replace hx642_3 := yh HB hx642_3
    have HR642_1 := zq hi642_1
    have HC642_1 := zq hl642_1
    clear hi642_1 hl642_1
    have HR642_2 := zq hi642_2
    have HC642_2 := zq hl642_2
    clear hi642_2 hl642_2
    have HR642_3 := zq hi642_3
    have HC642_3 := zq hl642_3
    clear hi642_3 hl642_3
    replace p642 := eq_true p642
    replace q642 := eq_true q642
    have p643 : 0 ≤ (x5_1 : Int) := of_decide_eq_true J3
    have q643 : x5_1 < (l1.length : Int) := of_decide_eq_true J3
    obtain ⟨ad643, A643_1, c643_1, A643_2, c643_2, A643_3, c643_3, e643, hx643_0, hx643_1, hx643_2, hx643_3, hl643_1, hi643_1, hl643_2, hi643_2, hl643_3, hi643_3⟩ := Xbz HR1.out x5_1 p643 q643
    have hw643_3 := hx643_3
    have hw643_2 := hx643_2
    have hw643_1 := hx643_1
    have hw643_0 := hx643_0
    cases e643
    replace hx643_0 := yh HB hx643_0
    replace hx643_1 := yh HB hx643_1
    replace hx643_2 := yh HB hx643_2
    replace hx643_3 := yh HB hx643_3
    have HR643_1 := zq hi643_1
    have HC643_1 := zq hl643_1
    clear hi643_1 hl643_1
    have HR643_2 := zq hi643_2
    have HC643_2 := zq hl643_2
    clear hi643_2 hl643_2
    have HR643_3 := zq hi643_3
    have HC643_3 := zq hl643_3
    clear hi643_3 hl643_3
    replace p643 := eq_true p643
    replace q643 := eq_true q643
    refine Xeh (n := 10) (S := fun w' => w'.cell? (ad642.add ((x5_1).toNat * 4)) = some (.int .i64 ((Xa l0 x5_1).f0)) ∧ w'.cell? ⟨(ad642.add ((x5_1).toNat * 4)).block, (ad642.add ((x5_1).toNat * 4)).off + 1, none⟩ = some (.slice A642_1 ((Xa l0 x5_1).f1).length c642_1) ∧ w'.cell? ⟨(ad642.add ((x5_1).toNat * 4)).block, (ad642.add ((x5_1).toNat * 4)).off + 2, none⟩ = some (.slice A642_2 ((Xa l0 x5_1).f2).length c642_2) ∧ w'.cell? ⟨(ad642.add ((x5_1).toNat * 4)).block, (ad642.add ((x5_1).toNat * 4)).off + 3, none⟩ = some (.slice A642_3 ((Xa l0 x5_1).f3).length c642_3) ∧ w'.cell? (ad643.add ((x5_1).toNat * 4)) = some (.int .i64 ((Xa l1 x5_1).f0)) ∧ w'.cell? ⟨(ad643.add ((x5_1).toNat * 4)).block, (ad643.add ((x5_1).toNat * 4)).off + 1, none⟩ = some (.slice A643_1 ((Xa l1 x5_1).f1).length c643_1) ∧ w'.cell? ⟨(ad643.add ((x5_1).toNat * 4)).block, (ad643.add ((x5_1).toNat * 4)).off + 2, none⟩ = some (.slice A643_2 ((Xa l1 x5_1).f2).length c643_2) ∧ w'.cell? ⟨(ad643.add ((x5_1).toNat * 4)).block, (ad643.add ((x5_1).toNat * 4)).off + 3, none⟩ = some (.slice A643_3 ((Xa l1 x5_1).f3).length c643_3)) (ds := []) #[Z,Z,Z,Z,Z,Z,Z,Z,Z,Z] J8 rfl rfl ⟨((HB.out.cell (World.block_lt_of_cell? w _ hw642_0)).trans hw642_0), ((HB.out.cell (World.block_lt_of_cell? w _ hw642_1)).trans hw642_1), ((HB.out.cell (World.block_lt_of_cell? w _ hw642_2)).trans hw642_2), ((HB.out.cell (World.block_lt_of_cell? w _ hw642_3)).trans hw642_3), ((HB.out.cell (World.block_lt_of_cell? w _ hw643_0)).trans hw643_0), ((HB.out.cell (World.block_lt_of_cell? w _ hw643_1)).trans hw643_1), ((HB.out.cell (World.block_lt_of_cell? w _ hw643_2)).trans hw643_2), ((HB.out.cell (World.block_lt_of_cell? w _ hw643_3)).trans hw643_3)⟩ (fun hHeld => ?_); refine Xc7 deckleref10_Same.tab6 deckleref10_Same.bits6 (fun HT_ HW_ => ?_)
    generalize wr.drew = w11 at HB HR642_1 HR642_2 HR642_3 HR643_1 HR643_2 HR643_3 hx642_0 hx642_1 hx642_2 hx642_3 hx643_0 hx643_1 hx643_2 hx643_3 hHeld ⊢
    refine Xbs (i := 0) (N := some 17) (v := ?_) (a' := ?_) #[Y,Z,Z,Z,Z,Z,Z,Z,Z,Z] rfl rfl (Xbc HT_.out J8) (fun _ _ _ h => h) (Or.inl ⟨Xa5, ?_⟩) ?_ ?_
    rotate_left
    ·exact pz0
    rotate_left
    ·exact pz1
    refine Xbs (i := 1) (N := some 18) (v := ?_) (a' := ?_) #[Y,Y,Z,Z,Z,Z,Z,Z,Z,Z] rfl rfl (Xbc HT_.out J8) (fun _ _ _ h => h) (Or.inl ⟨Xa5, ?_⟩) ?_ ?_
    rotate_left
    ·exact pz0
    rotate_left
    ·exact pz1
    refine Xbs (i := 2) (N := some 19) (v := ?_) (a' := ?_) #[Y,Y,Y,Z,Z,Z,Z,Z,Z,Z] rfl rfl (Xbc HT_.out J8) (fun _ _ _ h => h) (Or.inl ⟨Xa5, ?_⟩) ?_ ?_
    rotate_left
    ·exact pz0
    rotate_left
    ·exact pz1
    refine Xbs (i := 4) (N := some 21) (v := ?_) (a' := ?_) #[Y,Y,Y,Z,Y,Z,Z,Z,Z,Z] rfl rfl (Xbc HT_.out J8) (fun _ _ _ h => h) (Or.inl ⟨Xa5, ?_⟩) ?_ ?_
    rotate_left
    ·exact pz0
    rotate_left
    ·exact pz1
    refine Xbs (i := 5) (N := some 22) (v := ?_) (a' := ?_) #[Y,Y,Y,Z,Y,Y,Z,Z,Z,Z] rfl rfl (Xbc HT_.out J8) (fun _ _ _ h => h) (Or.inl ⟨Xa5, ?_⟩) ?_ ?_
    rotate_left
    ·exact pz0
    rotate_left
    ·exact pz1
    refine Xbs (i := 6) (N := some 23) (v := ?_) (a' := ?_) #[Y,Y,Y,Z,Y,Y,Y,Z,Z,Z] rfl rfl (Xbc HT_.out J8) (fun _ _ _ h => h) (Or.inl ⟨Xa5, ?_⟩) ?_ ?_
    rotate_left
    ·exact pz0
    rotate_left
    ·exact pz1
    refine Xd1 (i := 3) (N := some 20) (v := ?_) (a' := ?_) #[Y,Y,Y,Y,Y,Y,Y,Z,Z,Z] rfl rfl (Xcw HT_.out HW_.out J8) (fun _ _ _ h => h) (Or.inl ⟨Xa5, ?_⟩) hHeld ?_ ?_
    rotate_left
    ·rintro w' ⟨s0, s1, s2, s3, s4, s5, s6, s7⟩
     go_simp
     with_reducible rfl
    rotate_left
    ·exact pz1
    refine Xd1 (i := 7) (N := some 24) (v := ?_) (a' := ?_) #[Y,Y,Y,Y,Y,Y,Y,Y,Z,Z] rfl rfl (Xcw HT_.out HW_.out J8) (fun _ _ _ h => h) (Or.inl ⟨Xa5, ?_⟩) hHeld ?_ ?_
    rotate_left
    ·rintro w' ⟨s0, s1, s2, s3, s4, s5, s6, s7⟩
     go_simp
     with_reducible rfl
    rotate_left
    ·exact pz1
    refine Xdy (i := 8) (N := some 25) #[Y,Y,Y,Y,Y,Y,Y,Y,Y,Z] rfl rfl (Xct HT_.out J8) J11 (fun K hK => ?_)
    refine Xdj Tryd.func25 J8 rfl #[.agg #[.int .i64 ((Xa l0 x5_1).f0), .slice A642_1 ((Xa l0 x5_1).f1).length c642_1, .slice A642_2 ((Xa l0 x5_1).f2).length c642_2, .slice A642_3 ((Xa l0 x5_1).f3).length c642_3], .agg #[.int .i64 ((Xa l1 x5_1).f0), .slice A643_1 ((Xa l1 x5_1).f1).length c643_1, .slice A643_2 ((Xa l1 x5_1).f2).length c643_2, .slice A643_3 ((Xa l1 x5_1).f3).length c643_3]] Xa5 rfl rfl J1 ?_
    with_reducible refine (Xas.calls k1 ((Xa l0 x5_1).f0) _ _ ((Xa l0 x5_1).f1) _ _ ((Xa l0 x5_1).f2) _ _ ((Xa l0 x5_1).f3) ((Xa l1 x5_1).f0) _ _ ((Xa l1 x5_1).f1) _ _ ((Xa l1 x5_1).f2) _ _ ((Xa l1 x5_1).f3) false _ ?side1 ?side2 ?side3 ?side4 ?side5 ?side6 ?side7 ?side8 ?side9 ?side10 ?side11 ?side12 A7.out).mono ?_
    (case side1 => exact zc (Kd.C_below HR642_1.out HB.out))
    (case side2 => exact HC642_1.out)
    (case side3 => exact zc (Kd.C_below HR642_2.out HB.out))
    (case side4 => exact HC642_2.out)
    (case side5 => exact zc (Kd.C_below HR642_3.out HB.out))
    (case side6 => exact HC642_3.out)
    (case side7 => exact zc (Kd.C_below HR643_1.out HB.out))
    (case side8 => exact HC643_1.out)
    (case side9 => exact zc (Kd.C_below HR643_2.out HB.out))
    (case side10 => exact HC643_2.out)
    (case side11 => exact zc (Kd.C_below HR643_3.out HB.out))
    (case side12 => exact HC643_3.out)
    rintro e w12 ⟨rfl, hb⟩
    refine ⟨_, rfl, ?_⟩
    replace HB := zq (Xd J0 hb)
    (try clear hb)
    (try clear hb2)
    (try clear hk)
    (try clear hi)
    refine hK.out _ _ ⟨((HB.out.cell (World.block_lt_of_cell? w _ hw642_0)).trans hw642_0), ((HB.out.cell (World.block_lt_of_cell? w _ hw642_1)).trans hw642_1), ((HB.out.cell (World.block_lt_of_cell? w _ hw642_2)).trans hw642_2), ((HB.out.cell (World.block_lt_of_cell? w _ hw642_3)).trans hw642_3), ((HB.out.cell (World.block_lt_of_cell? w _ hw643_0)).trans hw643_0), ((HB.out.cell (World.block_lt_of_cell? w _ hw643_1)).trans hw643_1), ((HB.out.cell (World.block_lt_of_cell? w _ hw643_2)).trans hw643_2), ((HB.out.cell (World.block_lt_of_cell? w _ hw643_3)).trans hw643_3)⟩ (fun hHeld => ?_)
    clear hK K
    refine Xcl (a' := ?_) ?_ ?_
    rotate_left
    ·show Act.put _ (some 25) _ = _
     simp only [Act.put, List.setIfInBounds_toArray, List.set_cons_zero, List.set_cons_succ, Xbd, Xbh]
     rfl
    refine Xbs (i := 9) (N := some 26) (v := ?_) (a' := ?_) #[Y,Y,Y,Y,Y,Y,Y,Y,Y,Y] rfl rfl (Xbc HT_.out J8) (fun _ _ _ h => h) (Or.inl ⟨Xa5, ?_⟩) ?_ ?_
    rotate_left
    ·exact pz0
    rotate_left
    ·exact pz1
    refine done_ (Xdz HT_.out J8) ?_
    try go_wp2
    go_ret
    exact ⟨J2, J0⟩
   have H' := zq H
   clear H
   try go_wp2
   replace HB := zq (X8 HB.out)
   have p642 : 0 ≤ (x5_1 : Int) := of_decide_eq_true J3
   have q642 : x5_1 < (l0.length : Int) := of_decide_eq_true J3
   obtain ⟨ad642, A642_1, c642_1, A642_2, c642_2, A642_3, c642_3, e642, hx642_0, hx642_1, hx642_2, hx642_3, hl642_1, hi642_1, hl642_2, hi642_2, hl642_3, hi642_3⟩ := Xbz HR0.out x5_1 p642 q642
   have hw642_3 := hx642_3
   have hw642_2 := hx642_2
   have hw642_1 := hx642_1
   have hw642_0 := hx642_0
   cases e642
   replace hx642_0 := yh HB hx642_0
   replace hx642_1 := yh HB hx642_1
   replace hx642_2 := yh HB hx642_2
   replace hx642_3 := yh HB hx642_3
   have HR642_1 := zq hi642_1
   have HC642_1 := zq hl642_1
   clear hi642_1 hl642_1
   have HR642_2 := zq hi642_2
   have HC642_2 := zq hl642_2
   clear hi642_2 hl642_2
   have HR642_3 := zq hi642_3
   have HC642_3 := zq hl642_3
   clear hi642_3 hl642_3
   replace p642 := eq_true p642
   replace q642 := eq_true q642
   have p643 : 0 ≤ (x5_1 : Int) := of_decide_eq_true J3
   have q643 : x5_1 < (l1.length : Int) := of_decide_eq_true J3
   obtain ⟨ad643, A643_1, c643_1, A643_2, c643_2, A643_3, c643_3, e643, hx643_0, hx643_1, hx643_2, hx643_3, hl643_1, hi643_1, hl643_2, hi643_2, hl643_3, hi643_3⟩ := Xbz HR1.out x5_1 p643 q643
   have hw643_3 := hx643_3
   have hw643_2 := hx643_2
   have hw643_1 := hx643_1
   have hw643_0 := hx643_0
   cases e643
   replace hx643_0 := yh HB hx643_0
   replace hx643_1 := yh HB hx643_1
   replace hx643_2 := yh HB hx643_2
   replace hx643_3 := yh HB hx643_3
   have HR643_1 := zq hi643_1
   have HC643_1 := zq hl643_1
   clear hi643_1 hl643_1
   have HR643_2 := zq hi643_2
   have HC643_2 := zq hl643_2
   clear hi643_2 hl643_2
   have HR643_3 := zq hi643_3
   have HC643_3 := zq hl643_3
   clear hi643_3 hl643_3
   replace p643 := eq_true p643
   replace q643 := eq_true q643
   refine Xeh (n := 10) (S := fun w' => w'.cell? (ad642.add ((x5_1).toNat * 4)) = some (.int .i64 ((Xa l0 x5_1).f0)) ∧ w'.cell? ⟨(ad642.add ((x5_1).toNat * 4)).block, (ad642.add ((x5_1).toNat * 4)).off + 1, none⟩ = some (.slice A642_1 ((Xa l0 x5_1).f1).length c642_1) ∧ w'.cell? ⟨(ad642.add ((x5_1).toNat * 4)).block, (ad642.add ((x5_1).toNat * 4)).off + 2, none⟩ = some (.slice A642_2 ((Xa l0 x5_1).f2).length c642_2) ∧ w'.cell? ⟨(ad642.add ((x5_1).toNat * 4)).block, (ad642.add ((x5_1).toNat * 4)).off + 3, none⟩ = some (.slice A642_3 ((Xa l0 x5_1).f3).length c642_3) ∧ w'.cell? (ad643.add ((x5_1).toNat * 4)) = some (.int .i64 ((Xa l1 x5_1).f0)) ∧ w'.cell? ⟨(ad643.add ((x5_1).toNat * 4)).block, (ad643.add ((x5_1).toNat * 4)).off + 1, none⟩ = some (.slice A643_1 ((Xa l1 x5_1).f1).length c643_1) ∧ w'.cell? ⟨(ad643.add ((x5_1).toNat * 4)).block, (ad643.add ((x5_1).toNat * 4)).off + 2, none⟩ = some (.slice A643_2 ((Xa l1 x5_1).f2).length c643_2) ∧ w'.cell? ⟨(ad643.add ((x5_1).toNat * 4)).block, (ad643.add ((x5_1).toNat * 4)).off + 3, none⟩ = some (.slice A643_3 ((Xa l1 x5_1).f3).length c643_3)) (ds := []) #[Z,Z,Z,Z,Z,Z,Z,Z,Z,Z] J8 rfl rfl ⟨((HB.out.cell (World.block_lt_of_cell? w _ hw642_0)).trans hw642_0), ((HB.out.cell (World.block_lt_of_cell? w _ hw642_1)).trans hw642_1), ((HB.out.cell (World.block_lt_of_cell? w _ hw642_2)).trans hw642_2), ((HB.out.cell (World.block_lt_of_cell? w _ hw642_3)).trans hw642_3), ((HB.out.cell (World.block_lt_of_cell? w _ hw643_0)).trans hw643_0), ((HB.out.cell (World.block_lt_of_cell? w _ hw643_1)).trans hw643_1), ((HB.out.cell (World.block_lt_of_cell? w _ hw643_2)).trans hw643_2), ((HB.out.cell (World.block_lt_of_cell? w _ hw643_3)).trans hw643_3)⟩ (fun hHeld => ?_); refine Xc7 deckleref10_Same.tab6 deckleref10_Same.bits6 (fun HT_ HW_ => ?_)
   generalize wr.drew = w9 at HB HR642_1 HR642_2 HR642_3 HR643_1 HR643_2 HR643_3 hx642_0 hx642_1 hx642_2 hx642_3 hx643_0 hx643_1 hx643_2 hx643_3 hHeld ⊢
   refine Xbs (i := 0) (N := some 17) (v := ?_) (a' := ?_) #[Y,Z,Z,Z,Z,Z,Z,Z,Z,Z] rfl rfl (Xbc HT_.out J8) (fun _ _ _ h => h) (Or.inl ⟨Xa5, ?_⟩) ?_ ?_
   rotate_left
   ·exact pz0
   rotate_left
   ·exact pz1
   refine Xbs (i := 1) (N := some 18) (v := ?_) (a' := ?_) #[Y,Y,Z,Z,Z,Z,Z,Z,Z,Z] rfl rfl (Xbc HT_.out J8) (fun _ _ _ h => h) (Or.inl ⟨Xa5, ?_⟩) ?_ ?_
   rotate_left
   ·exact pz0
   rotate_left
   ·exact pz1
   refine Xbs (i := 2) (N := some 19) (v := ?_) (a' := ?_) #[Y,Y,Y,Z,Z,Z,Z,Z,Z,Z] rfl rfl (Xbc HT_.out J8) (fun _ _ _ h => h) (Or.inl ⟨Xa5, ?_⟩) ?_ ?_
   rotate_left
   ·exact pz0
   rotate_left
   ·exact pz1
   refine Xbs (i := 4) (N := some 21) (v := ?_) (a' := ?_) #[Y,Y,Y,Z,Y,Z,Z,Z,Z,Z] rfl rfl (Xbc HT_.out J8) (fun _ _ _ h => h) (Or.inl ⟨Xa5, ?_⟩) ?_ ?_
   rotate_left
   ·exact pz0
   rotate_left
   ·exact pz1
   refine Xbs (i := 5) (N := some 22) (v := ?_) (a' := ?_) #[Y,Y,Y,Z,Y,Y,Z,Z,Z,Z] rfl rfl (Xbc HT_.out J8) (fun _ _ _ h => h) (Or.inl ⟨Xa5, ?_⟩) ?_ ?_
   rotate_left
   ·exact pz0
   rotate_left
   ·exact pz1
   refine Xbs (i := 6) (N := some 23) (v := ?_) (a' := ?_) #[Y,Y,Y,Z,Y,Y,Y,Z,Z,Z] rfl rfl (Xbc HT_.out J8) (fun _ _ _ h => h) (Or.inl ⟨Xa5, ?_⟩) ?_ ?_
   rotate_left
   ·exact pz0
   rotate_left
   ·exact pz1
   refine Xd1 (i := 3) (N := some 20) (v := ?_) (a' := ?_) #[Y,Y,Y,Y,Y,Y,Y,Z,Z,Z] rfl rfl (Xcw HT_.out HW_.out J8) (fun _ _ _ h => h) (Or.inl ⟨Xa5, ?_⟩) hHeld ?_ ?_
   rotate_left
   ·rintro w' ⟨s0, s1, s2, s3, s4, s5, s6, s7⟩
    go_simp
    with_reducible rfl
   rotate_left
   ·exact pz1
   refine Xd1 (i := 7) (N := some 24) (v := ?_) (a' := ?_) #[Y,Y,Y,Y,Y,Y,Y,Y,Z,Z] rfl rfl (Xcw HT_.out HW_.out J8) (fun _ _ _ h => h) (Or.inl ⟨Xa5, ?_⟩) hHeld ?_ ?_
   rotate_left
   ·rintro w' ⟨s0, s1, s2, s3, s4, s5, s6, s7⟩
    go_simp
    with_reducible rfl
   rotate_left
   ·exact pz1
   refine Xdy (i := 8) (N := some 25) #[Y,Y,Y,Y,Y,Y,Y,Y,Y,Z] rfl rfl (Xct HT_.out J8) J11 (fun K hK => ?_)
   refine Xdj Tryd.func25 J8 rfl #[.agg #[.int .i64 ((Xa l0 x5_1).f0), .slice A642_1 ((Xa l0 x5_1).f1).length c642_1, .slice A642_2 ((Xa l0 x5_1).f2).length c642_2, .slice A642_3 ((Xa l0 x5_1).f3).length c642_3], .agg #[.int .i64 ((Xa l1 x5_1).f0), .slice A643_1 ((Xa l1 x5_1).f1).length c643_1, .slice A643_2 ((Xa l1 x5_1).f2).length c643_2, .slice A643_3 ((Xa l1 x5_1).f3).length c643_3]] Xa5 rfl rfl J1 ?_
   with_reducible refine (Xas.calls k1 ((Xa l0 x5_1).f0) _ _ ((Xa l0 x5_1).f1) _ _ ((Xa l0 x5_1).f2) _ _ ((Xa l0 x5_1).f3) ((Xa l1 x5_1).f0) _ _ ((Xa l1 x5_1).f1) _ _ ((Xa l1 x5_1).f2) _ _ ((Xa l1 x5_1).f3) true _ ?side1 ?side2 ?side3 ?side4 ?side5 ?side6 ?side7 ?side8 ?side9 ?side10 ?side11 ?side12 A7.out).mono ?_
   (case side1 => exact zc (Kd.C_below HR642_1.out HB.out))
   (case side2 => exact HC642_1.out)
   (case side3 => exact zc (Kd.C_below HR642_2.out HB.out))
   (case side4 => exact HC642_2.out)
   (case side5 => exact zc (Kd.C_below HR642_3.out HB.out))
   (case side6 => exact HC642_3.out)
   (case side7 => exact zc (Kd.C_below HR643_1.out HB.out))
   (case side8 => exact HC643_1.out)
   (case side9 => exact zc (Kd.C_below HR643_2.out HB.out))
   (case side10 => exact HC643_2.out)
   (case side11 => exact zc (Kd.C_below HR643_3.out HB.out))
   (case side12 => exact HC643_3.out)
   rintro e w10 ⟨rfl, hb⟩
   refine ⟨_, rfl, ?_⟩
   replace HB := zq (Xd J0 hb)
   (try clear hb)
   (try clear hb2)
   (try clear hk)
   (try clear hi)
   refine hK.out _ _ ⟨((HB.out.cell (World.block_lt_of_cell? w _ hw642_0)).trans hw642_0), ((HB.out.cell (World.block_lt_of_cell? w _ hw642_1)).trans hw642_1), ((HB.out.cell (World.block_lt_of_cell? w _ hw642_2)).trans hw642_2), ((HB.out.cell (World.block_lt_of_cell? w _ hw642_3)).trans hw642_3), ((HB.out.cell (World.block_lt_of_cell? w _ hw643_0)).trans hw643_0), ((HB.out.cell (World.block_lt_of_cell? w _ hw643_1)).trans hw643_1), ((HB.out.cell (World.block_lt_of_cell? w _ hw643_2)).trans hw643_2), ((HB.out.cell (World.block_lt_of_cell? w _ hw643_3)).trans hw643_3)⟩ (fun hHeld => ?_)
   clear hK K
   refine Xcl (a' := ?_) ?_ ?_
   rotate_left
   ·show Act.put _ (some 25) _ = _
    simp only [Act.put, List.setIfInBounds_toArray, List.set_cons_zero, List.set_cons_succ, Xbd, Xbh]
    rfl
   refine Xbs (i := 9) (N := some 26) (v := ?_) (a' := ?_) #[Y,Y,Y,Y,Y,Y,Y,Y,Y,Y] rfl rfl (Xbc HT_.out J8) (fun _ _ _ h => h) (Or.inl ⟨Xa5, ?_⟩) ?_ ?_
   rotate_left
   ·exact pz0
   rotate_left
   ·exact pz1
   refine done_ (Xdz HT_.out J8) ?_
   try go_wp2
   go_roundg k1
   case measure => have := HK1.out; omega
   case rel => exact ⟨(wrap64 (x5_1 + 1)), J4, H', ⟨J86⟩, ⟨J0⟩⟩
def Xar.l0 : Nat → List ByteArray → List ByteArray → Int → Option (Bool)
 | 0, _, _, _ => none
 | k + 1, x0, x1, x5 => if x5 < (x0.length : Int) then (if 0 ≤ x5 then (if x5 < (x1.length : Int) then (if (rdOf ByteArray.empty x0 x5).toList = (rdOf ByteArray.empty x1 x5).toList then (Xar.l0 k x0 x1 (wrap64 (x5 + 1))) else (some false)) else (none)) else (none)) else (some true)
def Xar.f (k : Nat) (l0 : List ByteArray) (l1 : List ByteArray) : Option (Bool) := if (l0.length : Int) = (l1.length : Int) then (Xar.l0 k l0 l1 0) else (some false)
theorem Xar.mono_l : ∀ k, (∀ y0 y1 y2, LeO (Xar.l0 k y0 y1 y2) (Xar.l0 (k + 1) y0 y1 y2))
 | 0 => fun _ _ _ r h => by simp [Xar.l0] at h
 | k + 1 => by
  have ih0 := Xar.mono_l k
  ·intro y0 y1 y2
   unfold Xar.l0
   exact mz0
theorem Xar.mono : ∀ a0 a1 k, LeO (Xar.f k a0 a1) (Xar.f (k + 1) a0 a1) := by
 intro a0 a1 k
 have ih0 := Xar.mono_l k
 unfold Xar.f
 exact mz0
set_option maxHeartbeats 8000000 in
set_option maxRecDepth 100000 in
theorem Xar.calls (k : Nat) (A0 : Option Addr) (c0 : Nat) (l0 : List ByteArray) (A1 : Option Addr) (c1 : Nat) (l1 : List ByteArray) (r : Bool) (w : World) (hr0 : Kd.C Kd.string w A0 l0.length l0) (hc0 : l0.length ≤ c0) (hr1 : Kd.C Kd.string w A1 l1.length l1) (hc1 : l1.length ≤ c1) (h : Xar.f k l0 l1 = some r) :
  Calls Tryd.prog 15 #[.slice A0 l0.length c0, .slice A1 l1.length c1] w fun e w' => e = .returned (.bool r) ∧ Drawn0 w w' := by
 have HR0 := zq hr0
 have HC0 := zq hc0
 clear hr0 hc0
 have HR1 := zq hr1
 have HC1 := zq hc1
 clear hr1 hc1
 unfold Xar.f at h
 have H := h
 clear h
 refine yE H ?_ ?_ <;> clear H <;> rintro ⟨c3b0, c3b1, c3⟩ H
 ·have c3b2 : (l0.length == l1.length) = false := by first | simpa using c3 | (simp at c3 ⊢; omega)
  obtain rfl := yo H
  go_enter Tryd.func15, Tryd.ntmps15
  go_wp2
  repeat (go_quiet (fail); try go_wp2)
  go_ret
  exact ⟨J4, J5⟩
 have c3b2 : (l0.length == l1.length) = true := J99
 clear c3
 have H' := zq H
 clear H
 go_enter Tryd.func15, Tryd.ntmps15
 go_wp2
 repeat (go_quiet (fail); try go_wp2)
 go_loopg [5] k (fun kq v5 w' => ∃ (x5_1 : Int), v5 = .int .i64 x5_1 ∧ Aside0 (Xar.l0 kq l0 l1 x5_1 = some r) ∧ Aside0 (kq ≤ k) ∧ Drawn0 w w')
 case atStart => exact ⟨(0), J4, H', ⟨Nat.le_refl _⟩, J5⟩
 case round =>
  clear H'
  try clear c1
  try clear c3
  try clear c3b0
  try clear c3b1
  try clear c3b2
  obtain ⟨x5_1, rfl, HA, HK1, ⟨m1, rfl⟩⟩ := hrel
  cases gk with
  | zero => exact absurd HA.out (by simp [Xar.l0])
  | succ k1 =>
   have H := HA.out
   clear HA
   simp only [Xar.l0] at H
   refine yd H ?_ ?_ <;> clear H <;> rintro c4b0 H
   ·obtain rfl := yo H
    go_wp2
    repeat (go_quiet (fail); try go_wp2)
    go_ret
    exact ⟨J4, J5⟩
   refine yj H ?_; clear H; intro c5b0 H
   refine yj H ?_; clear H; intro c6b0 H
   refine yE H ?_ ?_ <;> clear H <;> rintro ⟨c7b0, c7b1, c7⟩ H
   ·obtain rfl := yo H
    have p645 : 0 ≤ (x5_1 : Int) := of_decide_eq_true J3
    have q645 : x5_1 < (l0.length : Int) := of_decide_eq_true J3
    obtain ⟨ad645, e645, hx645_0⟩ := Kd.at_string HR0.out x5_1 p645 q645
    cases e645
    replace p645 := eq_true p645
    replace q645 := eq_true q645
    have p646 : 0 ≤ (x5_1 : Int) := of_decide_eq_true J3
    have q646 : x5_1 < (l1.length : Int) := of_decide_eq_true J3
    obtain ⟨ad646, e646, hx646_0⟩ := Kd.at_string HR1.out x5_1 p646 q646
    cases e646
    replace p646 := eq_true p646
    replace q646 := eq_true q646
    go_wp2
    repeat (go_quiet (fail); try go_wp2)
    go_ret
    exact ⟨J4, J5⟩
   clear c7
   have H' := zq H
   clear H
   have p645 : 0 ≤ (x5_1 : Int) := of_decide_eq_true J3
   have q645 : x5_1 < (l0.length : Int) := of_decide_eq_true J3
   obtain ⟨ad645, e645, hx645_0⟩ := Kd.at_string HR0.out x5_1 p645 q645
   cases e645
   replace p645 := eq_true p645
   replace q645 := eq_true q645
   have p646 : 0 ≤ (x5_1 : Int) := of_decide_eq_true J3
   have q646 : x5_1 < (l1.length : Int) := of_decide_eq_true J3
   obtain ⟨ad646, e646, hx646_0⟩ := Kd.at_string HR1.out x5_1 p646 q646
   cases e646
   replace p646 := eq_true p646
   replace q646 := eq_true q646
   go_wp2
   repeat (go_quiet (fail); try go_wp2)
   go_roundg k1
   case measure => have := HK1.out; omega
   case rel => exact ⟨(wrap64 (x5_1 + 1)), J4, H', ⟨J86⟩, J5⟩
end Go.Proofs.YtfjhiiaahbjaiaaDoor.HSystemFirst
