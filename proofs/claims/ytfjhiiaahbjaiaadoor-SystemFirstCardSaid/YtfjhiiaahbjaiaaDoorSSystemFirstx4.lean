/- What the Go functions of this claim answer, told as functions of numbers and lists, and that other memory stays as it was: words and walks, shortened by a program. -/
import Derived.Test.YtfjhiiaahbjaiaaDoorSSystemFirstx0
import Derived.Test.YtfjhiiaahbjaiaaDoorSSystemFirstx2
import Derived.Test.YtfjhiiaahbjaiaaDoorSSystemFirstx3
namespace Go.Proofs.YtfjhiiaahbjaiaaDoor.HSystemFirst
open Go.RowKit Go.Proofs.YtfjhiiaahbjaiaaDoorW.PrintWords Go.Proofs.YtfjhiiaahbjaiaaDoorW.PrintLast Go.Proofs.YtfjhiiaahbjaiaaDoorW.PrintMore
attribute [local go_sem] Xby Xbw Xcb Xca Xbp Xbo Xbx Xbv
set_option linter.unusedVariables false
set_option linter.unusedSimpArgs false
mutual
def Xag.j0 : Nat → List (S32) → Bool → Option (Int × Int × Int)
 | 0, _, _ => none
 | k + 1, x0, x22 => if x22 = true then (some (0, 0, 0)) else (if 0 < (x0.length : Int) then ((Xi.f k ((Xa x0 0).f0) ((Xa x0 0).f1) ((Xa x0 0).f2) ((Xa x0 0).f3)).bind fun bt119 => (if bt119.2 = true then (if ((Xa x0 0).f0) = 5 then (none) else (some (1, bt119.1, 1))) else (some (0, 0, 0)))) else (none))
def Xag.f : Nat → List (S32) → Int → Option (Int × Int × Int)
 | 0, _, _ => none
 | k + 1, l0, a1 => if (l0.length : Int) = 0 then (Xag.j0 k l0 true) else (Xag.j0 k l0 (decide (a1 < 1)))
end
theorem Xag.mono_l : ∀ k, (∀ y0 y1, LeO (Xag.f k y0 y1) (Xag.f (k + 1) y0 y1)) ∧ (∀ y0 y1, LeO (Xag.j0 k y0 y1) (Xag.j0 (k + 1) y0 y1))
 | 0 => ⟨fun _ _ r h => by simp [Xag.f] at h, fun _ _ r h => by simp [Xag.j0] at h⟩
 | k + 1 => by
  obtain ⟨ih0, ih1⟩ := Xag.mono_l k
  refine ⟨?_, ?_⟩
  ·intro y0 y1
   unfold Xag.f
   have im0 := @Xi.mono
   exact mz3
  ·intro y0 y1
   unfold Xag.j0
   have im0 := @Xi.mono
   exact mz3
theorem Xag.mono : ∀ a0 a1 k, LeO (Xag.f k a0 a1) (Xag.f (k + 1) a0 a1) := by
 intro a0 a1 k
 obtain ⟨ih0, ih1⟩ := Xag.mono_l k
 exact ih0 a0 a1
set_option maxHeartbeats 8000000 in
set_option maxRecDepth 100000 in
theorem Xag.calls (k : Nat) : ∀ (A0 : Option Addr) (c0 : Nat) (l0 : List (S32)) (a1 : Int) (r1 : Int) (r2 : Int) (r3 : Int) (w : World) (hr0 : Kd.C k32 w A0 l0.length l0) (hc0 : l0.length ≤ c0) (h : Xag.f k l0 a1 = some (r1, r2, r3)),
  Calls Tryd.prog 69 #[.slice A0 l0.length c0, .int .i64 a1] w fun e w' => e = .returned (.tuple #[.int .i64 r1, .int .i64 r2, .int .i64 r3]) ∧ Below w.heap.size w w' := by
 induction k using Nat.strongRecOn with
 | _ k ih =>
 intro A0 c0 l0 a1 r1 r2 r3 w hr0 hc0 h
 cases k with
 | zero => exact absurd h (by simp [Xag.f])
 | succ k =>
 simp only [Xag.f] at h
 have hu32 := Tryd.underlying32
 have HR0 := zq hr0
 have HC0 := zq hc0
 clear hr0 hc0
 have HB := zq (Below.refl w.heap.size w)
 have H : (if (l0.length : Int) = 0 then (Xag.j0 k l0 true) else (Xag.j0 k l0 (decide (a1 < 1)))) = some (r1, r2, r3) := h
 clear h
 have HC3 := zq H
 clear H
 go_enter Tryd.func69, Tryd.ntmps69
 go_upto_region 1 with (fail)
 go_cut [22] (fun v22 wc => ∃ (kq : Nat) (x22_2 : Bool), v22 = .bool x22_2 ∧ Aside0 (Xag.j0 kq l0 x22_2 = some (r1, r2, r3)) ∧ Aside0 (kq ≤ k) ∧ Aside0 (Below w.heap.size w wc))
 case first =>
  have H := HC3.out
  clear HC3
  refine yE H ?_ ?_ <;> clear H <;> rintro ⟨c4b0, c4b1, c4⟩ H
  ·have c4b2 : ¬ (l0 = []) := fun h_ => c4 (by rw [h_]; rfl)
   (first | rw [c4b0] | (simp only [Xbd, Xbh]; rw [c4b0]) | skip)
   have H' := zq H
   clear H
   go_wp2
   go_meet
   case rel => exact ⟨_, (decide (a1 < 1)), J4, H', ⟨J31⟩, ⟨J0⟩⟩
  clear c4
  (first | rw [c4b0] | (simp only [Xbd, Xbh]; rw [c4b0]) | skip)
  have H' := zq H
  clear H
  go_wp2
  go_meet
  case rel => exact ⟨_, (true), J4, H', ⟨J31⟩, ⟨J0⟩⟩
 case rest =>
  clear HC3
  obtain ⟨kq, x22_2, rfl, HA, HJ2, HB⟩ := hcut
  cases kq with
  | zero => exact absurd HA.out (by simp [Xag.j0])
  | succ kj2 =>
   have H := HA.out
   clear HA
   simp only [Xag.j0] at H
   refine yC H ?_ ?_ <;> clear H <;> rintro rfl H
   ·obtain ⟨rfl, rfl, rfl⟩ := yp3 H
    go_wp2
    go_ret3
    exact ⟨J2, J0⟩
   refine yi H ?_; clear H; intro c6 H
   have c6b0 := decide_eq_true c6
   have c6b1 : decide (0 < l0.length) = true := decide_eq_true J35
   clear c6
   refine yv H ?_; clear H; rintro ⟨t119, t120⟩ A7 H
   dsimp only at H
   refine yB H ?_ ?_ <;> clear H <;> rintro rfl H
   ·obtain ⟨rfl, rfl, rfl⟩ := yp3 H
    have p118 : 0 ≤ (0 : Int) := J35
    have q118 : 0 < (l0.length : Int) := of_decide_eq_true J3
    obtain ⟨ad118, A118_1, c118_1, A118_2, c118_2, A118_3, c118_3, e118, hx118_0, hx118_1, hx118_2, hx118_3, hl118_1, hi118_1, hl118_2, hi118_2, hl118_3, hi118_3⟩ := Xbz HR0.out 0 p118 q118
    cases e118
    have qi118 : (0 < l0.length) = True := eq_true J35
    (try rw [show ((0 : Int)).toNat = 0 from rfl] at hx118_0)
    (try rw [show 0 * 4 = 0 from rfl] at hx118_0)
    (try rw [Addr.add_zero'] at hx118_0)
    (try rw [show ((0 : Int)).toNat = 0 from rfl] at hx118_1)
    (try rw [show 0 * 4 = 0 from rfl] at hx118_1)
    (try rw [Addr.add_zero'] at hx118_1)
    (try rw [show ((0 : Int)).toNat = 0 from rfl] at hx118_2)
    (try rw [show 0 * 4 = 0 from rfl] at hx118_2)
    (try rw [Addr.add_zero'] at hx118_2)
    (try rw [show ((0 : Int)).toNat = 0 from rfl] at hx118_3)
    (try rw [show 0 * 4 = 0 from rfl] at hx118_3)
    (try rw [Addr.add_zero'] at hx118_3)
    replace hx118_0 := yh HB hx118_0
    replace hx118_1 := yh HB hx118_1
    replace hx118_2 := yh HB hx118_2
    replace hx118_3 := yh HB hx118_3
    have HR118_1 := zq hi118_1
    have HC118_1 := zq hl118_1
    clear hi118_1 hl118_1
    have HR118_2 := zq hi118_2
    have HC118_2 := zq hl118_2
    clear hi118_2 hl118_2
    have HR118_3 := zq hi118_3
    have HC118_3 := zq hl118_3
    clear hi118_3 hl118_3
    replace p118 := eq_true p118
    replace q118 := eq_true q118
    go_wp2_with (first | ((with_reducible refine Xg (f := 81) rfl ?_); refine Xt (some 27) rfl rfl Tryd.func81 J8 rfl #[.agg #[.int .i64 ((Xa l0 0).f0), .slice A118_1 ((Xa l0 0).f1).length c118_1, .slice A118_2 ((Xa l0 0).f2).length c118_2, .slice A118_3 ((Xa l0 0).f3).length c118_3]] rfl J1 ?_; (with_reducible refine (Xi.calls kj2 ((Xa l0 0).f0) _ _ ((Xa l0 0).f1) _ _ ((Xa l0 0).f2) _ _ ((Xa l0 0).f3) t119 false _ ?side1 ?side2 ?side3 ?side4 ?side5 ?side6 A7.out).mono ?_); (case side1 => exact zc (Kd.C_below HR118_1.out HB.out)); (case side2 => exact HC118_1.out); (case side3 => exact zc (Kd.C_below HR118_2.out HB.out)); (case side4 => exact HC118_2.out); (case side5 => exact zc (Kd.C_below HR118_3.out HB.out)); (case side6 => exact HC118_3.out); rintro e w11 ⟨rfl, hb⟩; refine ⟨_, rfl, ?_⟩; replace HB := zq (Xd J0 hb); (try clear hb)))
    go_ret3
    exact ⟨J2, J0⟩
   refine yI H ?_; clear H; intro c9 H
   have c9b0 : (((Xa l0 0).f0) == 5) = false := beq_eq_false_iff_ne.mpr c9
   have c9b1 : (((Xa l0 0).f0) != 5) = true := bne_iff_ne.mpr c9
   obtain ⟨rfl, rfl, rfl⟩ := yp3 H
   have p118 : 0 ≤ (0 : Int) := J35
   have q118 : 0 < (l0.length : Int) := of_decide_eq_true J3
   obtain ⟨ad118, A118_1, c118_1, A118_2, c118_2, A118_3, c118_3, e118, hx118_0, hx118_1, hx118_2, hx118_3, hl118_1, hi118_1, hl118_2, hi118_2, hl118_3, hi118_3⟩ := Xbz HR0.out 0 p118 q118
   cases e118
   have qi118 : (0 < l0.length) = True := eq_true J35
   (try rw [show ((0 : Int)).toNat = 0 from rfl] at hx118_0)
   (try rw [show 0 * 4 = 0 from rfl] at hx118_0)
   (try rw [Addr.add_zero'] at hx118_0)
   (try rw [show ((0 : Int)).toNat = 0 from rfl] at hx118_1)
   (try rw [show 0 * 4 = 0 from rfl] at hx118_1)
   (try rw [Addr.add_zero'] at hx118_1)
   (try rw [show ((0 : Int)).toNat = 0 from rfl] at hx118_2)
   (try rw [show 0 * 4 = 0 from rfl] at hx118_2)
   (try rw [Addr.add_zero'] at hx118_2)
   (try rw [show ((0 : Int)).toNat = 0 from rfl] at hx118_3)
   (try rw [show 0 * 4 = 0 from rfl] at hx118_3)
   (try rw [Addr.add_zero'] at hx118_3)
   replace hx118_0 := yh HB hx118_0
   replace hx118_1 := yh HB hx118_1
   replace hx118_2 := yh HB hx118_2
   replace hx118_3 := yh HB hx118_3
   have HR118_1 := zq hi118_1
   have HC118_1 := zq hl118_1
   clear hi118_1 hl118_1
   have HR118_2 := zq hi118_2
   have HC118_2 := zq hl118_2
   clear hi118_2 hl118_2
   have HR118_3 := zq hi118_3
   have HC118_3 := zq hl118_3
   clear hi118_3 hl118_3
   replace p118 := eq_true p118
   replace q118 := eq_true q118
   go_wp2_with (first | ((with_reducible refine Xg (f := 81) rfl ?_); refine Xt (some 27) rfl rfl Tryd.func81 J8 rfl #[.agg #[.int .i64 ((Xa l0 0).f0), .slice A118_1 ((Xa l0 0).f1).length c118_1, .slice A118_2 ((Xa l0 0).f2).length c118_2, .slice A118_3 ((Xa l0 0).f3).length c118_3]] rfl J1 ?_; (with_reducible refine (Xi.calls kj2 ((Xa l0 0).f0) _ _ ((Xa l0 0).f1) _ _ ((Xa l0 0).f2) _ _ ((Xa l0 0).f3) t119 true _ ?side1 ?side2 ?side3 ?side4 ?side5 ?side6 A7.out).mono ?_); (case side1 => exact zc (Kd.C_below HR118_1.out HB.out)); (case side2 => exact HC118_1.out); (case side3 => exact zc (Kd.C_below HR118_2.out HB.out)); (case side4 => exact HC118_2.out); (case side5 => exact zc (Kd.C_below HR118_3.out HB.out)); (case side6 => exact HC118_3.out); rintro e w10 ⟨rfl, hb⟩; refine ⟨_, rfl, ?_⟩; replace HB := zq (Xd J0 hb); (try clear hb); have p121 : 0 ≤ (0 : Int) := J35; have q121 : 0 < (l0.length : Int) := of_decide_eq_true J3; obtain ⟨ad121, A121_1, c121_1, A121_2, c121_2, A121_3, c121_3, e121, hx121_0, hx121_1, hx121_2, hx121_3, hl121_1, hi121_1, hl121_2, hi121_2, hl121_3, hi121_3⟩ := Xbz HR0.out 0 p121 q121; obtain rfl : ad118 = ad121 := (by injection e121); have qi121 : (0 < l0.length) = True := eq_true J35; (try rw [show ((0 : Int)).toNat = 0 from rfl] at hx121_0); (try rw [show 0 * 4 = 0 from rfl] at hx121_0); (try rw [Addr.add_zero'] at hx121_0); (try rw [show ((0 : Int)).toNat = 0 from rfl] at hx121_1); (try rw [show 0 * 4 = 0 from rfl] at hx121_1); (try rw [Addr.add_zero'] at hx121_1); (try rw [show ((0 : Int)).toNat = 0 from rfl] at hx121_2); (try rw [show 0 * 4 = 0 from rfl] at hx121_2); (try rw [Addr.add_zero'] at hx121_2); (try rw [show ((0 : Int)).toNat = 0 from rfl] at hx121_3); (try rw [show 0 * 4 = 0 from rfl] at hx121_3); (try rw [Addr.add_zero'] at hx121_3); replace hx121_0 := yh HB hx121_0; replace hx121_1 := yh HB hx121_1; replace hx121_2 := yh HB hx121_2; replace hx121_3 := yh HB hx121_3; have HR121_1 := zq hi121_1; have HC121_1 := zq hl121_1; clear hi121_1 hl121_1; have HR121_2 := zq hi121_2; have HC121_2 := zq hl121_2; clear hi121_2 hl121_2; have HR121_3 := zq hi121_3; have HC121_3 := zq hl121_3; clear hi121_3 hl121_3; replace p121 := eq_true p121; replace q121 := eq_true q121))
   go_ret3
   exact ⟨J2, J0⟩
def Xb2.f (k : Nat) (l0 : List (S32)) : Option (Int) := (Xag.f k l0 16).bind fun bt122 => (some bt122.1)
theorem Xb2.mono : ∀ a0 k, LeO (Xb2.f k a0) (Xb2.f (k + 1) a0) := by
 intro a0 k
 unfold Xb2.f
 have im0 := @Xag.mono
 exact mz3
set_option maxHeartbeats 8000000 in
set_option maxRecDepth 100000 in
theorem Xb2.calls (k : Nat) (A0 : Option Addr) (c0 : Nat) (l0 : List (S32)) (r : Int) (w : World) (hr0 : Kd.C k32 w A0 l0.length l0) (hc0 : l0.length ≤ c0) (h : Xb2.f k l0 = some r) :
  Calls Tryd.prog 49 #[.slice A0 l0.length c0] w fun e w' => e = .returned (.int .i64 r) ∧ Below w.heap.size w w' := by
 have HR0 := zq hr0
 have HC0 := zq hc0
 clear hr0 hc0
 have HB := zq (Below.refl w.heap.size w)
 unfold Xb2.f at h
 have H := h
 clear h
 replace H := Option.bind_eq_some_iff.mp H
 obtain ⟨⟨t122, t123, t124⟩, A20, H⟩ := H
 replace H : (some t122) = some r := H
 have A2 := zq A20
 clear A20
 obtain rfl := yo H
 go_enter Tryd.func49, Tryd.ntmps49
 go_wp2_with (first | ((with_reducible refine Xg (f := 69) rfl ?_); refine Xt (some 8) rfl rfl Tryd.func69 J8 rfl #[.slice A0 l0.length c0, .int .i64 16] rfl J1 ?_; (with_reducible refine (Xag.calls k _ _ l0 16 t122 t123 t124 _ ?side1 ?side2 A2.out).mono ?_); (case side1 => exact zc HR0.out); (case side2 => exact HC0.out); rintro e w3 ⟨rfl, hb⟩; refine ⟨_, rfl, ?_⟩; replace HB := zq (Xd J0 hb); (try clear hb)))
 go_ret
 exact ⟨J2, J0⟩
def Xa7.f (k : Nat) (l0 : List (S32)) : Option (Bool) := if (l0.length : Int) > 0 then ((Xb2.f k l0).bind fun t125 => (some (t125 == (l0.length : Int)))) else (some false)
theorem Xa7.mono : ∀ a0 k, LeO (Xa7.f k a0) (Xa7.f (k + 1) a0) := by
 intro a0 k
 unfold Xa7.f
 have im0 := @Xb2.mono
 exact mz3
set_option maxHeartbeats 8000000 in
set_option maxRecDepth 100000 in
theorem Xa7.calls (k : Nat) (A0 : Option Addr) (c0 : Nat) (l0 : List (S32)) (r : Bool) (w : World) (hr0 : Kd.C k32 w A0 l0.length l0) (hc0 : l0.length ≤ c0) (h : Xa7.f k l0 = some r) :
  Calls Tryd.prog 26 #[.slice A0 l0.length c0] w fun e w' => e = .returned (.bool r) ∧ Below w.heap.size w w' := by
 have HR0 := zq hr0
 have HC0 := zq hc0
 clear hr0 hc0
 have HB := zq (Below.refl w.heap.size w)
 unfold Xa7.f at h
 have H := h
 clear h
 refine yt H ?_ ?_ <;> clear H <;> rintro c2 H
 ·have c2b0 : decide (0 < (l0.length : Int)) = false := decide_eq_false c2
  have c2b1 : decide (0 < l0.length) = false := decide_eq_false J35
  clear c2
  obtain rfl := yo H
  go_enter Tryd.func26, Tryd.ntmps26
  go_wp2
  go_ret
  exact ⟨J2, J0⟩
 have c2b0 := decide_eq_true c2
 have c2b1 : decide (0 < l0.length) = true := decide_eq_true J35
 clear c2
 refine yv H ?_; clear H; rintro t125 A3 H
 obtain rfl := yo H
 go_enter Tryd.func26, Tryd.ntmps26
 go_wp2_with (first | (go_at_call 49; (with_reducible refine (Xb2.calls k _ _ l0 t125 _ ?side1 ?side2 A3.out).mono ?_); (case side1 => exact zc HR0.out); (case side2 => exact HC0.out); rintro e w4 ⟨rfl, hb⟩; replace HB := zq (Xd J0 hb); (try clear hb)))
 go_ret
 exact ⟨J2, J0⟩
def Xbq.f (k : Nat) (l0 : List (S32)) : Option ((List (List (S32)))) := (Xa7.f k l0).bind fun t126 => (if t126 = true then (if 0 < (l0.length : Int) then (if ((Xa l0 0).f0) = 5 then (none) else (some ([] : List (List (S32))))) else (none)) else (some ([] : List (List (S32)))))
theorem Xbq.mono : ∀ a0 k, LeO (Xbq.f k a0) (Xbq.f (k + 1) a0) := by
 intro a0 k
 unfold Xbq.f
 have im0 := @Xa7.mono
 exact mz3
set_option maxHeartbeats 8000000 in
set_option maxRecDepth 100000 in
theorem Xbq.calls (k : Nat) (A0 : Option Addr) (c0 : Nat) (l0 : List (S32)) (r : List (List (S32))) (w : World) (hr0 : Kd.C k32 w A0 l0.length l0) (hc0 : l0.length ≤ c0) (h : Xbq.f k l0 = some r) :
  Calls Tryd.prog 51 #[.slice A0 l0.length c0] w fun e w' => ∃ v0_ : Value, e = .returned (v0_) ∧ Kd.R (Kd.slice 32 k32) 23 w' w.heap.size (fun _ => True) v0_ r ∧ Below w.heap.size w w' := by
 have HR0 := zq hr0
 have HC0 := zq hc0
 clear hr0 hc0
 have HB := zq (Below.refl w.heap.size w)
 unfold Xbq.f at h
 have H := h
 clear h
 refine yv H ?_; clear H; rintro t126 A2 H
 refine yB H ?_ ?_ <;> clear H <;> rintro rfl H
 ·obtain rfl := yo H
  go_enter Tryd.func51, Tryd.ntmps51
  go_wp2_with (first | ((with_reducible refine Xg (f := 26) rfl ?_); refine Xt (some 9) rfl rfl Tryd.func26 J8 rfl #[.slice A0 l0.length c0] rfl J1 ?_; (with_reducible refine (Xa7.calls k _ _ l0 false _ ?side1 ?side2 A2.out).mono ?_); (case side1 => exact zc HR0.out); (case side2 => exact HC0.out); rintro e w7 ⟨rfl, hb⟩; refine ⟨_, rfl, ?_⟩; replace HB := zq (Xd J0 hb); (try clear hb)))
  go_ret
  exact ⟨_, J2, J9, J0⟩
 refine yi H ?_; clear H; intro c4 H
 have c4b0 := decide_eq_true c4
 have c4b1 : decide (0 < l0.length) = true := decide_eq_true J35
 clear c4
 refine yI H ?_; clear H; intro c5 H
 have c5b0 : (((Xa l0 0).f0) == 5) = false := beq_eq_false_iff_ne.mpr c5
 have c5b1 : (((Xa l0 0).f0) != 5) = true := bne_iff_ne.mpr c5
 obtain rfl := yo H
 go_enter Tryd.func51, Tryd.ntmps51
 go_wp2_with (first | ((with_reducible refine Xg (f := 26) rfl ?_); refine Xt (some 9) rfl rfl Tryd.func26 J8 rfl #[.slice A0 l0.length c0] rfl J1 ?_; (with_reducible refine (Xa7.calls k _ _ l0 true _ ?side1 ?side2 A2.out).mono ?_); (case side1 => exact zc HR0.out); (case side2 => exact HC0.out); rintro e w6 ⟨rfl, hb⟩; refine ⟨_, rfl, ?_⟩; replace HB := zq (Xd J0 hb); (try clear hb); have p127 : 0 ≤ (0 : Int) := J35; have q127 : 0 < (l0.length : Int) := of_decide_eq_true J3; obtain ⟨ad127, A127_1, c127_1, A127_2, c127_2, A127_3, c127_3, e127, hx127_0, hx127_1, hx127_2, hx127_3, hl127_1, hi127_1, hl127_2, hi127_2, hl127_3, hi127_3⟩ := Xbz HR0.out 0 p127 q127; cases e127; have qi127 : (0 < l0.length) = True := eq_true J35; (try rw [show ((0 : Int)).toNat = 0 from rfl] at hx127_0); (try rw [show 0 * 4 = 0 from rfl] at hx127_0); (try rw [Addr.add_zero'] at hx127_0); (try rw [show ((0 : Int)).toNat = 0 from rfl] at hx127_1); (try rw [show 0 * 4 = 0 from rfl] at hx127_1); (try rw [Addr.add_zero'] at hx127_1); (try rw [show ((0 : Int)).toNat = 0 from rfl] at hx127_2); (try rw [show 0 * 4 = 0 from rfl] at hx127_2); (try rw [Addr.add_zero'] at hx127_2); (try rw [show ((0 : Int)).toNat = 0 from rfl] at hx127_3); (try rw [show 0 * 4 = 0 from rfl] at hx127_3); (try rw [Addr.add_zero'] at hx127_3); replace hx127_0 := yh HB hx127_0; replace hx127_1 := yh HB hx127_1; replace hx127_2 := yh HB hx127_2; replace hx127_3 := yh HB hx127_3; have HR127_1 := zq hi127_1; have HC127_1 := zq hl127_1; clear hi127_1 hl127_1; have HR127_2 := zq hi127_2; have HC127_2 := zq hl127_2; clear hi127_2 hl127_2; have HR127_3 := zq hi127_3; have HC127_3 := zq hl127_3; clear hi127_3 hl127_3; replace p127 := eq_true p127; replace q127 := eq_true q127))
 go_ret
 exact ⟨_, J2, J9, J0⟩
mutual
def Xs.j0 : Nat → Bool → Int → Int → Option (Int × Bool)
 | 0, _, _, _ => none
 | k + 1, x18, x129000, x129001 => if x18 = true then (some (0, false)) else (Xs.l0 k x129000 0 x129000 x129001)
def Xs.l0 : Nat → Int → Int → Int → Int → Option (Int × Bool)
 | 0, _, _, _, _ => none
 | k + 1, x4, x5, x129000, x129001 => if x5 < x129001 then (if x4 > 922337203685477580 then (some (0, false)) else (if x4 < (-922337203685477580) then (some (0, false)) else (Xs.l0 k (wrap64 (10 * x4)) (wrap64 (x5 + 1)) x129000 x129001))) else (some (x4, true))
end
def Xs.f (k : Nat) (a0_0 : Int) (a0_1 : Int) : Option (Int × Bool) := (X4.f k a0_0 a0_1).bind fun t129 => (if t129 = true then (if a0_1 < 0 then (Xs.j0 k true a0_0 a0_1) else (Xs.j0 k (decide (a0_1 > 18)) a0_0 a0_1)) else (Xs.j0 k true a0_0 a0_1))
theorem Xs.mono_l : ∀ k, (∀ y0 y1 y2, LeO (Xs.j0 k y0 y1 y2) (Xs.j0 (k + 1) y0 y1 y2)) ∧ (∀ y0 y1 y2 y3, LeO (Xs.l0 k y0 y1 y2 y3) (Xs.l0 (k + 1) y0 y1 y2 y3))
 | 0 => ⟨fun _ _ _ r h => by simp [Xs.j0] at h, fun _ _ _ _ r h => by simp [Xs.l0] at h⟩
 | k + 1 => by
  obtain ⟨ih0, ih1⟩ := Xs.mono_l k
  refine ⟨?_, ?_⟩
  ·intro y0 y1 y2
   unfold Xs.j0
   have im0 := @X4.mono
   exact mz3
  ·intro y0 y1 y2 y3
   unfold Xs.l0
   have im0 := @X4.mono
   exact mz3
theorem Xs.mono : ∀ a0 a1 k, LeO (Xs.f k a0 a1) (Xs.f (k + 1) a0 a1) := by
 intro a0 a1 k
 obtain ⟨ih0, ih1⟩ := Xs.mono_l k
 unfold Xs.f
 have im0 := @X4.mono
 exact mz3
set_option maxHeartbeats 8000000 in
set_option maxRecDepth 100000 in
theorem Xs.calls (k : Nat) (a0_0 : Int) (a0_1 : Int) (r1 : Int) (r2 : Bool) (w : World) (h : Xs.f k a0_0 a0_1 = some (r1, r2)) :
  Calls Tryd.prog 72 #[.agg #[.int .i64 a0_0, .int .i64 a0_1]] w fun e w' => e = .returned (.tuple #[.int .i64 r1, .bool r2]) ∧ Below w.heap.size w w' := by
 have hu40 := Tryd.underlying40
 have HB := zq (Below.refl w.heap.size w)
 unfold Xs.f at h
 have H := h
 clear h
 have HC2 := zq H
 clear H
 go_enter Tryd.func72, Tryd.ntmps72
 go_upto_region 1 with (first | ((with_reducible refine Xk (N := 1) rfl ?_); refine bxw 1 40 #[.int .i64 a0_0, .int .i64 a0_1] ?_; intro gb128 hg w3 hbox hb; have BK128 := zq (hbox); have GE128 := zq ((J12 : w.heap.size ≤ gb128)); replace HB := zq (Xd J0 hb); clear hb hbox hg))
 (try simp only [Act.put, List.setIfInBounds_toArray, List.set_cons_zero, List.set_cons_succ])
 go_cut [18] (fun v18 wc => ∃ (kq : Nat) (x18_1 : Bool), v18 = .bool x18_1 ∧ Aside0 (Xs.j0 kq x18_1 a0_0 a0_1 = some (r1, r2)) ∧ Aside0 (kq ≤ k) ∧ Aside0 (wc.heap[gb128]? = some (.cells #[.int .i64 a0_0, .int .i64 a0_1] 40 (0, 0))) ∧ Aside0 (Below w.heap.size w wc))
 case first =>
  have H := HC2.out
  clear HC2
  refine yv H ?_; clear H; rintro t129 A4 H
  refine yB H ?_ ?_ <;> clear H <;> rintro rfl H
  ·have H' := zq H
   clear H
   obtain ⟨hcz13_0, hcz13_1, hfz13_0, hfz13_1⟩ := cz2 BK128.out
   go_wp2_with (first | ((with_reducible refine Xg (f := 71) rfl ?_); refine Xt (some 7) rfl rfl Tryd.func71 J8 rfl #[.agg #[.int .i64 a0_0, .int .i64 a0_1]] rfl J1 ?_; (with_reducible refine (X4.calls k a0_0 a0_1 false _ A4.out).mono ?_); rintro e w14 ⟨rfl, hb⟩; refine ⟨_, rfl, ?_⟩; replace BK128 := zq (Xh (g := gb128) (o := .cells #[.int .i64 a0_0, .int .i64 a0_1] 40 (0, 0)) (zk BK128.out) hb); replace HB := zq (Xd (zs1 GE128.out) hb); (try clear hb)))
   go_meet
   case rel => exact ⟨_, (true), J4, H', ⟨J31⟩, ⟨J77⟩, ⟨J22⟩⟩
  refine yd H ?_ ?_ <;> clear H <;> rintro c6b0 H
  ·(first | rw [c6b0] | (simp only [Xbd, Xbh]; rw [c6b0]) | skip)
   have H' := zq H
   clear H
   obtain ⟨hcz10_0, hcz10_1, hfz10_0, hfz10_1⟩ := cz2 BK128.out
   go_wp2_with (first | ((with_reducible refine Xg (f := 71) rfl ?_); refine Xt (some 7) rfl rfl Tryd.func71 J8 rfl #[.agg #[.int .i64 a0_0, .int .i64 a0_1]] rfl J1 ?_; (with_reducible refine (X4.calls k a0_0 a0_1 true _ A4.out).mono ?_); rintro e w11 ⟨rfl, hb⟩; refine ⟨_, rfl, ?_⟩; replace BK128 := zq (Xh (g := gb128) (o := .cells #[.int .i64 a0_0, .int .i64 a0_1] 40 (0, 0)) (zk BK128.out) hb); replace HB := zq (Xd (zs1 GE128.out) hb); (try clear hb); obtain ⟨hcz12_0, hcz12_1, hfz12_0, hfz12_1⟩ := cz2 BK128.out))
   go_meet
   case rel => exact ⟨_, (decide (a0_1 > 18)), J4, H', ⟨J31⟩, ⟨J77⟩, ⟨J22⟩⟩
  (first | rw [c6b0] | (simp only [Xbd, Xbh]; rw [c6b0]) | skip)
  have H' := zq H
  clear H
  obtain ⟨hcz7_0, hcz7_1, hfz7_0, hfz7_1⟩ := cz2 BK128.out
  go_wp2_with (first | ((with_reducible refine Xg (f := 71) rfl ?_); refine Xt (some 7) rfl rfl Tryd.func71 J8 rfl #[.agg #[.int .i64 a0_0, .int .i64 a0_1]] rfl J1 ?_; (with_reducible refine (X4.calls k a0_0 a0_1 true _ A4.out).mono ?_); rintro e w8 ⟨rfl, hb⟩; refine ⟨_, rfl, ?_⟩; replace BK128 := zq (Xh (g := gb128) (o := .cells #[.int .i64 a0_0, .int .i64 a0_1] 40 (0, 0)) (zk BK128.out) hb); replace HB := zq (Xd (zs1 GE128.out) hb); (try clear hb); obtain ⟨hcz9_0, hcz9_1, hfz9_0, hfz9_1⟩ := cz2 BK128.out))
  go_meet
  case rel => exact ⟨_, (true), J4, H', ⟨J31⟩, ⟨J77⟩, ⟨J22⟩⟩
 case rest =>
  clear HC2
  obtain ⟨kq, x18_1, rfl, HA, HJ1, BK128, HB⟩ := hcut
  cases kq with
  | zero => exact absurd HA.out (by simp [Xs.j0])
  | succ kj1 =>
   have H := HA.out
   clear HA
   simp only [Xs.j0] at H
   refine yC H ?_ ?_ <;> clear H <;> rintro rfl H
   ·obtain ⟨rfl, rfl⟩ := yp2 H
    go_wp2
    go_ret2
    exact ⟨J2, J22⟩
   have H' := zq H
   clear H
   obtain ⟨hcz16_0, hcz16_1, hfz16_0, hfz16_1⟩ := cz2 BK128.out
   go_wp2
   go_loopg [4, 5] kj1 (fun kq v4 v5 w' => ∃ (x4_2 : Int) (x5_2 : Int), v4 = .int .i64 x4_2 ∧ v5 = .int .i64 x5_2 ∧ Aside0 (Xs.l0 kq x4_2 x5_2 a0_0 a0_1 = some (r1, r2)) ∧ Aside0 (kq ≤ kj1) ∧ Aside0 (w'.heap[gb128]? = some (.cells #[.int .i64 a0_0, .int .i64 a0_1] 40 (0, 0))) ∧ Aside0 (Below w.heap.size w w'))
   case atStart => exact ⟨(a0_0), (0), J4, J4, H', ⟨Nat.le_refl _⟩, ⟨J77⟩, ⟨J22⟩⟩
   case round =>
    clear H'
    try clear hcz16_0
    try clear hcz16_1
    try clear hfz16_0
    try clear hfz16_1
    obtain ⟨x4_2, x5_2, rfl, rfl, HA, HK2, BK128, HB⟩ := hrel
    cases gk with
    | zero => exact absurd HA.out (by simp [Xs.l0])
    | succ k2 =>
     have H := HA.out
     clear HA
     simp only [Xs.l0] at H
     refine yd H ?_ ?_ <;> clear H <;> rintro c17b0 H
     ·obtain ⟨rfl, rfl⟩ := yp2 H
      obtain ⟨hcz23_0, hcz23_1, hfz23_0, hfz23_1⟩ := cz2 BK128.out
      go_wp2
      go_ret2
      exact ⟨J2, J22⟩
     refine yD H ?_ ?_ <;> clear H <;> rintro c18b0 H
     ·obtain ⟨rfl, rfl⟩ := yp2 H
      obtain ⟨hcz19_0, hcz19_1, hfz19_0, hfz19_1⟩ := cz2 BK128.out
      go_wp2
      go_ret2
      exact ⟨J2, J22⟩
     refine yD H ?_ ?_ <;> clear H <;> rintro c20b0 H
     ·obtain ⟨rfl, rfl⟩ := yp2 H
      obtain ⟨hcz21_0, hcz21_1, hfz21_0, hfz21_1⟩ := cz2 BK128.out
      go_wp2
      go_ret2
      exact ⟨J2, J22⟩
     have H' := zq H
     clear H
     obtain ⟨hcz22_0, hcz22_1, hfz22_0, hfz22_1⟩ := cz2 BK128.out
     go_wp2
     go_roundg k2
     case measure => have := HJ1.out; have := HK2.out; omega
     case rel => exact ⟨(wrap64 (10 * x4_2)), (wrap64 (x5_2 + 1)), J4, J4, H', ⟨J157⟩, ⟨J77⟩, ⟨J22⟩⟩
end Go.Proofs.YtfjhiiaahbjaiaaDoor.HSystemFirst
