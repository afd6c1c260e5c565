/- What the Go functions of this claim answer, told as functions of numbers and lists, and that other memory stays as it was: words and walks, shortened by a program. -/
import Derived.Test.YtfjhiiaahbjaiaaDoorSSystemFirstx0
import Derived.Test.YtfjhiiaahbjaiaaDoorSSystemFirstx7
import Derived.Test.YtfjhiiaahbjaiaaDoorSSystemFirstx17
import Derived.Test.YtfjhiiaahbjaiaaDoorSSystemFirstx18
import Derived.Test.YtfjhiiaahbjaiaaDoorSSystemFirstx19
import Derived.Test.YtfjhiiaahbjaiaaDoorSSystemFirstx22
import Derived.Test.YtfjhiiaahbjaiaaDoorSSystemFirstx23
namespace Go.Proofs.YtfjhiiaahbjaiaaDoor.HSystemFirst
open Go.RowKit Go.Proofs.YtfjhiiaahbjaiaaDoorW.PrintWords Go.Proofs.YtfjhiiaahbjaiaaDoorW.PrintLast Go.Proofs.YtfjhiiaahbjaiaaDoorW.PrintMore
attribute [local go_sem] Xby Xbw Xcb Xca Xbp Xbo Xbx Xbv
set_option linter.unusedVariables false
set_option linter.unusedSimpArgs false
mutual
def Xp.j0 : Nat → ByteArray → List (S32) → Bool → Bool → Option (Bool)
 | 0, _, _, _, _ => none
 | k + 1, x0, x1, x5, x22 => if x22 = true then (some x5) else ((Xaw.f k x0).bind fun bt736 => ((Xcy.f x0).bind fun t740 => ((Xcm.f).bind fun t741 => (Xp.l0 k x0 x1 x5 bt736.1 bt736.2 t740 t741 false 0))))
def Xp.l0 : Nat → ByteArray → List (S32) → Bool → List (S32) → Bool → Bool → List ByteArray → Bool → Int → Option (Bool)
 | 0, _, _, _, _, _, _, _, _, _ => none
 | k + 1, x0, x1, x5, x7, x8, x9, x10, x11, x12 => if x12 < (x10.length : Int) then (if x11 = true then (Xp.l0 k x0 x1 x5 x7 x8 x9 x10 true (wrap64 (x12 + 1))) else (if 0 ≤ x12 then (Xp.l0 k x0 x1 x5 x7 x8 x9 x10 ((rdOf ByteArray.empty x10 x12).toList == x0.toList) (wrap64 (x12 + 1))) else (none))) else (if (x8 != x9) = true then (Xp.j2 k x0 x1 x5 x9 true) else (if (x11 != x9) = true then (Xp.j2 k x0 x1 x5 x9 true) else (if x8 = true then ((X1.f k x0 x7).bind fun t745 => (Xp.j2 k x0 x1 x5 x9 (!t745))) else (Xp.j2 k x0 x1 x5 x9 false))))
def Xp.j2 : Nat → ByteArray → List (S32) → Bool → Bool → Bool → Option (Bool)
 | 0, _, _, _, _, _ => none
 | k + 1, x0, x1, x5, x9, x63 => if x63 = true then (none) else (if x5 = true then ((X1.f k x0 x1).bind fun t746 => (if t746 = true then (if x9 = true then ((Xa6.f k x1).bind fun t747 => (some t747)) else (none)) else (some true))) else (none))
end
def Xp.f (k : Nat) (a0 : ByteArray) (l1 : List (S32)) : Option (Bool) := (Xbl.f k).bind fun t734 => ((X6.f k l1).bind fun t735 => (if t735 = true then (Xp.j0 k a0 l1 t734 (decide ((a0.size : Int) > 50))) else (Xp.j0 k a0 l1 t734 true)))
set_option maxHeartbeats 8000000 in
set_option maxRecDepth 100000 in
theorem Xp.calls (k : Nat) (a0 : ByteArray) (A1 : Option Addr) (c1 : Nat) (l1 : List (S32)) (r : Bool) (w : World) (hr1 : Kd.C k32 w A1 l1.length l1) (hc1 : l1.length ≤ c1) (ht_ : HTab w) (h : Xp.f k a0 l1 = some r) :
  Calls Tryd.prog 5 #[.string a0, .slice A1 l1.length c1] w fun e w' => e = .returned (.bool r) ∧ Below w.heap.size w w' := by
 have HT := zq ht_
 clear ht_
 have HR1 := zq hr1
 have HC1 := zq hc1
 clear hr1 hc1
 have HB := zq (Below.refl w.heap.size w)
 unfold Xp.f at h
 have H := h
 clear h
 refine yv H ?_; clear H; rintro t734 A3 H
 refine yv H ?_; clear H; rintro t735 A4 H
 have HC5 := zq H
 clear H
 go_enter Tryd.func5, Tryd.ntmps5
 go_upto_region 3 with (first | ((with_reducible refine Xg (f := 6) rfl ?_); refine Xt (some 13) rfl rfl Tryd.func6 J8 rfl #[] rfl J1 ?_; (with_reducible refine (Xbl.calls k  t734 _ (Xbm HT.out J0) A3.out).mono ?_); rintro e w6 ⟨rfl, hb⟩; refine ⟨_, rfl, ?_⟩; replace HB := zq (Xd J0 hb); (try clear hb); (try clear hk)) | ((with_reducible refine Xg (f := 11) rfl ?_); refine Xt (some 15) rfl rfl Tryd.func11 J8 rfl #[.slice A1 l1.length c1] rfl J1 ?_; (with_reducible refine (X6.calls k _ _ l1 t735 _ ?side1 ?side2 A4.out).mono ?_); (case side1 => exact zc (Kd.C_below HR1.out HB.out)); (case side2 => exact HC1.out); rintro e w' ⟨rfl, ⟨nd, rfl⟩⟩; refine ⟨_, rfl, ?_⟩))
 (try simp only [Act.put, List.setIfInBounds_toArray, List.set_cons_zero, List.set_cons_succ])
 go_cut [22] (fun v22 wc => ∃ (kq : Nat) (x22_4 : Bool), v22 = .bool x22_4 ∧ Aside0 (Xp.j0 kq a0 l1 t734 x22_4 = some r) ∧ Aside0 (kq ≤ k) ∧ Aside0 (Below w.heap.size w wc))
 case first =>
  have H := HC5.out
  clear HC5
  refine yC H ?_ ?_ <;> clear H <;> rintro rfl H
  ·have H' := zq H
   clear H
   go_wp2
   go_meet
   case rel => exact ⟨_, (decide ((a0.size : Int) > 50)), J4, H', ⟨J31⟩, ⟨J0⟩⟩
  have H' := zq H
  clear H
  go_wp2
  go_meet
  case rel => exact ⟨_, (true), J4, H', ⟨J31⟩, ⟨J0⟩⟩
 case rest =>
  clear HC5
  try clear c1
  obtain ⟨kq, x22_4, rfl, HA, HJ4, HB⟩ := hcut
  cases kq with
  | zero => exact absurd HA.out (by simp [Xp.j0])
  | succ kj4 =>
   have H := HA.out
   clear HA
   simp only [Xp.j0] at H
   refine yC H ?_ ?_ <;> clear H <;> rintro rfl H
   ·obtain rfl := yo H
    go_wp2
    go_ret
    exact ⟨J2, J0⟩
   refine yv H ?_; clear H; rintro ⟨t736, t739⟩ A9 H
   dsimp only at H
   refine yv H ?_; clear H; rintro t740 A10 H
   refine yv H ?_; clear H; rintro t741 A11 H
   have H' := zq H
   clear H
   go_wp2_with (first | ((with_reducible refine Xg (f := 12) rfl ?_); refine Xt (some 26) rfl rfl Tryd.func12 J8 rfl #[.string a0] rfl J1 ?_; (with_reducible refine (Xaw.calls kj4 a0 t736 t739 _ A9.out).mono ?_); rintro e w12 ⟨v737, rfl, ho0, hb⟩; refine ⟨_, rfl, ?_⟩; have HO738 := zq (Kd.N_lower (Kd.N_mono (ok' := fun k_ => True) ho0 (fun k_ hk_ => trivial)) (Xf J0)); replace HB := zq (Xd J0 hb); (try clear hb); (try clear hk); (try clear ho0)) | ((with_reducible refine Xg (f := 13) rfl ?_); refine Xt (some 30) rfl rfl Tryd.func13 J8 rfl #[.string a0] rfl J1 ?_; (with_reducible refine (Xcy.calls a0 t740 _ A10.out).mono ?_); rintro e w' ⟨rfl, ⟨nd, rfl⟩⟩; refine ⟨_, rfl, ?_⟩) | ((with_reducible refine Xg (f := 8) rfl ?_); refine Xt (some 31) rfl rfl Tryd.func8 J8 rfl #[] rfl J1 ?_; (with_reducible refine (Xcm.calls  t741 _ A11.out).mono ?_); rintro e w13 ⟨v742, rfl, ho0, hb⟩; refine ⟨_, rfl, ?_⟩; replace HO738 := zq (Kd.N_elder' (zn HO738.out) (Kd.R_base ho0) hb); have HO743 := zq (Kd.R_lower ho0 (Xf J0)); replace HB := zq (Xd J0 hb); (try clear hb); (try clear hk); (try clear ho0)))
   go_loopg [11, 12] kj4 (fun kq v11 v12 w' => ∃ (x11_2 : Bool) (x12_2 : Int), v11 = .bool x11_2 ∧ v12 = .int .i64 x12_2 ∧ Aside0 (Xp.l0 kq a0 l1 t734 t736 t739 t740 t741 x11_2 x12_2 = some r) ∧ Aside0 (kq ≤ kj4) ∧ Aside0 (Kd.N k32 32 w' w.heap.size (fun k_ => some k_ ≠ (v742 : Value).ownBlock) v737 t736) ∧ Aside0 (Kd.R Kd.string 9 w' w.heap.size (fun _ => True) v742 t741) ∧ Aside0 (Below w.heap.size w w'))
   case atStart => exact ⟨(false), (0), J4, J4, H', ⟨Nat.le_refl _⟩, ⟨by (with_reducible repeat (first | apply Kd.N_alloc | apply Kd.N_drewN | apply Kd.N_drew)); exact Kd.N_mono HO738.out (fun _ hk => hk.2)⟩, ⟨by (with_reducible repeat (first | apply Kd.R_alloc | apply Kd.R_drewN | apply Kd.R_drew)); exact HO743.out⟩, ⟨J0⟩⟩
   case round =>
    clear H'
    try clear c1
    obtain ⟨x11_2, x12_2, rfl, rfl, HA, HK2, HO_7, HO_10, HB⟩ := hrel
    cases gk with
    | zero => exact absurd HA.out (by simp [Xp.l0])
    | succ k2 =>
     have H := HA.out
     clear HA
     simp only [Xp.l0] at H
     refine yD H ?_ ?_ <;> clear H <;> rintro c14b0 H
     ·refine yC H ?_ ?_ <;> clear H <;> rintro rfl H
      ·have H' := zq H
       clear H
       obtain ⟨Ao16, co16, eo16⟩ := Kd.R_slice HO_10.out
       subst eo16
       go_wp2
       go_roundg k2
       case measure => have := HJ4.out; have := HK2.out; omega
       case rel => exact ⟨(true), (wrap64 (x12_2 + 1)), J4, J4, H', ⟨by have := HJ4.out; have := HK2.out; omega⟩, ⟨J164⟩, ⟨J160⟩, ⟨J0⟩⟩
      ·refine yu H ?_ ?_ <;> clear H <;> rintro c17 H
       ·have c17b0 : decide (0 ≤ x12_2) = true := decide_eq_true c17
        clear c17
        have H' := zq H
        clear H
        obtain ⟨Ao18, co18, eo18⟩ := Kd.R_slice HO_10.out
        subst eo18
        have p744 : 0 ≤ (x12_2 : Int) := of_decide_eq_true J3
        have q744 : x12_2 < (t741.length : Int) := of_decide_eq_true J3
        obtain ⟨ad744, e744, hx744_0⟩ := Kd.at_string (Kd.R_reads' HO_10.out).2.2 x12_2 p744 q744
        cases e744
        replace p744 := eq_true p744
        replace q744 := eq_true q744
        go_wp2
        go_roundg k2
        case measure => have := HJ4.out; have := HK2.out; omega
        case rel => exact ⟨(((rdOf ByteArray.empty t741 x12_2).toList == a0.toList)), (wrap64 (x12_2 + 1)), J4, J4, H', ⟨by have := HJ4.out; have := HK2.out; omega⟩, ⟨J164⟩, ⟨J160⟩, ⟨J0⟩⟩
       ·exact absurd H J88
     have HC19 := zq H
     clear H
     obtain ⟨Ao20, co20, eo20⟩ := Kd.R_slice HO_10.out
     subst eo20
     go_upto_region 13 with (fail)
     go_cut [63] (fun v63 wc => ∃ (kq : Nat) (x63_18 : Bool), v63 = .bool x63_18 ∧ Aside0 (Xp.j2 kq a0 l1 t734 t740 x63_18 = some r) ∧ Aside0 (kq ≤ k2) ∧ Aside0 (Below w.heap.size w wc))
     case first =>
      have H := HC19.out
      clear HC19
      refine yu H ?_ ?_ <;> clear H <;> rintro c21 H
      ·have c21b0 : (t739 != t740) = true := c21
       (try (have c21b1 : decide (t739 = t740) = false := by simpa using c21))
       (try (have c21b2 : (t739 == t740) = false := by simpa using c21))
       (try (have c21b3 : ¬ (t739 = t740) := by simpa using c21))
       clear c21
       (first | rw [c21b0] | (simp only [Xbd, Xbh]; rw [c21b0]) | skip)
       have H' := zq H
       clear H
       go_wp2
       go_meet
       case rel => exact ⟨_, (true), J4, H', ⟨J119⟩, ⟨J0⟩⟩
      have c21b0 : (t739 != t740) = false := by simpa using c21
      (try (have c21b1 : decide (t739 = t740) = true := by simpa using c21))
      (try (have c21b2 : (t739 == t740) = true := by simpa using c21))
      clear c21
      (first | rw [c21b0] | (simp only [Xbd, Xbh]; rw [c21b0]) | skip)
      refine yu H ?_ ?_ <;> clear H <;> rintro c22 H
      ·have c22b0 : (x11_2 != t740) = true := c22
       (try (have c22b1 : decide (x11_2 = t740) = false := by simpa using c22))
       (try (have c22b2 : (x11_2 == t740) = false := by simpa using c22))
       (try (have c22b3 : ¬ (x11_2 = t740) := by simpa using c22))
       clear c22
       have H' := zq H
       clear H
       go_wp2
       go_meet
       case rel => exact ⟨_, (true), J4, H', ⟨J119⟩, ⟨J0⟩⟩
      have c22b0 : (x11_2 != t740) = false := by simpa using c22
      (try (have c22b1 : decide (x11_2 = t740) = true := by simpa using c22))
      (try (have c22b2 : (x11_2 == t740) = true := by simpa using c22))
      clear c22
      refine yB H ?_ ?_ <;> clear H <;> rintro rfl H
      ·have H' := zq H
       clear H
       go_wp2
       go_meet
       case rel => exact ⟨_, (false), J4, H', ⟨J119⟩, ⟨J0⟩⟩
      refine yv H ?_; clear H; rintro t745 A24 H
      have H' := zq H
      clear H
      obtain ⟨Ao25, co25, eo25⟩ := Kd.N_slice HO_7.out
      subst eo25
      go_wp2_with (first | (go_at_call 9; (with_reducible refine (X1.calls k2 a0 _ _ t736 t745 _ ?side1 ?side2 (Xbm HT.out J0) A24.out).mono ?_); (case side1 => exact zc ((Kd.N_reads' HO_7.out).2.2)); (case side2 => exact (Kd.N_reads' HO_7.out).2.1); rintro e w26 ⟨rfl, hb⟩; replace HB := zq (Xd J0 hb); (try clear hb); (try clear hk)))
      go_meet
      case rel => exact ⟨_, (!t745), J4, H', ⟨J119⟩, ⟨J0⟩⟩
     case rest =>
      clear HC19
      try clear c1
      try clear c14b0
      obtain ⟨kq, x63_18, rfl, HA, HJ18, HB⟩ := hcut
      cases kq with
      | zero => exact absurd HA.out (by simp [Xp.j2])
      | succ kj18 =>
       have H := HA.out
       clear HA
       simp only [Xp.j2] at H
       refine yC H ?_ ?_ <;> clear H <;> rintro rfl H
       ·exact absurd H J88
       refine yB H ?_ ?_ <;> clear H <;> rintro rfl H
       ·exact absurd H J88
       refine yv H ?_; clear H; rintro t746 A29 H
       refine yB H ?_ ?_ <;> clear H <;> rintro rfl H
       ·obtain rfl := yo H
        go_wp2_with (first | (go_at_call 9; (with_reducible refine (X1.calls kj18 a0 _ _ l1 false _ ?side1 ?side2 (Xbm HT.out J0) A29.out).mono ?_); (case side1 => exact zc (Kd.C_below HR1.out HB.out)); (case side2 => exact HC1.out); rintro e w35 ⟨rfl, hb⟩; replace HB := zq (Xd J0 hb); (try clear hb); (try clear hk)))
        go_ret
        exact ⟨J2, J0⟩
       refine yB H ?_ ?_ <;> clear H <;> rintro rfl H
       ·exact absurd H J88
       refine yv H ?_; clear H; rintro t747 A32 H
       obtain rfl := yo H
       go_wp2_with (first | (go_at_call 9; (with_reducible refine (X1.calls kj18 a0 _ _ l1 true _ ?side1 ?side2 (Xbm HT.out J0) A29.out).mono ?_); (case side1 => exact zc (Kd.C_below HR1.out HB.out)); (case side2 => exact HC1.out); rintro e w33 ⟨rfl, hb⟩; replace HB := zq (Xd J0 hb); (try clear hb); (try clear hk)) | (go_at_call 10; (with_reducible refine (Xa6.calls kj18 _ _ l1 t747 _ ?side1 ?side2 A32.out).mono ?_); (case side1 => exact zc (Kd.C_below HR1.out HB.out)); (case side2 => exact HC1.out); rintro e w34 ⟨rfl, hb⟩; replace HB := zq (Xd J0 hb); (try clear hb); (try clear hk)))
       go_ret
       exact ⟨J2, J0⟩
end Go.Proofs.YtfjhiiaahbjaiaaDoor.HSystemFirst
