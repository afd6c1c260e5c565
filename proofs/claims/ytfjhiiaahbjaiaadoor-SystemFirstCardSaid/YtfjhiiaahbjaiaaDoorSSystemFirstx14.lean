/- What the Go functions of this claim answer, told as functions of numbers and lists, and that other memory stays as it was: words and walks, shortened by a program. -/
import Derived.Test.YtfjhiiaahbjaiaaDoorSSystemFirstx0
import Derived.Test.YtfjhiiaahbjaiaaDoorSSystemFirstx8
import Derived.Test.YtfjhiiaahbjaiaaDoorSSystemFirstx12
import Derived.Test.YtfjhiiaahbjaiaaDoorSSystemFirstx13
namespace Go.Proofs.YtfjhiiaahbjaiaaDoor.HSystemFirst
open Go.RowKit Go.Proofs.YtfjhiiaahbjaiaaDoorW.PrintWords Go.Proofs.YtfjhiiaahbjaiaaDoorW.PrintLast Go.Proofs.YtfjhiiaahbjaiaaDoorW.PrintMore
attribute [local go_sem] Xby Xbw Xcb Xca Xbp Xbo Xbx Xbv
set_option linter.unusedVariables false
set_option linter.unusedSimpArgs false
mutual
def array_Kids.j0 : Nat → List (S32) → List (List (S32)) → Bool → Option ((List (List (S32))))
 | 0, _, _, _ => none
 | k + 1, x0, x2, x13 => if x13 = true then (some ([] : List (List (S32)))) else (if 1 ≤ (x0.length : Int) then (array_Kids.l0 k (x0.drop 1) x2) else (none))
def array_Kids.l0 : Nat → List (S32) → List (List (S32)) → Option ((List (List (S32))))
 | 0, _, _ => none
 | k + 1, x0, x2 => if (x0.length : Int) > 0 then ((Xb5.f k x0).bind fun t317 => (if 0 ≤ t317 then (if t317 ≤ (x0.length : Int) then ((Xco.f (x0.take (t317 : Int).toNat)).bind fun t323 => (if x2.length < 5864062014805 then (array_Kids.l0 k (x0.drop (t317 : Int).toNat) (x2 ++ [t323])) else (none))) else (none)) else (none))) else (some x2)
end
def array_Kids.f (k : Nat) (l0 : List (S32)) : Option ((List (List (S32)))) := (Xbj.f k l0).bind fun t310 => (if t310 = true then (if 0 < (l0.length : Int) then (array_Kids.j0 k l0 ([] : List (List (S32))) (((Xa l0 0).f0) != 5)) else (none)) else (array_Kids.j0 k l0 ([] : List (List (S32))) true))
theorem array_Kids.mono_l : ∀ k, (∀ y0 y1 y2, LeO (array_Kids.j0 k y0 y1 y2) (array_Kids.j0 (k + 1) y0 y1 y2)) ∧ (∀ y0 y1, LeO (array_Kids.l0 k y0 y1) (array_Kids.l0 (k + 1) y0 y1))
 | 0 => ⟨fun _ _ _ r h => by simp [array_Kids.j0] at h, fun _ _ r h => by simp [array_Kids.l0] at h⟩
 | k + 1 => by
  obtain ⟨ih0, ih1⟩ := array_Kids.mono_l k
  refine ⟨?_, ?_⟩
  ·intro y0 y1 y2
   unfold array_Kids.j0
   have im0 := @Xbj.mono
   have im1 := @Xb5.mono
   exact mz3
  ·intro y0 y1
   unfold array_Kids.l0
   have im0 := @Xbj.mono
   have im1 := @Xb5.mono
   exact mz3
theorem array_Kids.mono : ∀ a0 k, LeO (array_Kids.f k a0) (array_Kids.f (k + 1) a0) := by
 intro a0 k
 obtain ⟨ih0, ih1⟩ := array_Kids.mono_l k
 unfold array_Kids.f
 have im0 := @Xbj.mono
 have im1 := @Xb5.mono
 exact mz3
def array_Kids.T6 : Bool × List (List Nat × List Nat) := (true, [([], []), ([], []), ([], []), ([1, 2], [1, 2]), ([3], [3]), ([4], [4]), ([0, 5, 4], [0, 5]), ([], []), ([], []), ([7, 8], [7, 8]), ([6, 6, 0, 1, 2, 3, 4, 5, 6], [0, 6]), ([9, 10, 0, 1, 2, 3, 4, 5, 6, 7, 8, 9, 10], [1, 7, 9])])
def array_Kids.B6 : List Nat := [0, 0, 0, 6, 14, 30, 63, 0, 0, 384, 127, 2047]
theorem array_Kids.tab6 : Xc8 .any (opsOf Tryd.f60 6) = array_Kids.T6 := J8
theorem array_Kids.bits6 : Xdc array_Kids.T6.2 array_Kids.B6 = true := J8
set_option maxHeartbeats 8000000 in
set_option maxRecDepth 100000 in
theorem array_Kids.calls0 (k : Nat) (P0_ : Nat → Prop) (A0 : Option Addr) (c0 : Nat) (l0 : List (S32)) (r : List (List (S32))) (w : World) (hs0 : Kd.V k32 32 w w.heap.size (fun k_ => P0_ k_) (.slice A0 l0.length c0) l0) (h : array_Kids.f k l0 = some r) :
  Calls Tryd.prog 60 #[.slice A0 l0.length c0] w fun e w' => ∃ v0_ : Value, e = .returned (v0_) ∧ Kd.R (Kd.slice 32 k32) 23 w' w.heap.size (fun k_ => (w.heap.size ≤ k_)) v0_ r ∧ Below w.heap.size w w' := by
 have HO0 := zq (show Kd.V k32 32 w w.heap.size (fun k_ => (P0_ k_ ∨ w.heap.size ≤ k_)) (.slice A0 l0.length c0) l0 from Kd.V_mono hs0 (fun k_ hk => .inl hk))
 have HB := zq (Below.refl w.heap.size w)
 have H : ((Xbj.f k l0).bind fun t310 => (if t310 = true then (if 0 < (l0.length : Int) then (array_Kids.j0 k l0 ([] : List (List (S32))) (((Xa l0 0).f0) != 5)) else (none)) else (array_Kids.j0 k l0 ([] : List (List (S32))) true))) = some r := h
 clear h
 have HC2 := zq H
 clear H
 go_enter Tryd.func60, Tryd.ntmps60
 go_upto_region 1 with (fail)
 go_cut [13] (fun v13 wc => ∃ (kq : Nat) (x13_1 : Bool), v13 = .bool x13_1 ∧ Aside0 (array_Kids.j0 kq l0 ([] : List (List (S32))) x13_1 = some r) ∧ Aside0 (kq ≤ k) ∧ Aside0 (Kd.V k32 32 wc w.heap.size (fun k_ => (P0_ k_ ∨ w.heap.size ≤ k_) ∧ some k_ ≠ ((.slice none 0 0) : Value).ownBlock) (.slice A0 l0.length c0) l0) ∧ Aside0 (Kd.R (Kd.slice 32 k32) 23 wc w.heap.size (fun k_ => (w.heap.size ≤ k_)) (.slice none 0 0) ([] : List (List (S32)))) ∧ Aside0 (Below w.heap.size w wc))
 case first =>
  have H := HC2.out
  clear HC2
  refine yv H ?_; clear H; rintro t310 A3 H
  refine yB H ?_ ?_ <;> clear H <;> rintro rfl H
  ·have H' := zq H
   clear H
   go_wp2_with (first | ((with_reducible refine Xg (f := 32) rfl ?_); refine Xt (some 5) rfl rfl Tryd.func32 J8 rfl #[.slice A0 l0.length c0] rfl J1 ?_; (with_reducible refine (Xbj.calls k _ _ l0 false _ ?side1 ?side2 A3.out).mono ?_); (case side1 => exact zc ((Kd.V_reads' HO0.out).2.2)); (case side2 => exact (Kd.V_reads' HO0.out).2.1); rintro e w7 ⟨rfl, hb⟩; refine ⟨_, rfl, ?_⟩; replace HO0 := zq (Kd.V_below (zv HO0.out) hb); replace HB := zq (Xd J0 hb); (try clear hb); (try clear hk)))
   go_meet
   case rel => exact ⟨_, (true), J4, H', ⟨J31⟩, ⟨J133⟩, ⟨J9⟩, ⟨J0⟩⟩
  refine yi H ?_; clear H; intro c5 H
  have c5b0 := decide_eq_true c5
  have c5b1 : decide (0 < l0.length) = true := decide_eq_true J35
  clear c5
  (first | rw [c5b0] | (simp only [Xbd, Xbh]; rw [c5b0]) | skip)
  have H' := zq H
  clear H
  go_wp2_with (first | ((with_reducible refine Xg (f := 32) rfl ?_); refine Xt (some 5) rfl rfl Tryd.func32 J8 rfl #[.slice A0 l0.length c0] rfl J1 ?_; (with_reducible refine (Xbj.calls k _ _ l0 true _ ?side1 ?side2 A3.out).mono ?_); (case side1 => exact zc ((Kd.V_reads' HO0.out).2.2)); (case side2 => exact (Kd.V_reads' HO0.out).2.1); rintro e w6 ⟨rfl, hb⟩; refine ⟨_, rfl, ?_⟩; replace HO0 := zq (Kd.V_below (zv HO0.out) hb); replace HB := zq (Xd J0 hb); (try clear hb); (try clear hk); have p311 : 0 ≤ (0 : Int) := J35; have q311 : 0 < (l0.length : Int) := of_decide_eq_true J3; obtain ⟨ad311, A311_1, c311_1, A311_2, c311_2, A311_3, c311_3, e311, hx311_0, hx311_1, hx311_2, hx311_3, hl311_1, hi311_1, hl311_2, hi311_2, hl311_3, hi311_3⟩ := Xbz (Kd.V_reads' HO0.out).2.2 0 p311 q311; cases e311; obtain ⟨ce311, hce311, hMe311, hcc311⟩ := Kd.V_get HO0.out z32 0 p311 (by first | exact q311 | exact of_decide_eq_true J3 | (have e_ := (Kd.V_reads' HO0.out).1; omega)); obtain ⟨ua311_1, uc311_1, ua311_2, uc311_2, ua311_3, uc311_3, rfl, ul311_1, ge311_1, ul311_2, ge311_2, ul311_3, ge311_3⟩ := Xeb hMe311; have hv311_1 := hcc311 1 _ rfl; rw [Xch _ _ 1 J35] at hv311_1; replace hv311_1 := Option.some.inj (hv311_1.symm.trans hx311_1); injection hv311_1 with hva_ hvn_ hvc_; rw [hva_] at ge311_1; rw [hvc_] at ul311_1; have HL311_1 := zq (show Kd.V (Kd.int .i64) 3 _ w.heap.size _ _ ((Xa l0 0).f1) from Kd.V_mk ul311_1 ge311_1); clear hva_ hvn_ hvc_ ge311_1 ul311_1; have hv311_2 := hcc311 2 _ rfl; rw [Xch _ _ 2 J35] at hv311_2; replace hv311_2 := Option.some.inj (hv311_2.symm.trans hx311_2); injection hv311_2 with hva_ hvn_ hvc_; rw [hva_] at ge311_2; rw [hvc_] at ul311_2; have HL311_2 := zq (show Kd.V (Kd.int .i64) 3 _ w.heap.size _ _ ((Xa l0 0).f2) from Kd.V_mk ul311_2 ge311_2); clear hva_ hvn_ hvc_ ge311_2 ul311_2; have hv311_3 := hcc311 3 _ rfl; rw [Xch _ _ 3 J35] at hv311_3; replace hv311_3 := Option.some.inj (hv311_3.symm.trans hx311_3); injection hv311_3 with hva_ hvn_ hvc_; rw [hva_] at ge311_3; rw [hvc_] at ul311_3; have HL311_3 := zq (show Kd.V k40 40 _ w.heap.size _ _ ((Xa l0 0).f3) from Kd.V_mk ul311_3 ge311_3); clear hva_ hvn_ hvc_ ge311_3 ul311_3; clear hcc311 hce311; have qi311 : (0 < l0.length) = True := eq_true J35; (try rw [show ((0 : Int)).toNat = 0 from rfl] at hx311_0); (try rw [show 0 * 4 = 0 from rfl] at hx311_0); (try rw [Addr.add_zero'] at hx311_0); (try rw [show ((0 : Int)).toNat = 0 from rfl] at hx311_1); (try rw [show 0 * 4 = 0 from rfl] at hx311_1); (try rw [Addr.add_zero'] at hx311_1); (try rw [show ((0 : Int)).toNat = 0 from rfl] at hx311_2); (try rw [show 0 * 4 = 0 from rfl] at hx311_2); (try rw [Addr.add_zero'] at hx311_2); (try rw [show ((0 : Int)).toNat = 0 from rfl] at hx311_3); (try rw [show 0 * 4 = 0 from rfl] at hx311_3); (try rw [Addr.add_zero'] at hx311_3); have HR311_1 := zq hi311_1; have HC311_1 := zq hl311_1; clear hi311_1 hl311_1; have HR311_2 := zq hi311_2; have HC311_2 := zq hl311_2; clear hi311_2 hl311_2; have HR311_3 := zq hi311_3; have HC311_3 := zq hl311_3; clear hi311_3 hl311_3; replace p311 := eq_true p311; replace q311 := eq_true q311))
  go_meet
  case rel => exact ⟨_, ((((Xa l0 0).f0) != 5)), J4, H', ⟨J31⟩, ⟨J133⟩, ⟨J9⟩, ⟨J0⟩⟩
 case rest =>
  clear HC2
  obtain ⟨kq, x13_1, rfl, HA, HJ1, HO_0, HO_2, HB⟩ := hcut
  cases kq with
  | zero => exact absurd HA.out (by simp [array_Kids.j0])
  | succ kj1 =>
   have H := HA.out
   clear HA
   simp only [array_Kids.j0] at H
   refine yC H ?_ ?_ <;> clear H <;> rintro rfl H
   ·obtain rfl := yo H
    go_wp2
    go_ret
    exact ⟨_, J2, J9, J0⟩
   refine yi H ?_; clear H; intro c9 H
   have c9b0 := eq_true c9
   have c9b1 := decide_eq_true c9
   clear c9
   obtain ⟨y312, hy312⟩ : ∃ y_ : List (S32), y_ = (l0.drop 1) := ⟨_, rfl⟩
   replace H : (array_Kids.l0 kj1 y312 ([] : List (List (S32)))) = some r := by first | (rw [hy312]; with_reducible exact H) | (have H2_ := (Option.bind_some _ _).symm.trans H; rw [hy312]; with_reducible exact H2_) | (have H2_ := (Option.bind_some _ _).symm.trans H; with_reducible exact H2_) | with_reducible exact H | (rw [hy312]; exact H) | exact H
   have Ny312 := zq hy312
   clear hy312
   have H' := zq H
   clear H
   have q10 : (1 : Int) ≤ ((l0.length : Int) : Int) := of_decide_eq_true J3
   obtain ⟨i010, hi010, _, hsz10, _⟩ := info_parts Xd5
   have hroom10 : l0.length ≤ c0 := (Kd.V_reads' HO_0.out).2.1
   have hC10 : Kd.F k32 _ _ A0 l0.length l0 := (Kd.V_at (base := w.heap.size) HO_0.out).2.2
   have hcut10 := cut_from (P := Tryd.prog) 23 32 .i64 Tryd.underlying23 hi010 4 hsz10 A0 l0.length c0 1 J35 q10
   have hr10 := Kd.F_cut (m := (1 : Int).toNat) (c := c0) hC10 J35 hroom10
   obtain ⟨A10, hA10⟩ : ∃ A_, A_ = (if c0 = (1 : Int).toNat then A0 else (A0 : Option Addr).map (·.add ((1 : Int).toNat * 4))) := ⟨_, rfl⟩
   obtain ⟨c10, hc10⟩ : ∃ c_, c_ = c0 - (1 : Int).toNat := ⟨_, rfl⟩
   have hy10 : y312.length = l0.length - (1 : Int).toNat := (by rw [Ny312.out, List.length_drop] <;> omega)
   rw [show (l0).drop (1 : Int).toNat = y312 from Ny312.out.symm] at hr10
   replace hr10 : Kd.F k32 _ _ A10 y312.length y312 := (by rw [hA10]; exact hr10)
   rw [← hy10, ← hA10, ← hc10] at hcut10
   have HO316 := zq (show Kd.V k32 32 _ w.heap.size _ (.slice A10 y312.length c10) y312 from Kd.V_mk (by rw [hy10, hc10]; exact Nat.sub_le_sub_right hroom10 _) hr10)
   have HC316 := zq (show y312.length ≤ c10 from by rw [hy10, hc10]; exact Nat.sub_le_sub_right hroom10 _)
   clear hr10 hC10 hroom10 hi010 hsz10 hc10
   have KY10 := zq hy10
   have KA10 := zq hA10
   clear hy10 hA10
   replace q10 := eq_true q10
   go_wp2
   go_loopg [0, 2] kj1 (fun kq v0 v2 w' => ∃ (x0_2 : List (S32)) (x2_2 : List (List (S32))), Aside0 (array_Kids.l0 kq x0_2 x2_2 = some r) ∧ Aside0 (kq ≤ kj1) ∧ Aside0 (Kd.V k32 32 w' w.heap.size (fun k_ => (P0_ k_ ∨ w.heap.size ≤ k_) ∧ some k_ ≠ (v2 : Value).ownBlock) v0 x0_2) ∧ Aside0 (Kd.R (Kd.slice 32 k32) 23 w' w.heap.size (fun k_ => (w.heap.size ≤ k_)) v2 x2_2) ∧ Aside0 (Below w.heap.size w w'))
   case atStart => exact ⟨(y312), (([] : List (List (S32)))), H', ⟨Nat.le_refl _⟩, ⟨by (with_reducible repeat (first | apply Kd.V_alloc | apply Kd.V_drewN | apply Kd.V_drew)); exact HO316.out⟩, ⟨J162⟩, ⟨J0⟩⟩
   case round =>
    clear H'
    try clear c9
    try clear c9b0
    try clear c9b1
    try clear c10
    try clear q10
    try clear q10
    obtain ⟨x0_2, x2_2, HA, HK2, HO_0, HO_2, HB⟩ := hrel
    cases gk with
    | zero => exact absurd HA.out (by simp [array_Kids.l0])
    | succ k2 =>
     have H := HA.out
     clear HA
     simp only [array_Kids.l0] at H
     refine yt H ?_ ?_ <;> clear H <;> rintro c11 H
     ·have c11b0 : decide (0 < (x0_2.length : Int)) = false := decide_eq_false c11
      have c11b1 : decide (0 < x0_2.length) = false := decide_eq_false J35
      clear c11
      obtain rfl := yo H
      obtain ⟨Ao27, co27, eo27⟩ := Kd.V_slice HO_0.out
      subst eo27
      go_wp2
      go_ret
      exact ⟨_, J2, J162, J0⟩
     have c11b0 := decide_eq_true c11
     have c11b1 : decide (0 < x0_2.length) = true := decide_eq_true J35
     clear c11
     refine yv H ?_; clear H; rintro t317 A12 H
     refine yi H ?_; clear H; intro c13 H
     have c13b0 := eq_true c13
     have c13b1 := decide_eq_true c13
     clear c13
     refine yi H ?_; clear H; intro c14 H
     have c14b0 := eq_true c14
     have c14b1 := decide_eq_true c14
     clear c14
     obtain ⟨y318, hy318⟩ : ∃ y_ : List (S32), y_ = (x0_2.take (t317 : Int).toNat) := ⟨_, rfl⟩
     replace H : ((Xco.f y318).bind fun t323 => (if x2_2.length < 5864062014805 then (array_Kids.l0 k2 (x0_2.drop (t317 : Int).toNat) (x2_2 ++ [t323])) else (none))) = some r := by first | (rw [hy318]; with_reducible exact H) | (have H2_ := (Option.bind_some _ _).symm.trans H; rw [hy318]; with_reducible exact H2_) | (have H2_ := (Option.bind_some _ _).symm.trans H; with_reducible exact H2_) | with_reducible exact H | (rw [hy318]; exact H) | exact H
     have Ny318 := zq hy318
     clear hy318
     refine yv H ?_; clear H; rintro t323 A15 H
     refine yi H ?_; clear H; intro c16 H
     have LMc16 := zq c16
     clear c16
     obtain ⟨y326, hy326⟩ : ∃ y_ : List (List (S32)), y_ = (x2_2 ++ [t323]) := ⟨_, rfl⟩
     replace H : (array_Kids.l0 k2 (x0_2.drop (t317 : Int).toNat) y326) = some r := by first | (rw [hy326]; with_reducible exact H) | (have H2_ := (Option.bind_some _ _).symm.trans H; rw [hy326]; with_reducible exact H2_) | (have H2_ := (Option.bind_some _ _).symm.trans H; with_reducible exact H2_) | with_reducible exact H | (rw [hy326]; exact H) | exact H
     have Ny326 := zq hy326
     clear hy326
     have c17b0 := eq_true (of_decide_eq_true J3 : 0 ≤ t317)
     have c18b0 := eq_true (of_decide_eq_true J3 : t317 ≤ (x0_2.length : Int))
     obtain ⟨y329, hy329⟩ : ∃ y_ : List (S32), y_ = (x0_2.drop (t317 : Int).toNat) := ⟨_, rfl⟩
     rw (occs := .pos [1]) [← hy329] at H
     have Ny329 := zq hy329
     clear hy329
     have H' := zq H
     clear H
     obtain ⟨Ao19, co19, eo19⟩ := Kd.V_slice HO_0.out
     subst eo19
     try go_wp2_with (first | ((with_reducible refine Xg (f := 58) rfl ?_); refine Xt (some 20) rfl rfl Tryd.func58 J8 rfl #[.slice Ao19 x0_2.length co19] rfl J1 ?_; (with_reducible refine (Xb5.calls k2 _ _ x0_2 t317 _ ?side1 ?side2 A12.out).mono ?_); (case side1 => exact zc ((Kd.V_reads' HO_0.out).2.2)); (case side2 => exact (Kd.V_reads' HO_0.out).2.1); rintro e w20 ⟨rfl, hb⟩; refine ⟨_, rfl, ?_⟩; replace HO_0 := zq (Kd.V_below (zv HO_0.out) hb); replace HO_2 := zq (Kd.R_below (zr HO_2.out) hb); replace HB := zq (Xd J0 hb); (try clear hb); (try clear hk)))
     replace HO_0 := zq (Kd.V_drew HO_0.out)
     replace HO_2 := zq (Kd.R_drew HO_2.out)
     replace HB := zq (X8 HB.out)
     have q22 : (t317 : Int) ≤ ((x0_2.length : Int) : Int) := of_decide_eq_true J3
     obtain ⟨i022, hi022, _, hsz22, _⟩ := info_parts Xd5
     have hroom22 : x0_2.length ≤ co19 := (Kd.V_reads' HO_0.out).2.1
     have hC22 : Kd.F k32 _ _ Ao19 x0_2.length x0_2 := (Kd.V_at (base := w.heap.size) HO_0.out).2.2
     have hcut22 := cut_to (P := Tryd.prog) 23 32 .i64 Tryd.underlying23 hi022 Ao19 x0_2.length co19 t317 (of_decide_eq_true J3) q22 hroom22
     have hr22 := Kd.F_take (m := (t317 : Int).toNat) hC22 J35
     have hy22 : y318.length = (t317 : Int).toNat := (by rw [Ny318.out, List.length_take]; omega)
     rw [← Ny318.out] at hr22
     rw [← hy22] at hcut22
     have HO322 := zq (show Kd.V k32 32 _ w.heap.size _ (.slice Ao19 y318.length co19) y318 from Kd.V_mk J35 hr22)
     have HC322 := zq (show y318.length ≤ co19 from by omega)
     clear hr22 hC22 hroom22 hi022 hsz22
     have KY22 := zq hy22
     clear hy22
     replace q22 := eq_true q22
     have q23 : (t317 : Int) ≤ ((x0_2.length : Int) : Int) := of_decide_eq_true J3
     obtain ⟨i023, hi023, _, hsz23, _⟩ := info_parts Xd5
     have hroom23 : x0_2.length ≤ co19 := (Kd.V_reads' HO_0.out).2.1
     have hC23 : Kd.F k32 _ _ Ao19 x0_2.length x0_2 := (Kd.V_at (base := w.heap.size) HO_0.out).2.2
     have q023 : (0 : Int) ≤ (t317 : Int) := of_decide_eq_true J3
     have hcut23 := cut_from (P := Tryd.prog) 23 32 .i64 Tryd.underlying23 hi023 4 hsz23 Ao19 x0_2.length co19 t317 q023 q23
     have hr23 := Kd.F_cut (m := (t317 : Int).toNat) (c := co19) hC23 J35 hroom23
     obtain ⟨A23, hA23⟩ : ∃ A_, A_ = (if co19 = (t317 : Int).toNat then Ao19 else (Ao19 : Option Addr).map (·.add ((t317 : Int).toNat * 4))) := ⟨_, rfl⟩
     obtain ⟨c23, hc23⟩ : ∃ c1, c1 = co19 - (t317 : Int).toNat := ⟨_, rfl⟩
     have hy23 : y329.length = x0_2.length - (t317 : Int).toNat := (by rw [Ny329.out, List.length_drop] <;> omega)
     rw [show (x0_2).drop (t317 : Int).toNat = y329 from Ny329.out.symm] at hr23
     replace hr23 : Kd.F k32 _ _ A23 y329.length y329 := (by rw [hA23]; exact hr23)
     rw [← hy23, ← hA23, ← hc23] at hcut23
     have HO333 := zq (show Kd.V k32 32 _ w.heap.size _ (.slice A23 y329.length c23) y329 from Kd.V_mk (by rw [hy23, hc23]; exact Nat.sub_le_sub_right hroom23 _) hr23)
     have HC333 := zq (show y329.length ≤ c23 from by rw [hy23, hc23]; exact Nat.sub_le_sub_right hroom23 _)
     clear hr23 hC23 hroom23 hi023 hsz23 hc23
     have KY23 := zq hy23
     have KA23 := zq hA23
     clear hy23 hA23
     replace q23 := eq_true q23
     refine Xeh (n := 12) (S := fun w' => True) (ds := []) #[Z,Z,Z,Z,Z,Z,Z,Z,Z,Z,Z,Z] J8 rfl rfl trivial (fun hHeld => ?_); refine Xc7 array_Kids.tab6 array_Kids.bits6 (fun HT_ HW_ => ?_)
     generalize w20.drew = w21 at HO_0 HO_2 HB HO322 HO333 hHeld ⊢
     refine Xbs (i := 0) (N := some 21) (v := ?_) (a' := ?_) #[Y,Z,Z,Z,Z,Z,Z,Z,Z,Z,Z,Z] rfl rfl (Xbc HT_.out J8) (fun _ _ _ h => h) (Or.inl ⟨Xa5, ?_⟩) ?_ ?_
     rotate_left
     ·exact pz0
     rotate_left
     ·exact pz1
     refine Xbs (i := 1) (N := some 22) (v := ?_) (a' := ?_) #[Y,Y,Z,Z,Z,Z,Z,Z,Z,Z,Z,Z] rfl rfl (Xbc HT_.out J8) (fun _ _ _ h => h) (Or.inl ⟨Xa5, ?_⟩) ?_ ?_
     rotate_left
     ·exact pz0
     rotate_left
     ·exact pz1
     refine Xbs (i := 2) (N := some 23) (v := ?_) (a' := ?_) #[Y,Y,Y,Z,Z,Z,Z,Z,Z,Z,Z,Z] rfl rfl (Xbc HT_.out J8) (fun _ _ _ h => h) (Or.inl ⟨Xa5, ?_⟩) ?_ ?_
     rotate_left
     ·exact pz0
     rotate_left
     ·exact pz1
     refine Xbs (i := 3) (N := some 24) (v := ?_) (a' := ?_) #[Y,Y,Y,Y,Z,Z,Z,Z,Z,Z,Z,Z] rfl rfl (Xbc HT_.out J8) (fun _ _ _ h => h) (Or.inl ⟨Xa5, ?_⟩) ?_ ?_
     rotate_left
     ·exact pz0
     rotate_left
     ·exact pz1
     refine Xbs (i := 7) (N := some 28) (v := ?_) (a' := ?_) #[Y,Y,Y,Y,Z,Z,Z,Y,Z,Z,Z,Z] rfl rfl (Xbc HT_.out J8) (fun _ _ _ h => h) (Or.inl ⟨Xa5, ?_⟩) ?_ ?_
     rotate_left
     ·exact pz0
     rotate_left
     ·exact pz1
     refine Xbs (i := 8) (N := some 29) (v := ?_) (a' := ?_) #[Y,Y,Y,Y,Z,Z,Z,Y,Y,Z,Z,Z] rfl rfl (Xbc HT_.out J8) (fun _ _ _ h => h) (Or.inl ⟨Xa5, ?_⟩) ?_ ?_
     rotate_left
     ·exact pz0
     rotate_left
     ·exact pz1
     refine Xbs (i := 9) (N := some 30) (v := ?_) (a' := ?_) #[Y,Y,Y,Y,Z,Z,Z,Y,Y,Y,Z,Z] rfl rfl (Xbc HT_.out J8) (fun _ _ _ h => h) (Or.inl ⟨Xa5, ?_⟩) ?_ ?_
     rotate_left
     ·exact pz0
     rotate_left
     ·exact pz1
     refine Xdy (i := 4) (N := some 25) #[Y,Y,Y,Y,Y,Z,Z,Y,Y,Y,Z,Z] rfl rfl (Xct HT_.out J8) J11 (fun K hK => ?_)
     refine Xdj Tryd.func59 J8 rfl #[.slice Ao19 y318.length co19] Xa5 rfl rfl J1 ?_
     with_reducible refine (Xco.calls _ _ y318 t323 _ ?side1 ?side2 A15.out).mono ?_
     (case side1 => exact zc ((Kd.V_reads' HO322.out).2.2))
     (case side2 => exact (Kd.V_reads' HO322.out).2.1)
     rintro e w24 ⟨v324, rfl, ho0, hb⟩
     refine ⟨_, rfl, ?_⟩
     replace HO_0 := zq (Kd.V_elder' (zv HO_0.out) (Kd.S_base ho0) hb)
     replace HO_2 := zq (Kd.R_elder' (zr HO_2.out) (Kd.S_base ho0) hb)
     replace HO333 := zq (Kd.V_elder' (zv HO333.out) (Kd.S_base ho0) hb)
     have HO325 := zq (Kd.S_lower (Kd.S_newM (M := fun k_ => (w.heap.size ≤ k_)) ho0 (Xf J0) (fun k_ h_ => h_)) (Xf J0))
     replace HB := zq (Xd J0 hb)
     (try clear hb)
     (try clear hb2)
     (try clear hk)
     (try clear hi)
     (try clear ho0)
     obtain ⟨Ao26, co26, eo26⟩ := Kd.S_slice HO325.out
     (first | subst eo26 | (injection eo26 with f1_ f2_ f3_; have f4_ := f1_.symm; have f5_ := f3_.symm; clear f1_ f2_ f3_; subst f4_; subst f5_))
     refine hK.out _ _ trivial (fun hHeld => ?_)
     clear hK K
     refine Xcl (a' := ?_) ?_ ?_
     rotate_left
     ·show Act.put _ (some 25) _ = _
      simp only [Act.put, List.setIfInBounds_toArray, List.set_cons_zero, List.set_cons_succ, Xbd, Xbh]
      rfl
     refine Xdy (i := 5) (N := some 26) #[Y,Y,Y,Y,Y,Y,Z,Y,Y,Y,Z,Z] rfl rfl (Xct HT_.out J8) J11 (fun K hK => ?_)
     refine value_ (w1 := ?_) (v := ?_) Xa5 rfl ?_ ?_
     rotate_left 2
     ·go_simp
      constructor
      ·rfl
      ·rfl
     refine hK.out _ _ trivial (fun hHeld => ?_)
     clear hK K
     refine Xcl (a' := ?_) ?_ ?_
     rotate_left
     ·show Act.put _ (some 26) _ = _
      simp only [Act.put, List.setIfInBounds_toArray, List.set_cons_zero, List.set_cons_succ, Xbd, Xbh]
      rfl
     refine Xdy (i := 6) (N := some 27) #[Y,Y,Y,Y,Y,Y,Y,Y,Y,Y,Z,Z] rfl rfl (Xct HT_.out J8) J11 (fun K hK => ?_)
     refine Kd.R_append_step (Kd.slice 32 k32) (w0 := w) w.heap.size Xa5 (.tmp 21) (.tmp 26) 70 23 (.slice none 0 0) 24 rfl Tryd.underlying70 info23 rfl J11 J35 u2 x2_2 t323 [.slice Ao26 t323.length co26] (fun k_ => (w.heap.size ≤ k_)) (fun k_ => ((fun k_ => (w.heap.size ≤ k_))) k_ ∧ some k_ ≠ (u2 : Value).ownBlock) rfl rfl ?aP (fun _ hk => hk) ?aF ?aO ?aB ?aS ?aL ?_
     (case aP => exact Kd.M_row (Kd.R_mono (Kd.R_apart' ((Kd.S_R HO325.out)) (Kd.R_typed HO_2.out) J11) (fun k_ hk => ⟨hk.1.1, hk.2⟩)))
     (case aB => exact J0)
     (case aF => exact (fun k_ hk => (Nat.le_trans (Xf J0) hk)))
     (case aO => exact (by (with_reducible repeat (first | apply Kd.R_alloc | apply Kd.R_drewN | apply Kd.R_drew)); exact Kd.R_mono HO_2.out (fun _ hk => hk.1)))
     (case aS => exact (Xf J0))
     (case aL => have := LMc16.out; omega)
     intro v327 w25 ho hb hg hat
     rw [← Ny326.out] at ho
     replace HO_0 := zq (Kd.V_afterv (ok := (fun k_ => (P0_ k_ ∨ w.heap.size ≤ k_) ∧ some k_ ≠ (.slice Ao26 t323.length co26 : Value).ownBlock)) (by (with_reducible repeat (first | apply Kd.V_alloc | apply Kd.V_drewN | apply Kd.V_drew)); exact Kd.V_mono HO_0.out (fun _ hk => ⟨⟨hk.1.1, hk.2⟩, hk.1.2⟩)) hg hat)
     replace HO333 := zq (Kd.V_afterv (ok := (fun k_ => (P0_ k_ ∨ w.heap.size ≤ k_) ∧ some k_ ≠ (.slice Ao26 t323.length co26 : Value).ownBlock)) (by (with_reducible repeat (first | apply Kd.V_alloc | apply Kd.V_drewN | apply Kd.V_drew)); exact Kd.V_mono HO333.out (fun _ hk => ⟨⟨hk.1.1, hk.2⟩, hk.1.2⟩)) hg hat)
     replace HB := zq (hb)
     have HO328 := zq (ho)
     clear HO_2 HO325
     clear ho hb hg hat
     refine hK.out _ _ trivial (fun hHeld => ?_)
     clear hK K
     refine Xcl (a' := ?_) ?_ ?_
     rotate_left
     ·show Act.put _ (some 27) _ = _
      simp only [Act.put, List.setIfInBounds_toArray, List.set_cons_zero, List.set_cons_succ, Xbd, Xbh]
      rfl
     refine Xbs (i := 10) (N := some 2) (v := ?_) (a' := ?_) #[Y,Y,Y,Y,Y,Y,Y,Y,Y,Y,Y,Z] rfl rfl (Xbc HT_.out J8) (fun _ _ _ h => h) (Or.inl ⟨Xa5, ?_⟩) ?_ ?_
     rotate_left
     ·exact pz0
     rotate_left
     ·exact pz1
     refine Xbs (i := 11) (N := some 0) (v := ?_) (a' := ?_) #[Y,Y,Y,Y,Y,Y,Y,Y,Y,Y,Y,Y] rfl rfl (Xbc HT_.out J8) (fun _ _ _ h => h) (Or.inl ⟨Xa5, ?_⟩) ?_ ?_
     rotate_left
     ·exact pz0
     rotate_left
     ·exact pz1
     refine done_ (Xdz HT_.out J8) ?_
     try go_wp2
     go_roundg k2
     case measure => have := HJ1.out; have := HK2.out; omega
     case rel => exact ⟨(y329), (y326), H', ⟨J157⟩, ⟨by (with_reducible repeat (first | apply Kd.V_alloc | apply Kd.V_drewN | apply Kd.V_drew)); exact Kd.V_mono HO333.out (fun _ hk => ⟨hk.1.1, hk.2⟩)⟩, ⟨by (with_reducible repeat (first | apply Kd.R_alloc | apply Kd.R_drewN | apply Kd.R_drew)); exact HO328.out⟩, ⟨J0⟩⟩
theorem array_Kids.calls (k : Nat) (P0_ : Nat → Prop) (A0 : Option Addr) (c0 : Nat) (l0 : List (S32)) (r : List (List (S32))) (w : World) (hs0 : Kd.V k32 32 w w.heap.size (fun k_ => P0_ k_) (.slice A0 l0.length c0) l0) (h : array_Kids.f k l0 = some r) :
  Calls Tryd.prog 60 #[.slice A0 l0.length c0] w fun e w' => ∃ v0_ : Value, e = .returned (v0_) ∧ Kd.N (Kd.slice 32 k32) 23 w' w.heap.size (fun k_ => (w.heap.size ≤ k_)) v0_ r ∧ Below w.heap.size w w' := by
 refine (array_Kids.calls0 k P0_ A0 c0 l0 r w hs0 h).mono ?_
 rintro e w' ⟨v, he, h1, hB⟩
 exact ⟨v, he, Kd.R_N h1, hB⟩
def Xa4.f (k : Nat) (a0 : Int) : Option (Int × Int) := (Xai.f k a0 0).bind fun bt335 => (some (bt335.1, bt335.2.1))
theorem Xa4.mono : ∀ a0 k, LeO (Xa4.f k a0) (Xa4.f (k + 1) a0) := by
 intro a0 k
 unfold Xa4.f
 have im0 := @Xai.mono
 exact mz3
set_option maxHeartbeats 8000000 in
set_option maxRecDepth 100000 in
theorem Xa4.calls (k : Nat) (a0 : Int) (r1 : Int) (r2 : Int) (w : World) (h : Xa4.f k a0 = some (r1, r2)) :
  Calls Tryd.prog 22 #[.int .i64 a0] w fun e w' => e = .returned (.agg #[.int .i64 r1, .int .i64 r2]) ∧ Below w.heap.size w w' := by
 have hu40 := Tryd.underlying40
 have HB := zq (Below.refl w.heap.size w)
 unfold Xa4.f at h
 have H := h
 clear h
 refine yv H ?_; clear H; rintro ⟨t335, t336, t337⟩ A2 H
 dsimp only at H
 obtain ⟨rfl, rfl⟩ := yp2 H
 go_enter Tryd.func22, Tryd.ntmps22
 go_wp2_with (first | ((with_reducible refine Xk (N := 2) rfl ?_); refine bxw 2 40 #[.int .i64 0, .int .i64 0] ?_; intro gb334 hg w3 hbox hb; have BK334 := zq (hbox); have GE334 := zq ((J12 : w.heap.size ≤ gb334)); replace HB := zq (Xd J0 hb); clear hb hbox hg) | ((with_reducible refine Xg (f := 38) rfl ?_); refine Xt (some 8) rfl rfl Tryd.func38 J8 rfl #[.agg #[.int .i64 a0, .int .i64 0]] rfl J1 ?_; (with_reducible refine (Xai.calls k a0 0 t335 t336 t337 _ A2.out).mono ?_); rintro e w4 ⟨rfl, hb⟩; refine ⟨_, rfl, ?_⟩; replace BK334 := zq (Xh (g := gb334) (o := .cells #[.int .i64 0, .int .i64 0] 40 (0, 0)) (zk BK334.out) hb); replace HB := zq (Xd (zs1 GE334.out) hb); (try clear hb)) | ((with_reducible refine Xk (N := 3) rfl ?_); refine bxw 3 40 #[.int .i64 0, .int .i64 0] ?_; intro gb338 hg w5 hbox hb; have BK338 := zq (hbox); have GE338 := zq ((by rw [hg]; exact (Xf (zs1 GE334.out)) : w.heap.size ≤ gb338)); replace HB := zq (Xd (zs1 GE334.out) hb); have NB334_338 := zq ((by rw [hg]; exact Nat.ne_of_lt (Xbe (g := gb334) (o := .cells #[.int .i64 0, .int .i64 0] 40 (0, 0)) (zk BK334.out)) : gb334 ≠ gb338)); have NB338_334 := zq ((by rw [hg]; exact Nat.ne_of_gt (Xbe (g := gb334) (o := .cells #[.int .i64 0, .int .i64 0] 40 (0, 0)) (zk BK334.out)) : gb338 ≠ gb334)); replace BK334 := zq (Xh (g := gb334) (o := .cells #[.int .i64 0, .int .i64 0] 40 (0, 0)) (zk BK334.out) hb); clear hb hbox hg; have hnb6 := NB338_334.out; have hnc6 := NB334_338.out; obtain ⟨hcz7_0, hcz7_1, hfz7_0, hfz7_1⟩ := cz2 BK338.out; obtain ⟨hcz8_0, hcz8_1, hfz8_0, hfz8_1⟩ := cz2 BK334.out))
 refine bodyPost_ret (results_cell_row rfl _ _ gb334 40 #[.int .i64 t335, .int .i64 t336] (0, 0) _ rfl (by (with_reducible repeat (first | refine Xc ?_ _ | refine Xe ?_ | refine Xb ?_ _)); refine Xj (cs := #[.int .i64 t335, .int .i64 0]) ?_ 1 _ rfl; (with_reducible repeat (first | refine Xc ?_ _ | refine Xe ?_ | refine Xb ?_ _)); refine Xj (cs := #[.int .i64 0, .int .i64 0]) ?_ 0 _ rfl; (with_reducible repeat (first | refine Xc ?_ _ | refine Xe ?_ | refine Xb ?_ _)); refine Xab ?_ NB334_338.out _; (with_reducible repeat (first | refine Xc ?_ _ | refine Xe ?_ | refine Xb ?_ _)); refine Xab ?_ NB334_338.out _; (with_reducible repeat (first | refine Xc ?_ _ | refine Xe ?_ | refine Xb ?_ _)); exact BK334.out) Tryd.underlying40 rfl J8) rfl ?_
 exact ⟨J2, by repeat (first | (with_reducible first | exact HB.out | apply Xah | apply Xy | apply X8 | refine X2 ?_ GE334.out | refine X2 ?_ GE338.out) | exact HB.out)⟩
def Xak.l0 : Nat → List (S40) → List Int → Int → Int → Option ((List (S40)))
 | 0, _, _, _, _ => none
 | k + 1, x3, x12, x13, x14 => if x14 < x13 then (if 0 ≤ x14 then (if x14 < (x12.length : Int) then ((Xa4.f k (rd x12 x14)).bind fun bt341 => (if x3.length < 8796093022208 then (Xak.l0 k (x3 ++ [(⟨bt341.1, bt341.2⟩ : S40)]) x12 x13 (wrap64 (x14 + 1))) else (none))) else (none)) else (none)) else (some x3)
def Xak.f (k : Nat) (a0_0 : Int) (l0_1 : List Int) (l0_2 : List Int) (l0_3 : List (S40)) : Option ((List (S40))) := if a0_0 = 4 then (some l0_3) else (Xak.l0 k ([] : List (S40)) l0_2 (l0_2.length : Int) 0)
theorem Xak.mono_l : ∀ k, (∀ y0 y1 y2 y3, LeO (Xak.l0 k y0 y1 y2 y3) (Xak.l0 (k + 1) y0 y1 y2 y3))
 | 0 => fun _ _ _ _ r h => by simp [Xak.l0] at h
 | k + 1 => by
  have ih0 := Xak.mono_l k
  ·intro y0 y1 y2 y3
   unfold Xak.l0
   have im0 := @Xa4.mono
   exact mz3
theorem Xak.mono : ∀ a0 a1 a2 a3 k, LeO (Xak.f k a0 a1 a2 a3) (Xak.f (k + 1) a0 a1 a2 a3) := by
 intro a0 a1 a2 a3 k
 have ih0 := Xak.mono_l k
 unfold Xak.f
 have im0 := @Xa4.mono
 exact mz3
set_option maxHeartbeats 8000000 in
set_option maxRecDepth 100000 in
theorem Xak.calls (k : Nat) (a0_0 : Int) (A0_1 : Option Addr) (c0_1 : Nat) (l0_1 : List Int) (A0_2 : Option Addr) (c0_2 : Nat) (l0_2 : List Int) (P0_3_ : Nat → Prop) (A0_3 : Option Addr) (c0_3 : Nat) (l0_3 : List (S40)) (r : List (S40)) (w : World) (hr0_1 : Kd.C (Kd.int .i64) w A0_1 l0_1.length l0_1) (hc0_1 : l0_1.length ≤ c0_1) (hr0_2 : Kd.C (Kd.int .i64) w A0_2 l0_2.length l0_2) (hc0_2 : l0_2.length ≤ c0_2) (hs0_3 : Kd.V k40 40 w w.heap.size (fun k_ => P0_3_ k_) (.slice A0_3 l0_3.length c0_3) l0_3) (h : Xak.f k a0_0 l0_1 l0_2 l0_3 = some r) :
  Calls Tryd.prog 63 #[.agg #[.int .i64 a0_0, .slice A0_1 l0_1.length c0_1, .slice A0_2 l0_2.length c0_2, .slice A0_3 l0_3.length c0_3]] w fun e w' => ∃ v0_ : Value, e = .returned (v0_) ∧ Kd.V k40 40 w' w.heap.size (fun k_ => (P0_3_ k_ ∨ w.heap.size ≤ k_)) v0_ r ∧ Below w.heap.size w w' := by
 have hu32 := Tryd.underlying32
 have HR0_1 := zq hr0_1
 have HC0_1 := zq hc0_1
 clear hr0_1 hc0_1
 have HR0_2 := zq hr0_2
 have HC0_2 := zq hc0_2
 clear hr0_2 hc0_2
 have HO0_3 := zq (show Kd.V k40 40 w w.heap.size (fun k_ => (P0_3_ k_ ∨ w.heap.size ≤ k_)) (.slice A0_3 l0_3.length c0_3) l0_3 from Kd.V_mono hs0_3 (fun k_ hk => .inl hk))
 have HB := zq (Below.refl w.heap.size w)
 unfold Xak.f at h
 have H := h
 clear h
 refine yF H ?_ ?_ <;> clear H <;> rintro ⟨c2b0, c2b1, c2⟩ H
 ·clear c2
  obtain rfl := yo H
  go_enter Tryd.func63, Tryd.ntmps63
  go_wp2_with (first | ((with_reducible refine Xk (N := 1) rfl ?_); refine bxw 1 32 #[.int .i64 a0_0, .slice A0_1 l0_1.length c0_1, .slice A0_2 l0_2.length c0_2, .slice A0_3 l0_3.length c0_3] ?_; intro gb339 hg w3 hbox hb; replace HO0_3 := zq (Kd.V_below (Kd.V_elderB (zv HO0_3.out) gb339 (Nat.le_of_eq hg.symm)) hb); have BK339 := zq (hbox); have GE339 := zq ((J12 : w.heap.size ≤ gb339)); replace HB := zq (Xd J0 hb); clear hb hbox hg; obtain ⟨hcz4_0, hcz4_1, hcz4_2, hcz4_3, hfz4_0, hfz4_1, hfz4_2, hfz4_3⟩ := cz4 BK339.out))
  go_ret
  exact ⟨_, J2, by (with_reducible repeat (first | apply Kd.V_alloc | apply Kd.V_drewN | apply Kd.V_drew)); exact Kd.V_mono HO0_3.out (fun _ hk => hk.1), J66⟩
 have H' := zq H
 clear H
 go_enter Tryd.func63, Tryd.ntmps63
 go_wp2_with (first | ((with_reducible refine Xk (N := 1) rfl ?_); refine bxw 1 32 #[.int .i64 a0_0, .slice A0_1 l0_1.length c0_1, .slice A0_2 l0_2.length c0_2, .slice A0_3 l0_3.length c0_3] ?_; intro gb339 hg w5 hbox hb; replace HO0_3 := zq (Kd.V_below (Kd.V_elderB (zv HO0_3.out) gb339 (Nat.le_of_eq hg.symm)) hb); have BK339 := zq (hbox); have GE339 := zq ((J12 : w.heap.size ≤ gb339)); replace HB := zq (Xd J0 hb); clear hb hbox hg; obtain ⟨hcz6_0, hcz6_1, hcz6_2, hcz6_3, hfz6_0, hfz6_1, hfz6_2, hfz6_3⟩ := cz4 BK339.out))
 go_loopg [3, 14] k (fun kq v3 v14 w' => ∃ (x3_1 : List (S40)) (x14_1 : Int), v14 = .int .i64 x14_1 ∧ Aside0 (Xak.l0 kq x3_1 l0_2 (l0_2.length : Int) x14_1 = some r) ∧ Aside0 (kq ≤ k) ∧ Aside0 (Kd.R k40 40 w' w.heap.size (fun k_ => (w.heap.size ≤ k_)) v3 x3_1) ∧ Aside0 (Kd.V k40 40 w' w.heap.size (fun k_ => (P0_3_ k_ ∨ w.heap.size ≤ k_) ∧ some k_ ≠ (v3 : Value).ownBlock ∧ k_ ≠ gb339) (.slice A0_3 l0_3.length c0_3) l0_3) ∧ Aside0 (w'.heap[gb339]? = some (.cells #[.int .i64 a0_0, (.slice A0_1 l0_1.length c0_1), (.slice A0_2 l0_2.length c0_2), (.slice A0_3 l0_3.length c0_3)] 32 (0, 0))) ∧ Aside0 (Below w.heap.size w w'))
 case atStart => exact ⟨(([] : List (S40))), (0), J4, H', ⟨Nat.le_refl _⟩, ⟨J9⟩, ⟨by (with_reducible repeat (first | apply Kd.V_alloc | apply Kd.V_drewN | apply Kd.V_drew)); exact Kd.V_mono HO0_3.out (fun _ hk => ⟨hk.1, ⟨(by simp [Value.ownBlock]), hk.2⟩⟩)⟩, ⟨J152⟩, ⟨J66⟩⟩
 case round =>
  clear H'
  try clear c2
  try clear c2b0
  try clear c2b1
  try clear hcz6_0
  try clear hcz6_1
  try clear hcz6_2
  try clear hcz6_3
  try clear hfz6_0
  try clear hfz6_1
  try clear hfz6_2
  try clear hfz6_3
  obtain ⟨x3_1, x14_1, rfl, HA, HK1, HO_3, HO_340003, BK339, HB⟩ := hrel
  cases gk with
  | zero => exact absurd HA.out (by simp [Xak.l0])
  | succ k1 =>
   have H := HA.out
   clear HA
   simp only [Xak.l0] at H
   refine yd H ?_ ?_ <;> clear H <;> rintro c7b0 H
   ·obtain rfl := yo H
    go_wp2
    go_ret
    exact ⟨_, J2, Kd.V_mono (Kd.R_V (zr HO_3.out)) (fun k_ hk => by first | exact ⟨(.inr (hk.1)), hk.2⟩ | exact (.inr (hk))), J66⟩
   refine yj H ?_; clear H; intro c8b0 H
   refine yj H ?_; clear H; intro c9b0 H
   refine yv H ?_; clear H; rintro ⟨t341, t342⟩ A10 H
   dsimp only at H
   refine yi H ?_; clear H; intro c11 H
   have LMc11 := zq c11
   clear c11
   obtain ⟨y343, hy343⟩ : ∃ y_ : List (S40), y_ = (x3_1 ++ [(⟨t341, t342⟩ : S40)]) := ⟨_, rfl⟩
   replace H : (Xak.l0 k1 y343 l0_2 (l0_2.length : Int) (wrap64 (x14_1 + 1))) = some r := by first | (rw [hy343]; with_reducible exact H) | (have H2_ := (Option.bind_some _ _).symm.trans H; rw [hy343]; with_reducible exact H2_) | (have H2_ := (Option.bind_some _ _).symm.trans H; with_reducible exact H2_) | with_reducible exact H | (rw [hy343]; exact H) | exact H
   have Ny343 := zq hy343
   clear hy343
   have H' := zq H
   clear H
   have p340 : 0 ≤ (x14_1 : Int) := of_decide_eq_true J3
   have q340 : x14_1 < (l0_2.length : Int) := of_decide_eq_true J3
   obtain ⟨ad340, e340, hx340_0⟩ := Kd.at_int HR0_2.out x14_1 p340 q340
   cases e340
   replace hx340_0 := yh HB hx340_0
   replace p340 := eq_true p340
   replace q340 := eq_true q340
   go_wp2_with (first | ((with_reducible refine Xg (f := 22) rfl ?_); refine Xt (some 20) rfl rfl Tryd.func22 J8 rfl #[.int .i64 (rd l0_2 x14_1)] rfl J1 ?_; (with_reducible refine (Xa4.calls k1 (rd l0_2 x14_1) t341 t342 _ A10.out).mono ?_); rintro e w12 ⟨rfl, hb⟩; refine ⟨_, rfl, ?_⟩; replace HO_3 := zq (Kd.R_below (zr HO_3.out) hb); replace HO_340003 := zq (Kd.V_below (zv HO_340003.out) hb); replace BK339 := zq (Xh (zk BK339.out) hb); replace HB := zq (Xd (zs1 GE339.out) hb); (try clear hb); (try clear hk)) | ((with_reducible refine Xbt (b := .append) (xs := #[.tmp 18, .tmp 21]) rfl ?_); at_builtin; refine Kd.R_append k40 (w0 := w) w.heap.size rfl (.tmp 18) (.tmp 21) 30 40 (.agg #[(.int .i64 0), (.int .i64 0)]) 16 rfl Tryd.underlying30 info40 rfl J11 J35 u3 x3_1 (⟨t341, t342⟩ : S40) [.int .i64 t341, .int .i64 t342] (fun k_ => (w.heap.size ≤ k_)) (fun _ => False) rfl rfl ?aP (fun _ hk => hk.elim) ?aF ?aO ?aB ?aS ?aL ?_; (case aP => exact Xde _ _ _ (⟨t341, t342⟩ : S40)); (case aB => exact (zs1 GE339.out)); (case aF => exact (fun k_ hk => (Nat.le_trans (Xf (zs1 GE339.out)) hk))); (case aO => exact (zr HO_3.out)); (case aS => exact (Xf (zs1 GE339.out))); (case aL => have := LMc11.out; omega); intro v344 w13 ho hb hg hat; rw [← Ny343.out] at ho; replace HO_340003 := zq (Kd.V_afterv (ok := (fun k_ => (P0_3_ k_ ∨ w.heap.size ≤ k_) ∧ k_ ≠ gb339)) (by (with_reducible repeat (first | apply Kd.V_alloc | apply Kd.V_drewN | apply Kd.V_drew)); exact Kd.V_mono HO_340003.out (fun _ hk => ⟨⟨hk.1, hk.2.2⟩, hk.2.1⟩)) hg hat); replace BK339 := zq (Xb7 (g := gb339) (o := .cells #[.int .i64 a0_0, .slice A0_1 l0_1.length c0_1, .slice (some ad340) l0_2.length c0_2, .slice A0_3 l0_3.length c0_3] 32 (0, 0)) (zk BK339.out) hg (Kd.R_ne HO_3.out BK339.out J11)); replace HB := zq (hb); have HO345 := zq (ho); clear HO_3; clear ho hb hg hat))
   go_roundg k1
   case measure => have := HK1.out; omega
   case rel => exact ⟨(y343), (wrap64 (x14_1 + 1)), J4, H', ⟨J86⟩, ⟨by (with_reducible repeat (first | apply Kd.R_alloc | apply Kd.R_drewN | apply Kd.R_drew)); exact HO345.out⟩, ⟨by (with_reducible repeat (first | apply Kd.V_alloc | apply Kd.V_drewN | apply Kd.V_drew)); exact Kd.V_mono HO_340003.out (fun _ hk => ⟨hk.1.1, ⟨hk.2, hk.1.2⟩⟩)⟩, ⟨J152⟩, ⟨J66⟩⟩
end Go.Proofs.YtfjhiiaahbjaiaaDoor.HSystemFirst
