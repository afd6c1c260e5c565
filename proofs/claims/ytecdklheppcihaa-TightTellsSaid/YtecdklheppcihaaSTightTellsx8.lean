/- Words and walks, shortened by a program: what this claim's functions answer, and that other memory stays. -/
import Derived.Test.YtecdklheppcihaaSTightTellsx0
import Derived.Test.YtecdklheppcihaaSTightTellsx2
import Derived.Test.YtecdklheppcihaaSTightTellsx6
import Derived.Test.YtecdklheppcihaaSTightTellsx7
namespace Go.Proofs.Ytecdklheppcihaa.HTightTells
open Go.RowKit Go.Proofs.YtecdklheppcihaaW.PrintWords Go.Proofs.YtecdklheppcihaaW.PrintWords.Kd Go.Proofs.YtecdklheppcihaaW.PrintLast Go.Proofs.YtecdklheppcihaaW.PrintMore Go.Proofs.YtecdklheppcihaaW.PrintMore.Kd
attribute [local go_sem] Xbp Xbn Xbu Xbt Xbg Xbf Xbo Xbm
set_option linter.unusedVariables false
set_option linter.unusedSimpArgs false
mutual
def Xah.l0 : Nat → List (List (S30)) → Int → List (List (S30)) → Int → Int → Option ((List (S30)))
 | 0, _, _, _, _, _ => none
 | k + 1, x0, x3, x9, x10, x11 => if x11 < x10 then (if 0 ≤ x11 then (if x11 < (x9.length : Int) then (if (wrap64 (x3 + ((Xa5 x9 x11).length : Int))) < 0 then (none) else (Xah.l0 k x0 (wrap64 (x3 + ((Xa5 x9 x11).length : Int))) x9 x10 (wrap64 (x11 + 1)))) else (none)) else (none)) else ((Xcn.f x3).bind fun t199 => (Xah.l1 k t199 x0 (x0.length : Int) 0))
def Xah.l1 : Nat → List (S30) → List (List (S30)) → Int → Int → Option ((List (S30)))
 | 0, _, _, _, _ => none
 | k + 1, x6, x25, x26, x27 => if x27 < x26 then (if 0 ≤ x27 then (if x27 < (x25.length : Int) then (if x6.length + (Xa5 x25 x27).length < 1759218604441 then (Xah.l1 k (x6 ++ (Xa5 x25 x27)) x25 x26 (wrap64 (x27 + 1))) else (none)) else (none)) else (none)) else (some x6)
end
def Xah.f (k : Nat) (l0 : List (List (S30))) : Option ((List (S30))) := Xah.l0 k l0 0 l0 (l0.length : Int) 0
theorem Xah.mono_l : ∀ k, (∀ y0 y1 y2 y3 y4, LeO (Xah.l0 k y0 y1 y2 y3 y4) (Xah.l0 (k + 1) y0 y1 y2 y3 y4)) ∧ (∀ y0 y1 y2 y3, LeO (Xah.l1 k y0 y1 y2 y3) (Xah.l1 (k + 1) y0 y1 y2 y3))
 | 0 => ⟨fun _ _ _ _ _ r h => by simp [Xah.l0] at h, fun _ _ _ _ r h => by simp [Xah.l1] at h⟩
 | k + 1 => by
  obtain ⟨ih0, ih1⟩ := Xah.mono_l k
  refine ⟨?_, ?_⟩
  ·intro y0 y1 y2 y3 y4
   unfold Xah.l0
   exact mz0
  ·intro y0 y1 y2 y3
   unfold Xah.l1
   exact mz0
theorem Xah.mono : ∀ a0 k, LeO (Xah.f k a0) (Xah.f (k + 1) a0) := by
 intro a0 k
 obtain ⟨ih0, ih1⟩ := Xah.mono_l k
 unfold Xah.f
 exact mz0
set_option maxHeartbeats 8000000 in
set_option maxRecDepth 100000 in
theorem Xah.calls (b_ : Nat) (k : Nat) (P0_ : Nat → Prop) (A0 : Option Addr) (c0 : Nat) (l0 : List (List (S30))) (r : List (S30)) (w : World) (hs0 : Kd.V (Kd.slice 30 (kW b_)) 22 w w.heap.size (fun k_ => P0_ k_) (.slice A0 l0.length c0) l0) (h : Xah.f k l0 = some r) :
  Calls Try.prog 46 #[.slice A0 l0.length c0] w fun e w' => ∃ v0_ : Value, e = .returned (v0_) ∧ Kd.N (kW b_) 30 w' w.heap.size (fun k_ => (P0_ k_ ∨ w.heap.size ≤ k_)) v0_ r ∧ Below w.heap.size w w' := by
 have HO0 := zq (show Kd.V (Kd.slice 30 (kW b_)) 22 w w.heap.size (fun k_ => (P0_ k_ ∨ w.heap.size ≤ k_)) (.slice A0 l0.length c0) l0 from aj hs0 (fun k_ hk => .inl hk))
 have HB := zq (Below.refl w.heap.size w)
 unfold Xah.f at h
 have H := h
 clear h
 have H' := zq H
 clear H
 go_enter Try.func46, Try.ntmps46
 go_wp2
 go_loopg [3, 11] k (fun kq v3 v11 w' => ∃ (x3_1 : Int) (x11_1 : Int), v3 = .int .i64 x3_1 ∧ v11 = .int .i64 x11_1 ∧ Aside0 (Xah.l0 kq l0 x3_1 l0 (l0.length : Int) x11_1 = some r) ∧ Aside0 (kq ≤ k) ∧ Aside0 (Kd.V (Kd.slice 30 (kW b_)) 22 w' w.heap.size (fun k_ => (P0_ k_ ∨ w.heap.size ≤ k_)) (.slice A0 l0.length c0) l0) ∧ Aside0 (Kd.V (Kd.slice 30 (kW b_)) 22 w' w.heap.size (fun k_ => (P0_ k_ ∨ w.heap.size ≤ k_)) (.slice A0 l0.length c0) l0) ∧ Aside0 (Below w.heap.size w w'))
 case atStart => exact ⟨(0), (0), J4, J4, H', ⟨Nat.le_refl _⟩, ⟨by (with_reducible repeat (first | apply Kd.V_alloc | apply Kd.V_drewN | apply aA)); exact HO0.out⟩, ⟨by (with_reducible repeat (first | apply Kd.V_alloc | apply Kd.V_drewN | apply aA)); exact HO0.out⟩, ⟨J0⟩⟩
 case round =>
  clear H'
  obtain ⟨x3_1, x11_1, rfl, rfl, HA, HK1, HO_0, HO_9, HB⟩ := hrel
  cases gk with
  | zero => exact absurd HA.out (by simp [Xah.l0])
  | succ k1 =>
   have H := HA.out
   clear HA
   simp only [Xah.l0] at H
   refine yD H ?_ ?_ <;> clear H <;> rintro c2b0 H
   ·refine yu H ?_ ?_ <;> clear H <;> rintro c3 H
    ·have c3b0 : decide (0 ≤ x11_1) = true := decide_eq_true c3
     clear c3
     refine yu H ?_ ?_ <;> clear H <;> rintro c4 H
     ·have c4b0 : decide (x11_1 < (l0.length : Int)) = true := decide_eq_true c4
      clear c4
      refine yu H ?_ ?_ <;> clear H <;> rintro c5 H
      ·exact absurd H J83
      ·have c5b0 : decide ((wrap64 (x3_1 + ((Xa5 l0 x11_1).length : Int))) < 0) = false := decide_eq_false c5
       clear c5
       have H' := zq H
       clear H
       have p198 : 0 ≤ (x11_1 : Int) := of_decide_eq_true J2
       have q198 : x11_1 < (l0.length : Int) := of_decide_eq_true J2
       obtain ⟨ad198, A198_0, c198_0, e198, hx198_0, hl198_0, hi198_0⟩ := at_L5 (kWs_C (av HO_9.out).2.2) x11_1 p198 q198
       cases e198
       obtain ⟨ce198, hce198, hMe198, hcc198⟩ := bW HO_9.out [] x11_1 p198 (by first | exact q198 | exact of_decide_eq_true J2 | (have e_ := (av HO_9.out).1; omega))
       obtain ⟨ua198_0, uc198_0, rfl, ul198_0, ge198_0⟩ := bg hMe198
       have hv198_0 := hcc198 0 _ rfl
       rw [Nat.add_zero, show ((Kd.slice 30 (kW b_))).sz = 1 from rfl, Nat.mul_one] at hv198_0
       replace hv198_0 := Option.some.inj (hv198_0.symm.trans hx198_0)
       injection hv198_0 with hva_ hvn_ hvc_
       rw [hva_] at ge198_0
       rw [hvc_] at ul198_0
       have HL198_0 := zq (show Kd.V (kW b_) 30 _ w.heap.size _ _ (Xa5 l0 x11_1) from be ul198_0 ge198_0)
       clear hva_ hvn_ hvc_ ge198_0 ul198_0
       clear hcc198 hce198
       have HR198_0 := zq hi198_0
       have HC198_0 := zq hl198_0
       clear hi198_0 hl198_0
       replace p198 := eq_true p198
       replace q198 := eq_true q198
       go_wp2
       go_roundg k1
       case measure => have := HK1.out; omega
       case rel => exact ⟨(wrap64 (x3_1 + ((Xa5 l0 x11_1).length : Int))), (wrap64 (x11_1 + 1)), J4, J4, H', ⟨J84⟩, ⟨J183⟩, ⟨by (with_reducible repeat (first | apply Kd.V_alloc | apply Kd.V_drewN | apply aA)); exact HO_9.out⟩, ⟨J0⟩⟩
     ·exact absurd H J83
    ·exact absurd H J83
   refine yv H ?_; clear H; rintro t199 A6 H
   have H' := zq H
   clear H
   go_wp2_with (first | ((with_reducible refine Xi (f := 66) rfl ?_); refine gL 24 Try.func66 #[.slice none 0 0, .int .i64 x3_1] (Xcn.calls b_ x3_1 t199 _ A6.out) ?_; rintro e w7 ⟨v200, rfl, ho0, hb⟩; refine ⟨_, rfl, ?_⟩; replace HO_0 := zq (am (zv HO_0.out) (ao ho0) hb); have HO201 := zq (aH (ap (ok' := fun k_ => (P0_ k_ ∨ w.heap.size ≤ k_)) ho0 (fun k_ hk_ => (.inr (Nat.le_trans (Xc J0) hk_)))) (Xc J0)); replace HB := zq (Xe J0 hb); (try clear hb); (try clear hk); (try clear ho0)))
   go_loopg [6, 27] k1 (fun kq v6 v27 w' => ∃ (x6_2 : List (S30)) (x27_2 : Int), v27 = .int .i64 x27_2 ∧ Aside0 (Xah.l1 kq x6_2 l0 (l0.length : Int) x27_2 = some r) ∧ Aside0 (kq ≤ k1) ∧ Aside0 (Kd.N (kW b_) 30 w' w.heap.size (fun k_ => (P0_ k_ ∨ w.heap.size ≤ k_)) v6 x6_2) ∧ Aside0 (Kd.V (Kd.slice 30 (kW b_)) 22 w' w.heap.size (fun k_ => (P0_ k_ ∨ w.heap.size ≤ k_) ∧ some k_ ≠ (v6 : Value).ownBlock) (.slice A0 l0.length c0) l0) ∧ Aside0 (Below w.heap.size w w'))
   case atStart => exact ⟨(t199), (0), J4, H', ⟨Nat.le_refl _⟩, ⟨by (with_reducible repeat (first | apply Kd.N_alloc | apply Kd.N_drewN | apply aC)); exact HO201.out⟩, ⟨J183⟩, ⟨J0⟩⟩
   case round =>
    clear H'
    try clear c2b0
    obtain ⟨x6_2, x27_2, rfl, HA, HK2, HO_6, HO_25, HB⟩ := hrel
    cases gk with
    | zero => exact absurd HA.out (by simp [Xah.l1])
    | succ k2 =>
     have H := HA.out
     clear HA
     simp only [Xah.l1] at H
     refine yd H ?_ ?_ <;> clear H <;> rintro c8b0 H
     ·obtain rfl := yo H
      go_wp2
      go_ret
      exact ⟨_, J1, by (with_reducible repeat (first | apply Kd.N_alloc | apply Kd.N_drewN | apply aC)); exact HO_6.out, J0⟩
     refine yj H ?_; clear H; intro c9b0 H
     refine yj H ?_; clear H; intro c10b0 H
     refine yi H ?_; clear H; intro c11 H
     have LMc11 := zq c11
     clear c11
     obtain ⟨y203, hy203⟩ : ∃ y_ : List (S30), y_ = (x6_2 ++ (Xa5 l0 x27_2)) := ⟨_, rfl⟩
     replace H : (Xah.l1 k2 y203 l0 (l0.length : Int) (wrap64 (x27_2 + 1))) = some r := by first | (rw [hy203]; with_reducible exact H) | (have H2_ := (Option.bind_some _ _).symm.trans H; rw [hy203]; with_reducible exact H2_) | (have H2_ := (Option.bind_some _ _).symm.trans H; with_reducible exact H2_) | with_reducible exact H | (rw [hy203]; exact H) | exact H
     have Ny203 := zq hy203
     clear hy203
     have H' := zq H
     clear H
     have p202 : 0 ≤ (x27_2 : Int) := of_decide_eq_true J2
     have q202 : x27_2 < (l0.length : Int) := of_decide_eq_true J2
     obtain ⟨ad202, A202_0, c202_0, e202, hx202_0, hl202_0, hi202_0⟩ := at_L5 (kWs_C (av HO_25.out).2.2) x27_2 p202 q202
     cases e202
     obtain ⟨ce202, hce202, hMe202, hcc202⟩ := bW HO_25.out [] x27_2 p202 (by first | exact q202 | exact of_decide_eq_true J2 | (have e_ := (av HO_25.out).1; omega))
     obtain ⟨ua202_0, uc202_0, rfl, ul202_0, ge202_0⟩ := bg hMe202
     have hv202_0 := hcc202 0 _ rfl
     rw [Nat.add_zero, show ((Kd.slice 30 (kW b_))).sz = 1 from rfl, Nat.mul_one] at hv202_0
     replace hv202_0 := Option.some.inj (hv202_0.symm.trans hx202_0)
     injection hv202_0 with hva_ hvn_ hvc_
     rw [hva_] at ge202_0
     rw [hvc_] at ul202_0
     have HL202_0 := zq (show Kd.V (kW b_) 30 _ w.heap.size _ _ (Xa5 l0 x27_2) from be ul202_0 ge202_0)
     clear hva_ hvn_ hvc_ ge202_0 ul202_0
     clear hcc202 hce202
     have HR202_0 := zq hi202_0
     have HC202_0 := zq hl202_0
     clear hi202_0 hl202_0
     replace p202 := eq_true p202
     replace q202 := eq_true q202
     go_wp2_with (first | ((with_reducible refine Xa0 (b := .append) (xs := #[.tmp 31, .tmp 32]) rfl ?_); at_builtin; refine bj (kW b_) (w0 := w) w.heap.size rfl (.tmp 31) (.tmp 32) 22 30 (.agg #[(.int .i64 0), (.slice none 0 0), (.slice none 0 0), (.slice none 0 0)]) 80 rfl Try.underlying22 Xck rfl (show 0 < 4 by decide) J29 u6 x6_2 (Xa5 l0 x27_2) _ _ _ (fun k_ => (P0_ k_ ∨ w.heap.size ≤ k_)) (fun k_ => ((fun k_ => (P0_ k_ ∨ w.heap.size ≤ k_))) k_ ∧ some k_ ≠ (u6 : Value).ownBlock) rfl rfl ?aO ?aR (fun _ hk => hk) ?aF ?aB ?aS ?aL ?_; (case aR => exact (by skip; exact cF (aj (ok' := (fun k_ => ((fun k_ => (P0_ k_ ∨ w.heap.size ≤ k_))) k_ ∧ some k_ ≠ (u6 : Value).ownBlock)) (HL202_0.out) (fun k_ hk => ⟨hk.1, hk.2⟩)))); (case aB => exact J0); (case aF => exact (fun k_ hk => (.inr (Nat.le_trans (Xc J0) hk)))); (case aO => exact (zn HO_6.out)); (case aS => exact (Xc J0)); (case aL => have := LMc11.out; omega); intro v204 w12 ho hb hg hat; rw [← Ny203.out] at ho; replace HO_25 := zq (aN (ok := (fun k_ => (P0_ k_ ∨ w.heap.size ≤ k_))) (zv HO_25.out) hg hat); replace HB := zq (hb); have HO205 := zq (ho); clear HO_6; clear ho hb hg hat))
     go_roundg k2
     case measure => have := HK1.out; have := HK2.out; omega
     case rel => exact ⟨(y203), (wrap64 (x27_2 + 1)), J4, H', ⟨by have := HK1.out; have := HK2.out; omega⟩, ⟨by (with_reducible repeat (first | apply Kd.N_alloc | apply Kd.N_drewN | apply aC)); exact HO205.out⟩, ⟨by (with_reducible repeat (first | apply Kd.V_alloc | apply Kd.V_drewN | apply aA)); exact HO_25.out⟩, ⟨J0⟩⟩
mutual
def array_Kids.j0 : Nat → List (S30) → List (List (S30)) → Bool → Option ((List (List (S30))))
 | 0, _, _, _ => none
 | k + 1, x0, x2, x13 => if x13 = true then (some ([] : List (List (S30)))) else (if 1 ≤ (x0.length : Int) then (array_Kids.l0 k (x0.drop 1) x2) else (none))
def array_Kids.l0 : Nat → List (S30) → List (List (S30)) → Option ((List (List (S30))))
 | 0, _, _ => none
 | k + 1, x0, x2 => if (x0.length : Int) > 0 then ((Xbr.f k x0).bind fun t213 => (if 0 ≤ t213 then (if t213 ≤ (x0.length : Int) then ((Xb3.f (x0.take (t213 : Int).toNat)).bind fun t219 => (if x2.length < 5864062014805 then (array_Kids.l0 k (x0.drop (t213 : Int).toNat) (x2 ++ [t219])) else (none))) else (none)) else (none))) else (some x2)
end
def array_Kids.f (k : Nat) (l0 : List (S30)) : Option ((List (List (S30)))) := (Xa8.f k l0).bind fun t206 => (if t206 = true then (if 0 < (l0.length : Int) then (array_Kids.j0 k l0 ([] : List (List (S30))) (((Xa l0 0).f0) != 5)) else (none)) else (array_Kids.j0 k l0 ([] : List (List (S30))) true))
theorem array_Kids.mono_l : ∀ k, (∀ y0 y1 y2, LeO (array_Kids.j0 k y0 y1 y2) (array_Kids.j0 (k + 1) y0 y1 y2)) ∧ (∀ y0 y1, LeO (array_Kids.l0 k y0 y1) (array_Kids.l0 (k + 1) y0 y1))
 | 0 => ⟨fun _ _ _ r h => by simp [array_Kids.j0] at h, fun _ _ r h => by simp [array_Kids.l0] at h⟩
 | k + 1 => by
  obtain ⟨ih0, ih1⟩ := array_Kids.mono_l k
  refine ⟨?_, ?_⟩
  ·intro y0 y1 y2
   unfold array_Kids.j0
   have im0 := @Xa8.mono
   have im1 := @Xbr.mono
   exact mz3
  ·intro y0 y1
   unfold array_Kids.l0
   have im0 := @Xa8.mono
   have im1 := @Xbr.mono
   exact mz3
theorem array_Kids.mono : ∀ a0 k, LeO (array_Kids.f k a0) (array_Kids.f (k + 1) a0) := by
 intro a0 k
 obtain ⟨ih0, ih1⟩ := array_Kids.mono_l k
 unfold array_Kids.f
 have im0 := @Xa8.mono
 have im1 := @Xbr.mono
 exact mz3
def array_Kids.T6 : Bool × List (List Nat × List Nat) := (true, [([], []), ([], []), ([], []), ([1, 2], [1, 2]), ([3], [3]), ([4], [4]), ([0, 5, 4], [0, 5]), ([], []), ([], []), ([7, 8], [7, 8]), ([6, 6, 0, 1, 2, 3, 4, 5, 6], [0, 6]), ([9, 10, 0, 1, 2, 3, 4, 5, 6, 7, 8, 9, 10], [1, 7, 9])])
def array_Kids.B6 : List Nat := [0, 0, 0, 6, 14, 30, 63, 0, 0, 384, 127, 2047]
theorem array_Kids.tab6 : Xch .any (opsOf Try.f49 6) = array_Kids.T6 := J17
theorem array_Kids.bits6 : Xcf array_Kids.T6.2 array_Kids.B6 = true := J17
set_option maxHeartbeats 8000000 in
set_option maxRecDepth 100000 in
theorem array_Kids.calls0 (k : Nat) (P0_ : Nat → Prop) (A0 : Option Addr) (c0 : Nat) (l0 : List (S30)) (r : List (List (S30))) (w : World) (hs0 : Kd.V k30 30 w w.heap.size (fun k_ => P0_ k_) (.slice A0 l0.length c0) l0) (h : array_Kids.f k l0 = some r) :
  Calls Try.prog 49 #[.slice A0 l0.length c0] w fun e w' => ∃ v0_ : Value, e = .returned (v0_) ∧ Kd.R (Kd.slice 30 k30) 22 w' w.heap.size (fun k_ => (w.heap.size ≤ k_)) v0_ r ∧ Below w.heap.size w w' := by
 have HO0 := zq (show Kd.V k30 30 w w.heap.size (fun k_ => (P0_ k_ ∨ w.heap.size ≤ k_)) (.slice A0 l0.length c0) l0 from aj hs0 (fun k_ hk => .inl hk))
 have HB := zq (Below.refl w.heap.size w)
 have H : ((Xa8.f k l0).bind fun t206 => (if t206 = true then (if 0 < (l0.length : Int) then (array_Kids.j0 k l0 ([] : List (List (S30))) (((Xa l0 0).f0) != 5)) else (none)) else (array_Kids.j0 k l0 ([] : List (List (S30))) true))) = some r := h
 clear h
 have HC2 := zq H
 clear H
 go_enter Try.func49, Try.ntmps49
 go_upto_region 1 with (fail)
 go_cut [13] (fun v13 wc => ∃ (kq : Nat) (x13_1 : Bool), v13 = .bool x13_1 ∧ Aside0 (array_Kids.j0 kq l0 ([] : List (List (S30))) x13_1 = some r) ∧ Aside0 (kq ≤ k) ∧ Aside0 (Kd.V k30 30 wc w.heap.size (fun k_ => (P0_ k_ ∨ w.heap.size ≤ k_) ∧ some k_ ≠ ((.slice none 0 0) : Value).ownBlock) (.slice A0 l0.length c0) l0) ∧ Aside0 (Kd.R (Kd.slice 30 k30) 22 wc w.heap.size (fun k_ => (w.heap.size ≤ k_)) (.slice none 0 0) ([] : List (List (S30)))) ∧ Aside0 (Below w.heap.size w wc))
 case first =>
  have H := HC2.out
  clear HC2
  refine yv H ?_; clear H; rintro t206 A3 H
  refine yB H ?_ ?_ <;> clear H <;> rintro rfl H
  ·have H' := zq H
   clear H
   go_wp2_with (first | ((with_reducible refine Xi (f := 23) rfl ?_); refine gL 5 Try.func23 #[.slice A0 l0.length c0] (Xa8.calls k _ _ l0 false _ (zc ((av HO0.out).2.2)) ((av HO0.out).2.1) A3.out) ?_; rintro e w7 ⟨rfl, hb⟩; refine ⟨_, rfl, ?_⟩; replace HO0 := zq (ax (zv HO0.out) hb); replace HB := zq (Xe J0 hb); (try clear hb); (try clear hk)))
   go_meet
   case rel => exact ⟨_, (true), J4, H', ⟨J32⟩, ⟨J147⟩, ⟨J8⟩, ⟨J0⟩⟩
  refine yi H ?_; clear H; intro c5 H
  have c5b0 := decide_eq_true c5
  have c5b1 : decide (0 < l0.length) = true := decide_eq_true J29
  clear c5
  (first | rw [c5b0] | (simp only [Xan, Xaq]; rw [c5b0]) | skip)
  have H' := zq H
  clear H
  go_wp2_with (first | ((with_reducible refine Xi (f := 23) rfl ?_); refine gL 5 Try.func23 #[.slice A0 l0.length c0] (Xa8.calls k _ _ l0 true _ (zc ((av HO0.out).2.2)) ((av HO0.out).2.1) A3.out) ?_; rintro e w6 ⟨rfl, hb⟩; refine ⟨_, rfl, ?_⟩; replace HO0 := zq (ax (zv HO0.out) hb); replace HB := zq (Xe J0 hb); (try clear hb); (try clear hk); obtain ⟨ad207, A207_1, c207_1, A207_2, c207_2, A207_3, c207_3, e207, hx207_0, hx207_1, hx207_2, hx207_3, HL207_1, HL207_2, HL207_3, HR207_1, HC207_1, HR207_2, HC207_2, HR207_3, HC207_3, p207, q207, qi207⟩ := rdV0 HO0.out w.heap.size; cases e207))
  go_meet
  case rel => exact ⟨_, ((((Xa l0 0).f0) != 5)), J4, H', ⟨J32⟩, ⟨J147⟩, ⟨J8⟩, ⟨J0⟩⟩
 case rest =>
  clear HC2
  obtain ⟨kq, x13_1, rfl, HA, HJ1, HO_0, HO_2, HB⟩ := hcut
  cases kq with
  | zero => exact absurd HA.out (by simp [array_Kids.j0])
  | succ kj1 =>
   have H := HA.out
   clear HA
   simp only [array_Kids.j0] at H
   refine yC H ?_ ?_ <;> clear H <;> rintro rfl H
   ·obtain rfl := yo H
    go_wp2
    go_ret
    exact ⟨_, J1, J8, J0⟩
   refine yi H ?_; clear H; intro c9 H
   have c9b0 := eq_true c9
   have c9b1 := decide_eq_true c9
   clear c9
   obtain ⟨y208, hy208⟩ : ∃ y_ : List (S30), y_ = (l0.drop 1) := ⟨_, rfl⟩
   replace H : (array_Kids.l0 kj1 y208 ([] : List (List (S30)))) = some r := by first | (rw [hy208]; with_reducible exact H) | (have H2_ := (Option.bind_some _ _).symm.trans H; rw [hy208]; with_reducible exact H2_) | (have H2_ := (Option.bind_some _ _).symm.trans H; with_reducible exact H2_) | with_reducible exact H | (rw [hy208]; exact H) | exact H
   have Ny208 := zq hy208
   clear hy208
   have H' := zq H
   clear H
   have q10 : (1 : Int) ≤ ((l0.length : Int) : Int) := of_decide_eq_true J2
   obtain ⟨i010, hi010, _, hsz10, _⟩ := info_parts Xck
   have hroom10 : l0.length ≤ c0 := (av HO_0.out).2.1
   have hC10 : Kd.F k30 _ _ A0 l0.length l0 := (ca (base := w.heap.size) HO_0.out).2.2
   have hcut10 := Xdi (P := Try.prog) 22 30 .i64 Try.underlying22 hi010 4 hsz10 A0 l0.length c0 1 J29 q10
   have hr10 := cR (m := (1 : Int).toNat) (c := c0) hC10 J29 hroom10
   obtain ⟨A10, hA10⟩ : ∃ A_, A_ = (if c0 = (1 : Int).toNat then A0 else (A0 : Option Addr).map (·.add ((1 : Int).toNat * 4))) := ⟨_, rfl⟩
   obtain ⟨c10, hc10⟩ : ∃ c_, c_ = c0 - (1 : Int).toNat := ⟨_, rfl⟩
   have hy10 : y208.length = l0.length - (1 : Int).toNat := (by rw [Ny208.out, List.length_drop] <;> omega)
   rw [show (l0).drop (1 : Int).toNat = y208 from Ny208.out.symm] at hr10
   replace hr10 : Kd.F k30 _ _ A10 y208.length y208 := (by rw [hA10]; exact hr10)
   rw [← hy10, ← hA10, ← hc10] at hcut10
   have HO212 := zq (show Kd.V k30 30 _ w.heap.size _ (.slice A10 y208.length c10) y208 from be (by rw [hy10, hc10]; exact Nat.sub_le_sub_right hroom10 _) hr10)
   have HC212 := zq (show y208.length ≤ c10 from by rw [hy10, hc10]; exact Nat.sub_le_sub_right hroom10 _)
   clear hr10 hC10 hroom10 hi010 hsz10 hc10
   have KY10 := zq hy10
   have KA10 := zq hA10
   clear hy10 hA10
   replace q10 := eq_true q10
   go_wp2
   go_loopg [0, 2] kj1 (fun kq v0 v2 w' => ∃ (x0_2 : List (S30)) (x2_2 : List (List (S30))), Aside0 (array_Kids.l0 kq x0_2 x2_2 = some r) ∧ Aside0 (kq ≤ kj1) ∧ Aside0 (Kd.V k30 30 w' w.heap.size (fun k_ => (P0_ k_ ∨ w.heap.size ≤ k_) ∧ some k_ ≠ (v2 : Value).ownBlock) v0 x0_2) ∧ Aside0 (Kd.R (Kd.slice 30 k30) 22 w' w.heap.size (fun k_ => (w.heap.size ≤ k_)) v2 x2_2) ∧ Aside0 (Below w.heap.size w w'))
   case atStart => exact ⟨(y208), (([] : List (List (S30)))), H', ⟨Nat.le_refl _⟩, ⟨by (with_reducible repeat (first | apply Kd.V_alloc | apply Kd.V_drewN | apply aA)); exact HO212.out⟩, ⟨J184⟩, ⟨J0⟩⟩
   case round =>
    clear H'
    try clear c9
    try clear c9b0
    try clear c9b1
    try clear c10
    try clear q10
    try clear q10
    obtain ⟨x0_2, x2_2, HA, HK2, HO_0, HO_2, HB⟩ := hrel
    cases gk with
    | zero => exact absurd HA.out (by simp [array_Kids.l0])
    | succ k2 =>
     have H := HA.out
     clear HA
     simp only [array_Kids.l0] at H
     refine yt H ?_ ?_ <;> clear H <;> rintro c11 H
     ·have c11b0 : decide (0 < (x0_2.length : Int)) = false := decide_eq_false c11
      have c11b1 : decide (0 < x0_2.length) = false := decide_eq_false J29
      clear c11
      obtain rfl := yo H
      obtain ⟨Ao27, co27, eo27⟩ := bn HO_0.out
      subst eo27
      go_wp2
      go_ret
      exact ⟨_, J1, J184, J0⟩
     have c11b0 := decide_eq_true c11
     have c11b1 : decide (0 < x0_2.length) = true := decide_eq_true J29
     clear c11
     refine yv H ?_; clear H; rintro t213 A12 H
     refine yi H ?_; clear H; intro c13 H
     have c13b0 := eq_true c13
     have c13b1 := decide_eq_true c13
     clear c13
     refine yi H ?_; clear H; intro c14 H
     have c14b0 := eq_true c14
     have c14b1 := decide_eq_true c14
     clear c14
     obtain ⟨y214, hy214⟩ : ∃ y_ : List (S30), y_ = (x0_2.take (t213 : Int).toNat) := ⟨_, rfl⟩
     replace H : ((Xb3.f y214).bind fun t219 => (if x2_2.length < 5864062014805 then (array_Kids.l0 k2 (x0_2.drop (t213 : Int).toNat) (x2_2 ++ [t219])) else (none))) = some r := by first | (rw [hy214]; with_reducible exact H) | (have H2_ := (Option.bind_some _ _).symm.trans H; rw [hy214]; with_reducible exact H2_) | (have H2_ := (Option.bind_some _ _).symm.trans H; with_reducible exact H2_) | with_reducible exact H | (rw [hy214]; exact H) | exact H
     have Ny214 := zq hy214
     clear hy214
     refine yv H ?_; clear H; rintro t219 A15 H
     refine yi H ?_; clear H; intro c16 H
     have LMc16 := zq c16
     clear c16
     obtain ⟨y222, hy222⟩ : ∃ y_ : List (List (S30)), y_ = (x2_2 ++ [t219]) := ⟨_, rfl⟩
     replace H : (array_Kids.l0 k2 (x0_2.drop (t213 : Int).toNat) y222) = some r := by first | (rw [hy222]; with_reducible exact H) | (have H2_ := (Option.bind_some _ _).symm.trans H; rw [hy222]; with_reducible exact H2_) | (have H2_ := (Option.bind_some _ _).symm.trans H; with_reducible exact H2_) | with_reducible exact H | (rw [hy222]; exact H) | exact H
     have Ny222 := zq hy222
     clear hy222
     have c17b0 := eq_true (of_decide_eq_true J2 : 0 ≤ t213)
     have c18b0 := eq_true (of_decide_eq_true J2 : t213 ≤ (x0_2.length : Int))
     obtain ⟨y225, hy225⟩ : ∃ y_ : List (S30), y_ = (x0_2.drop (t213 : Int).toNat) := ⟨_, rfl⟩
     rw (occs := .pos [1]) [← hy225] at H
     have Ny225 := zq hy225
     clear hy225
     have H' := zq H
     clear H
     obtain ⟨Ao19, co19, eo19⟩ := bn HO_0.out
     subst eo19
     try go_wp2_with (first | ((with_reducible refine Xi (f := 47) rfl ?_); refine gL 20 Try.func47 #[.slice Ao19 x0_2.length co19] (Xbr.calls k2 _ _ x0_2 t213 _ (zc ((av HO_0.out).2.2)) ((av HO_0.out).2.1) A12.out) ?_; rintro e w20 ⟨rfl, hb⟩; refine ⟨_, rfl, ?_⟩; replace HO_0 := zq (ax (zv HO_0.out) hb); replace HO_2 := zq (ab (zr HO_2.out) hb); replace HB := zq (Xe J0 hb); (try clear hb); (try clear hk)))
     replace HO_0 := zq (aA HO_0.out)
     replace HO_2 := zq (ak HO_2.out)
     replace HB := zq (X9 HB.out)
     have q22 : (t213 : Int) ≤ ((x0_2.length : Int) : Int) := of_decide_eq_true J2
     obtain ⟨i022, hi022, _, hsz22, _⟩ := info_parts Xck
     have hroom22 : x0_2.length ≤ co19 := (av HO_0.out).2.1
     have hC22 : Kd.F k30 _ _ Ao19 x0_2.length x0_2 := (ca (base := w.heap.size) HO_0.out).2.2
     have hcut22 := cut_to (P := Try.prog) 22 30 .i64 Try.underlying22 hi022 Ao19 x0_2.length co19 t213 (of_decide_eq_true J2) q22 hroom22
     have hr22 := Kd.F_take (m := (t213 : Int).toNat) hC22 J29
     have hy22 : y214.length = (t213 : Int).toNat := (by rw [Ny214.out, List.length_take]; omega)
     rw [← Ny214.out] at hr22
     rw [← hy22] at hcut22
     have HO218 := zq (show Kd.V k30 30 _ w.heap.size _ (.slice Ao19 y214.length co19) y214 from be J29 hr22)
     have HC218 := zq (show y214.length ≤ co19 from by omega)
     clear hr22 hC22 hroom22 hi022 hsz22
     have KY22 := zq hy22
     clear hy22
     replace q22 := eq_true q22
     have q23 : (t213 : Int) ≤ ((x0_2.length : Int) : Int) := of_decide_eq_true J2
     obtain ⟨i023, hi023, _, hsz23, _⟩ := info_parts Xck
     have hroom23 : x0_2.length ≤ co19 := (av HO_0.out).2.1
     have hC23 : Kd.F k30 _ _ Ao19 x0_2.length x0_2 := (ca (base := w.heap.size) HO_0.out).2.2
     have q023 : (0 : Int) ≤ (t213 : Int) := of_decide_eq_true J2
     have hcut23 := Xdi (P := Try.prog) 22 30 .i64 Try.underlying22 hi023 4 hsz23 Ao19 x0_2.length co19 t213 q023 q23
     have hr23 := cR (m := (t213 : Int).toNat) (c := co19) hC23 J29 hroom23
     obtain ⟨A23, hA23⟩ : ∃ A_, A_ = (if co19 = (t213 : Int).toNat then Ao19 else (Ao19 : Option Addr).map (·.add ((t213 : Int).toNat * 4))) := ⟨_, rfl⟩
     obtain ⟨c23, hc23⟩ : ∃ c1, c1 = co19 - (t213 : Int).toNat := ⟨_, rfl⟩
     have hy23 : y225.length = x0_2.length - (t213 : Int).toNat := (by rw [Ny225.out, List.length_drop] <;> omega)
     rw [show (x0_2).drop (t213 : Int).toNat = y225 from Ny225.out.symm] at hr23
     replace hr23 : Kd.F k30 _ _ A23 y225.length y225 := (by rw [hA23]; exact hr23)
     rw [← hy23, ← hA23, ← hc23] at hcut23
     have HO229 := zq (show Kd.V k30 30 _ w.heap.size _ (.slice A23 y225.length c23) y225 from be (by rw [hy23, hc23]; exact Nat.sub_le_sub_right hroom23 _) hr23)
     have HC229 := zq (show y225.length ≤ c23 from by rw [hy23, hc23]; exact Nat.sub_le_sub_right hroom23 _)
     clear hr23 hC23 hroom23 hi023 hsz23 hc23
     have KY23 := zq hy23
     have KA23 := zq hA23
     clear hy23 hA23
     replace q23 := eq_true q23
     refine Xdb (n := 12) (S := fun w' => True) (ds := []) #[Z,Z,Z,Z,Z,Z,Z,Z,Z,Z,Z,Z] J17 rfl rfl trivial (fun hHeld => ?_); refine Xb9 array_Kids.tab6 array_Kids.bits6 (fun HT_ HW_ => ?_)
     generalize w20.drew = w21 at HO_0 HO_2 HB HO218 HO229 hHeld ⊢
     refine Xax 0 21 #[Y,Z,Z,Z,Z,Z,Z,Z,Z,Z,Z,Z] HT_ ?_
     refine Xax 1 22 #[Y,Y,Z,Z,Z,Z,Z,Z,Z,Z,Z,Z] HT_ ?_
     refine Xax 2 23 #[Y,Y,Y,Z,Z,Z,Z,Z,Z,Z,Z,Z] HT_ ?_
     refine Xax 3 24 #[Y,Y,Y,Y,Z,Z,Z,Z,Z,Z,Z,Z] HT_ ?_
     refine Xax 7 28 #[Y,Y,Y,Y,Z,Z,Z,Y,Z,Z,Z,Z] HT_ ?_
     refine Xax 8 29 #[Y,Y,Y,Y,Z,Z,Z,Y,Y,Z,Z,Z] HT_ ?_
     refine Xax 9 30 #[Y,Y,Y,Y,Z,Z,Z,Y,Y,Y,Z,Z] HT_ ?_
     refine Xcb (i := 4) (N := some 25) #[Y,Y,Y,Y,Y,Z,Z,Y,Y,Y,Z,Z] rfl rfl (Xbl HT_.out J17) J14 (fun K hK => ?_)
     refine Xcx Try.func45 J17 rfl #[.slice Ao19 y214.length co19] J63 rfl rfl J3 ?_
     with_reducible refine (Xb3.calls _ _ y214 t219 _ ?side1 ?side2 A15.out).mono ?_
     (case side1 => exact zc ((av HO218.out).2.2))
     (case side2 => exact (av HO218.out).2.1)
     rintro e w24 ⟨v220, rfl, ho0, hb⟩
     refine ⟨_, rfl, ?_⟩
     replace HO_0 := zq (am (zv HO_0.out) (bI ho0) hb)
     replace HO_2 := zq (ay (zr HO_2.out) (bI ho0) hb)
     replace HO229 := zq (am (zv HO229.out) (bI ho0) hb)
     have HO221 := zq (cg (Kd.S_newM (M := fun k_ => (w.heap.size ≤ k_)) ho0 (Xc J0) (fun k_ h_ => h_)) (Xc J0))
     replace HB := zq (Xe J0 hb)
     (try clear hb)
     (try clear hb2)
     (try clear hk)
     (try clear hi)
     (try clear ho0)
     obtain ⟨Ao26, co26, eo26⟩ := bX HO221.out
     (first | subst eo26 | (injection eo26 with f1_ f2_ f3_; have f4_ := f1_.symm; have f5_ := f3_.symm; clear f1_ f2_ f3_; subst f4_; subst f5_))
     refine hK.out _ _ trivial (fun hHeld => ?_)
     clear hK K
     refine Xap (a' := ?_) ?_ ?_
     rotate_left
     ·show Act.put _ (some 25) _ = _
      simp only [Act.put, List.setIfInBounds_toArray, List.set_cons_zero, List.set_cons_succ, Xan, Xaq]
      rfl
     refine Xcb (i := 5) (N := some 26) #[Y,Y,Y,Y,Y,Y,Z,Y,Y,Y,Z,Z] rfl rfl (Xbl HT_.out J17) J14 (fun K hK => ?_)
     refine value_ (w1 := ?_) (v := ?_) J63 rfl ?_ ?_
     rotate_left 2
     ·go_simp
      constructor
      ·rfl
      ·rfl
     refine hK.out _ _ trivial (fun hHeld => ?_)
     clear hK K
     refine Xap (a' := ?_) ?_ ?_
     rotate_left
     ·show Act.put _ (some 26) _ = _
      simp only [Act.put, List.setIfInBounds_toArray, List.set_cons_zero, List.set_cons_succ, Xan, Xaq]
      rfl
     refine Xcb (i := 6) (N := some 27) #[Y,Y,Y,Y,Y,Y,Y,Y,Y,Y,Z,Z] rfl rfl (Xbl HT_.out J17) J14 (fun K hK => ?_)
     refine bq (Kd.slice 30 k30) (w0 := w) w.heap.size J63 (.tmp 21) (.tmp 26) 42 22 (.slice none 0 0) 24 rfl Try.underlying42 info22 rfl J14 J29 u2 x2_2 t219 [.slice Ao26 t219.length co26] (fun k_ => (w.heap.size ≤ k_)) (fun k_ => ((fun k_ => (w.heap.size ≤ k_))) k_ ∧ some k_ ≠ (u2 : Value).ownBlock) rfl rfl ?aP (fun _ hk => hk) ?aF ?aO ?aB ?aS ?aL ?_
     (case aP => exact cO (af (aG ((cr HO221.out)) (aK HO_2.out) J14) (fun k_ hk => ⟨hk.1.1, hk.2⟩)))
     (case aB => exact J0)
     (case aF => exact (fun k_ hk => (Nat.le_trans (Xc J0) hk)))
     (case aO => exact (by (with_reducible repeat (first | apply Kd.R_alloc | apply ai | apply ak)); exact af HO_2.out (fun _ hk => hk.1)))
     (case aS => exact (Xc J0))
     (case aL => have := LMc16.out; omega)
     intro v223 w25 ho hb hg hat
     rw [← Ny222.out] at ho
     replace HO_0 := zq (aN (ok := (fun k_ => (P0_ k_ ∨ w.heap.size ≤ k_) ∧ some k_ ≠ (.slice Ao26 t219.length co26 : Value).ownBlock)) (by (with_reducible repeat (first | apply Kd.V_alloc | apply Kd.V_drewN | apply aA)); exact aj HO_0.out (fun _ hk => ⟨⟨hk.1.1, hk.2⟩, hk.1.2⟩)) hg hat)
     replace HO229 := zq (aN (ok := (fun k_ => (P0_ k_ ∨ w.heap.size ≤ k_) ∧ some k_ ≠ (.slice Ao26 t219.length co26 : Value).ownBlock)) (by (with_reducible repeat (first | apply Kd.V_alloc | apply Kd.V_drewN | apply aA)); exact aj HO229.out (fun _ hk => ⟨⟨hk.1.1, hk.2⟩, hk.1.2⟩)) hg hat)
     replace HB := zq (hb)
     have HO224 := zq (ho)
     clear HO_2 HO221
     clear ho hb hg hat
     refine hK.out _ _ trivial (fun hHeld => ?_)
     clear hK K
     refine Xap (a' := ?_) ?_ ?_
     rotate_left
     ·show Act.put _ (some 27) _ = _
      simp only [Act.put, List.setIfInBounds_toArray, List.set_cons_zero, List.set_cons_succ, Xan, Xaq]
      rfl
     refine Xax 10 2 #[Y,Y,Y,Y,Y,Y,Y,Y,Y,Y,Y,Z] HT_ ?_
     refine Xax 11 0 #[Y,Y,Y,Y,Y,Y,Y,Y,Y,Y,Y,Y] HT_ ?_
     refine Xd3 (Xcw HT_.out J17) ?_
     try go_wp2
     go_roundg k2
     case measure => have := HJ1.out; have := HK2.out; omega
     case rel => exact ⟨(y225), (y222), H', ⟨J144⟩, ⟨by (with_reducible repeat (first | apply Kd.V_alloc | apply Kd.V_drewN | apply aA)); exact aj HO229.out (fun _ hk => ⟨hk.1.1, hk.2⟩)⟩, ⟨by (with_reducible repeat (first | apply Kd.R_alloc | apply ai | apply ak)); exact HO224.out⟩, ⟨J0⟩⟩
def Xbq.f (k : Nat) (a0 : Int) : Option (Int × Int) := (X6.f k a0 0).bind fun bt231 => (some (bt231.1, bt231.2.1))
theorem Xbq.mono : ∀ a0 k, LeO (Xbq.f k a0) (Xbq.f (k + 1) a0) := by
 intro a0 k
 unfold Xbq.f
 have im0 := @X6.mono
 exact mz3
set_option maxHeartbeats 8000000 in
set_option maxRecDepth 100000 in
theorem Xbq.calls (k : Nat) (a0 : Int) (r1 : Int) (r2 : Int) (w : World) (h : Xbq.f k a0 = some (r1, r2)) :
  Calls Try.prog 20 #[.int .i64 a0] w fun e w' => e = .returned (.agg #[.int .i64 r1, .int .i64 r2]) ∧ Below w.heap.size w w' := by
 have hu38 := Try.underlying38
 have HB := zq (Below.refl w.heap.size w)
 unfold Xbq.f at h
 have H := h
 clear h
 refine yv H ?_; clear H; rintro ⟨t231, t232, t233⟩ A2 H
 dsimp only at H
 obtain ⟨rfl, rfl⟩ := yp2 H
 go_enter Try.func20, Try.ntmps20
 go_wp2_with (first | ((with_reducible refine Xj (N := 2) rfl ?_); refine bxw 2 38 #[.int .i64 0, .int .i64 0] ?_; intro gb230 hg w3 hbox hb; have BK230 := zq (hbox); have GE230 := zq ((J22 : w.heap.size ≤ gb230)); replace HB := zq (Xe J0 hb); clear hb hbox hg) | ((with_reducible refine Xi (f := 43) rfl ?_); refine gL 8 Try.func43 #[.agg #[.int .i64 a0, .int .i64 0]] (X6.calls k a0 0 t231 t232 t233 _ A2.out) ?_; rintro e w4 ⟨rfl, hb⟩; refine ⟨_, rfl, ?_⟩; replace BK230 := zq (Xg (zk BK230.out) hb); replace HB := zq (Xe (zs1 GE230.out) hb); (try clear hb)) | ((with_reducible refine Xj (N := 3) rfl ?_); refine bxw 3 38 #[.int .i64 0, .int .i64 0] ?_; intro gb234 hg w5 hbox hb; have BK234 := zq (hbox); have GE234 := zq ((by rw [hg]; exact (Xc (zs1 GE230.out)) : w.heap.size ≤ gb234)); replace HB := zq (Xe (zs1 GE230.out) hb); have NB230_234 := zq ((by rw [hg]; exact Nat.ne_of_lt (Xbd (g := gb230) (o := .cells #[.int .i64 0, .int .i64 0] 38 (0, 0)) (zk BK230.out)) : gb230 ≠ gb234)); have NB234_230 := zq ((by rw [hg]; exact Nat.ne_of_gt (Xbd (g := gb230) (o := .cells #[.int .i64 0, .int .i64 0] 38 (0, 0)) (zk BK230.out)) : gb234 ≠ gb230)); replace BK230 := zq (Xg (zk BK230.out) hb); clear hb hbox hg; have hnb6 := NB234_230.out; have hnc6 := NB230_234.out; have Z7 := cz2 BK234.out; have Z8 := cz2 BK230.out))
 refine bodyPost_ret (results_cell_row rfl _ _ gb230 38 #[.int .i64 t231, .int .i64 t232] (0, 0) _ rfl (by (with_reducible repeat (first | refine Xd ?_ _ | refine Xf ?_ | refine Xb ?_ _)); refine Xk (cs := #[.int .i64 t231, .int .i64 0]) ?_ 1 _ rfl; (with_reducible repeat (first | refine Xd ?_ _ | refine Xf ?_ | refine Xb ?_ _)); refine Xk (cs := #[.int .i64 0, .int .i64 0]) ?_ 0 _ rfl; (with_reducible repeat (first | refine Xd ?_ _ | refine Xf ?_ | refine Xb ?_ _)); refine Xab ?_ NB230_234.out _; (with_reducible repeat (first | refine Xd ?_ _ | refine Xf ?_ | refine Xb ?_ _)); refine Xab ?_ NB230_234.out _; (with_reducible repeat (first | refine Xd ?_ _ | refine Xf ?_ | refine Xb ?_ _)); exact BK230.out) Try.underlying38 rfl J17) rfl ?_
 exact ⟨J1, by repeat (first | (with_reducible first | exact HB.out | apply Xaf | apply X3 | apply X9 | refine X0 ?_ GE230.out | refine X0 ?_ GE234.out) | exact HB.out)⟩
end Go.Proofs.Ytecdklheppcihaa.HTightTells
