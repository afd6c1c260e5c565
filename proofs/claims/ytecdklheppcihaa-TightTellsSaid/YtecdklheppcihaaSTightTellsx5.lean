/- Words and walks, shortened by a program: what this claim's functions answer, and that other memory stays. -/
import Derived.Test.YtecdklheppcihaaSTightTellsx0
import Derived.Test.YtecdklheppcihaaSTightTellsx4
namespace Go.Proofs.Ytecdklheppcihaa.HTightTells
open Go.RowKit Go.Proofs.YtecdklheppcihaaW.PrintWords Go.Proofs.YtecdklheppcihaaW.PrintWords.Kd Go.Proofs.YtecdklheppcihaaW.PrintLast Go.Proofs.YtecdklheppcihaaW.PrintMore Go.Proofs.YtecdklheppcihaaW.PrintMore.Kd
attribute [local go_sem] Xbp Xbn Xbu Xbt Xbg Xbf Xbo Xbm
set_option linter.unusedVariables false
set_option linter.unusedSimpArgs false
mutual
def Xm.l0 : Nat → Int → Int → List Int → List (S30) → Int → Int → Option (Int × Int × Int)
 | 0, _, _, _, _, _, _ => none
 | k + 1, x3, x4, x5, x9, x10, x11 => if x11 < x10 then (if 0 ≤ x11 then (if x11 < (x9.length : Int) then ((Xp.f k ((Xa x9 x11).f0) ((Xa x9 x11).f1) ((Xa x9 x11).f2) ((Xa x9 x11).f3)).bind fun t131 => (if t131 < 0 then (Xm.j1 k (wrap64 (x3 + t131)) x4 x5 x11 t131 x9 x10 x11 true ((Xa x9 x11).f0) ((Xa x9 x11).f1) ((Xa x9 x11).f2) ((Xa x9 x11).f3)) else (if (wrap64 (x3 + t131)) > 1048576 then (Xm.j1 k (wrap64 (x3 + t131)) x4 x5 x11 t131 x9 x10 x11 true ((Xa x9 x11).f0) ((Xa x9 x11).f1) ((Xa x9 x11).f2) ((Xa x9 x11).f3)) else (Xm.j1 k (wrap64 (x3 + t131)) x4 x5 x11 t131 x9 x10 x11 (decide ((x5.length : Int) ≥ 16)) ((Xa x9 x11).f0) ((Xa x9 x11).f1) ((Xa x9 x11).f2) ((Xa x9 x11).f3))))) else (none)) else (none)) else (some (0, 0, 0))
def Xm.j1 : Nat → Int → Int → List Int → Int → Int → List (S30) → Int → Int → Bool → Int → List Int → List Int → List (S38) → Option (Int × Int × Int)
 | 0, _, _, _, _, _, _, _, _, _, _, _, _, _ => none
 | k + 1, x3, x4, x5, x6, x8, x9, x10, x11, x31, x131000, x131001, x131002, x131003 => if x31 = true then (some (0, 0, 0)) else (if x131000 = 5 then (if x5.length < 17592186044416 then (Xm.j2 k x3 (mx x4 (wrap64 ((x5.length : Int) + 1))) (x5 ++ [x8]) x6 x9 x10 x11) else (none)) else (if (x5.length : Int) > 0 then (if 0 ≤ (wrap64 ((x5.length : Int) - 1)) then (if (wrap64 ((x5.length : Int) - 1)) < (x5.length : Int) then (Xm.j2 k x3 (mx x4 (wrap64 ((x5.length : Int) + 1))) (x5.set ((wrap64 ((x5.length : Int) - 1)) : Int).toNat (wrap64 ((rd x5 (wrap64 ((x5.length : Int) - 1))) - 1))) x6 x9 x10 x11) else (none)) else (none)) else (Xm.j2 k x3 (mx x4 (wrap64 ((x5.length : Int) + 1))) x5 x6 x9 x10 x11)))
def Xm.j2 : Nat → Int → Int → List Int → Int → List (S30) → Int → Int → Option (Int × Int × Int)
 | 0, _, _, _, _, _, _, _ => none
 | k + 1, x3, x4, x5, x6, x9, x10, x11 => Xm.l1 k x3 x4 x5 x6 x9 x10 x11
def Xm.l1 : Nat → Int → Int → List Int → Int → List (S30) → Int → Int → Option (Int × Int × Int)
 | 0, _, _, _, _, _, _, _ => none
 | k + 1, x3, x4, x5, x6, x9, x10, x11 => if (x5.length : Int) > 0 then (if 0 ≤ (wrap64 ((x5.length : Int) - 1)) then (if (wrap64 ((x5.length : Int) - 1)) < (x5.length : Int) then (Xm.j4 k x3 x4 x5 x6 x9 x10 x11 ((rd x5 (wrap64 ((x5.length : Int) - 1))) == 0)) else (none)) else (none)) else (Xm.j4 k x3 x4 x5 x6 x9 x10 x11 false)
def Xm.j4 : Nat → Int → Int → List Int → Int → List (S30) → Int → Int → Bool → Option (Int × Int × Int)
 | 0, _, _, _, _, _, _, _, _ => none
 | k + 1, x3, x4, x5, x6, x9, x10, x11, x66 => if x66 = true then (if 0 ≤ (wrap64 ((x5.length : Int) - 1)) then (if (wrap64 ((x5.length : Int) - 1)) ≤ (x5.length : Int) then ((some (x5.take ((wrap64 ((x5.length : Int) - 1)) : Int).toNat : List Int)).bind fun y138 => (if (y138.length : Int) > 0 then (if 0 ≤ (wrap64 ((y138.length : Int) - 1)) then (if (wrap64 ((y138.length : Int) - 1)) < (y138.length : Int) then (Xm.l1 k x3 x4 (y138.set ((wrap64 ((y138.length : Int) - 1)) : Int).toNat (wrap64 ((rd y138 (wrap64 ((y138.length : Int) - 1))) - 1))) x6 x9 x10 x11) else (none)) else (none)) else (Xm.l1 k x3 x4 y138 x6 x9 x10 x11))) else (none)) else (none)) else (if (x5.length : Int) = 0 then (some (wrap64 (x6 + 1), x3, x4)) else (Xm.l0 k x3 x4 x5 x9 x10 (wrap64 (x11 + 1))))
end
def Xm.f (k : Nat) (l0 : List (S30)) : Option (Int × Int × Int) := Xm.l0 k 0 0 ([] : List Int) l0 (l0.length : Int) 0
theorem Xm.mono_l : ∀ k, (∀ y0 y1 y2 y3 y4 y5, LeO (Xm.l0 k y0 y1 y2 y3 y4 y5) (Xm.l0 (k + 1) y0 y1 y2 y3 y4 y5)) ∧ (∀ y0 y1 y2 y3 y4 y5 y6 y7 y8 y9 y10 y11 y12, LeO (Xm.j1 k y0 y1 y2 y3 y4 y5 y6 y7 y8 y9 y10 y11 y12) (Xm.j1 (k + 1) y0 y1 y2 y3 y4 y5 y6 y7 y8 y9 y10 y11 y12)) ∧ (∀ y0 y1 y2 y3 y4 y5 y6, LeO (Xm.j2 k y0 y1 y2 y3 y4 y5 y6) (Xm.j2 (k + 1) y0 y1 y2 y3 y4 y5 y6)) ∧ (∀ y0 y1 y2 y3 y4 y5 y6, LeO (Xm.l1 k y0 y1 y2 y3 y4 y5 y6) (Xm.l1 (k + 1) y0 y1 y2 y3 y4 y5 y6)) ∧ (∀ y0 y1 y2 y3 y4 y5 y6 y7, LeO (Xm.j4 k y0 y1 y2 y3 y4 y5 y6 y7) (Xm.j4 (k + 1) y0 y1 y2 y3 y4 y5 y6 y7))
 | 0 => ⟨fun _ _ _ _ _ _ r h => by simp [Xm.l0] at h, fun _ _ _ _ _ _ _ _ _ _ _ _ _ r h => by simp [Xm.j1] at h, fun _ _ _ _ _ _ _ r h => by simp [Xm.j2] at h, fun _ _ _ _ _ _ _ r h => by simp [Xm.l1] at h, fun _ _ _ _ _ _ _ _ r h => by simp [Xm.j4] at h⟩
 | k + 1 => by
  obtain ⟨ih0, ih1, ih2, ih3, ih4⟩ := Xm.mono_l k
  refine ⟨?_, ?_, ?_, ?_, ?_⟩
  ·intro y0 y1 y2 y3 y4 y5
   unfold Xm.l0
   have im0 := @Xp.mono
   exact mz3
  ·intro y0 y1 y2 y3 y4 y5 y6 y7 y8 y9 y10 y11 y12
   unfold Xm.j1
   have im0 := @Xp.mono
   exact mz3
  ·intro y0 y1 y2 y3 y4 y5 y6
   unfold Xm.j2
   have im0 := @Xp.mono
   exact mz3
  ·intro y0 y1 y2 y3 y4 y5 y6
   unfold Xm.l1
   have im0 := @Xp.mono
   exact mz3
  ·intro y0 y1 y2 y3 y4 y5 y6 y7
   unfold Xm.j4
   have im0 := @Xp.mono
   exact mz3
theorem Xm.mono : ∀ a0 k, LeO (Xm.f k a0) (Xm.f (k + 1) a0) := by
 intro a0 k
 obtain ⟨ih0, ih1, ih2, ih3, ih4⟩ := Xm.mono_l k
 unfold Xm.f
 have im0 := @Xp.mono
 exact mz3
set_option maxHeartbeats 8000000 in
set_option maxRecDepth 100000 in
theorem Xm.calls (k : Nat) (A0 : Option Addr) (c0 : Nat) (l0 : List (S30)) (r1 : Int) (r2 : Int) (r3 : Int) (w : World) (hr0 : Kd.C k30 w A0 l0.length l0) (hc0 : l0.length ≤ c0) (h : Xm.f k l0 = some (r1, r2, r3)) :
  Calls Try.prog 48 #[.slice A0 l0.length c0] w fun e w' => e = .returned (.tuple #[.int .i64 r1, .int .i64 r2, .int .i64 r3]) ∧ Below w.heap.size w w' := by
 have hu30 := Try.underlying30
 have HR0 := zq hr0
 have HC0 := zq hc0
 clear hr0 hc0
 have HB := zq (Below.refl w.heap.size w)
 unfold Xm.f at h
 have H := h
 clear h
 have H' := zq H
 clear H
 go_enter Try.func48, Try.ntmps48
 go_wp2
 go_loopg [3, 4, 5, 11] k (fun kq v3 v4 v5 v11 w' => ∃ (x3_1 : Int) (x4_1 : Int) (x5_1 : List Int) (x11_1 : Int), v3 = .int .i64 x3_1 ∧ v4 = .int .i64 x4_1 ∧ v11 = .int .i64 x11_1 ∧ Aside0 (Xm.l0 kq x3_1 x4_1 x5_1 l0 (l0.length : Int) x11_1 = some (r1, r2, r3)) ∧ Aside0 (kq ≤ k) ∧ Aside0 (Kd.R (Kd.int .i64) 3 w' w.heap.size (fun _ => True) v5 x5_1) ∧ Aside0 (Below w.heap.size w w'))
 case atStart => exact ⟨(0), (0), (([] : List Int)), (0), J4, J4, J4, H', ⟨Nat.le_refl _⟩, ⟨J8⟩, ⟨J0⟩⟩
 case round =>
  clear H'
  obtain ⟨x3_1, x4_1, x5_1, x11_1, rfl, rfl, rfl, HA, HK1, HO_5, HB⟩ := hrel
  cases gk with
  | zero => exact absurd HA.out (by simp [Xm.l0])
  | succ k1 =>
   have H := HA.out
   clear HA
   simp only [Xm.l0] at H
   refine yd H ?_ ?_ <;> clear H <;> rintro c2b0 H
   ·obtain ⟨rfl, rfl, rfl⟩ := yp3 H
    go_wp2
    go_ret3
    exact ⟨J1, J0⟩
   refine yj H ?_; clear H; intro c3b0 H
   refine yj H ?_; clear H; intro c4b0 H
   refine yv H ?_; clear H; rintro t131 A5 H
   have HC6 := zq H
   clear H
   obtain ⟨ad129, A129_1, c129_1, A129_2, c129_2, A129_3, c129_3, e129, hx129_0, hx129_1, hx129_2, hx129_3, HR129_1, HC129_1, HR129_2, HC129_2, HR129_3, HC129_3, p129, q129⟩ := rdC HR0.out HB.out x11_1
   cases e129
   go_upto_region 7 with (first | ((with_reducible refine Xj (N := 7) rfl ?_); (try (refine Xw J63 ?_; dsimp only)); refine bxw 7 30 #[.int .i64 0, .slice none 0 0, .slice none 0 0, .slice none 0 0] ?_; intro gb130 hg w7 hbox hb; replace HO_5 := zq (ab (zr HO_5.out) hb); have BK130 := zq (hbox); have GE130 := zq ((J22 : w.heap.size ≤ gb130)); replace HB := zq (Xe J0 hb); clear hb hbox hg; have Z8 := cz4 BK130.out) | ((with_reducible refine Xi (f := 67) rfl ?_); refine gL 17 Try.func67 #[.agg #[.int .i64 ((Xa l0 x11_1).f0), .slice A129_1 ((Xa l0 x11_1).f1).length c129_1, .slice A129_2 ((Xa l0 x11_1).f2).length c129_2, .slice A129_3 ((Xa l0 x11_1).f3).length c129_3]] (Xp.calls k1 ((Xa l0 x11_1).f0) _ _ ((Xa l0 x11_1).f1) _ _ ((Xa l0 x11_1).f2) _ _ ((Xa l0 x11_1).f3) t131 _ (ac HR129_1.out (zs1 GE130.out)) HC129_1.out (ac HR129_2.out (zs1 GE130.out)) HC129_2.out (ac HR129_3.out (zs1 GE130.out)) HC129_3.out A5.out) ?_; rintro e w9 ⟨rfl, hb⟩; refine ⟨_, rfl, ?_⟩; replace HO_5 := zq (ab (by (with_reducible repeat (first | apply Kd.R_alloc | apply ai | apply ak)); exact (gT4 HO_5.out BK130.out)) hb); replace BK130 := zq (Xg (g := gb130) (o := .cells #[.int .i64 ((Xa l0 x11_1).f0), .slice A129_1 ((Xa l0 x11_1).f1).length c129_1, .slice A129_2 ((Xa l0 x11_1).f2).length c129_2, .slice A129_3 ((Xa l0 x11_1).f3).length c129_3] 30 (0, 0)) (by (with_reducible repeat (first | refine Xd ?_ _ | refine Xf ?_ | refine Xb ?_ _)); refine Xk (cs := #[.int .i64 ((Xa l0 x11_1).f0), .slice A129_1 ((Xa l0 x11_1).f1).length c129_1, .slice A129_2 ((Xa l0 x11_1).f2).length c129_2, .slice none 0 0]) ?_ 3 _ rfl; (with_reducible repeat (first | refine Xd ?_ _ | refine Xf ?_ | refine Xb ?_ _)); refine Xk (cs := #[.int .i64 ((Xa l0 x11_1).f0), .slice A129_1 ((Xa l0 x11_1).f1).length c129_1, .slice none 0 0, .slice none 0 0]) ?_ 2 _ rfl; (with_reducible repeat (first | refine Xd ?_ _ | refine Xf ?_ | refine Xb ?_ _)); refine Xk (cs := #[.int .i64 ((Xa l0 x11_1).f0), .slice none 0 0, .slice none 0 0, .slice none 0 0]) ?_ 1 _ rfl; (with_reducible repeat (first | refine Xd ?_ _ | refine Xf ?_ | refine Xb ?_ _)); refine Xk (cs := #[.int .i64 0, .slice none 0 0, .slice none 0 0, .slice none 0 0]) ?_ 0 _ rfl; (with_reducible repeat (first | refine Xd ?_ _ | refine Xf ?_ | refine Xb ?_ _)); exact BK130.out) hb); replace HB := zq (Xe (zs1 GE130.out) hb); (try clear hb); (try clear hk)))
   (try simp only [Act.put, List.setIfInBounds_toArray, List.set_cons_zero, List.set_cons_succ])
   go_cut [31] (fun v31 wc => ∃ (kq : Nat) (x31_5 : Bool), v31 = .bool x31_5 ∧ Aside0 (Xm.j1 kq (wrap64 (x3_1 + t131)) x4_1 x5_1 x11_1 t131 l0 (l0.length : Int) x11_1 x31_5 ((Xa l0 x11_1).f0) ((Xa l0 x11_1).f1) ((Xa l0 x11_1).f2) ((Xa l0 x11_1).f3) = some (r1, r2, r3)) ∧ Aside0 (kq ≤ k1) ∧ Aside0 (Kd.R (Kd.int .i64) 3 wc w.heap.size (fun _ => True) u5 x5_1) ∧ Aside0 (wc.heap[gb130]? = some (.cells #[.int .i64 ((Xa l0 x11_1).f0), (.slice A129_1 ((Xa l0 x11_1).f1).length c129_1), (.slice A129_2 ((Xa l0 x11_1).f2).length c129_2), (.slice A129_3 ((Xa l0 x11_1).f3).length c129_3)] 30 (0, 0))) ∧ Aside0 (Below w.heap.size w wc))
   case first =>
    have H := HC6.out
    clear HC6
    refine yD H ?_ ?_ <;> clear H <;> rintro c10b0 H
    ·(first | rw [c10b0] | (simp only [Xan, Xaq]; rw [c10b0]) | skip)
     have H' := zq H
     clear H
     go_wp2
     go_meet
     case rel => exact ⟨_, (true), J4, H', ⟨J85⟩, ⟨J41⟩, ⟨J28⟩, ⟨J16⟩⟩
    (first | rw [c10b0] | (simp only [Xan, Xaq]; rw [c10b0]) | skip)
    refine yD H ?_ ?_ <;> clear H <;> rintro c11b0 H
    ·have H' := zq H
     clear H
     go_wp2
     go_meet
     case rel => exact ⟨_, (true), J4, H', ⟨J85⟩, ⟨J41⟩, ⟨J28⟩, ⟨J16⟩⟩
    have H' := zq H
    clear H
    obtain ⟨Ao12, co12, eo12⟩ := ah HO_5.out
    subst eo12
    go_wp2
    go_meet
    case rel => exact ⟨_, (decide ((x5_1.length : Int) ≥ 16)), J4, H', ⟨J85⟩, ⟨J41⟩, ⟨J28⟩, ⟨J16⟩⟩
   case rest =>
    clear HC6
    try clear c2b0
    try clear c3b0
    try clear c4b0
    try clear Z8
    try clear hx129_0
    try clear hx129_1
    try clear hx129_2
    try clear hx129_3
    try clear p129
    try clear q129
    obtain ⟨kq, x31_5, rfl, HA, HJ5, HO_5, BK130, HB⟩ := hcut
    cases kq with
    | zero => exact absurd HA.out (by simp [Xm.j1])
    | succ kj5 =>
     have H := HA.out
     clear HA
     simp only [Xm.j1] at H
     refine yC H ?_ ?_ <;> clear H <;> rintro rfl H
     ·obtain ⟨rfl, rfl, rfl⟩ := yp3 H
      go_wp2
      go_ret3
      exact ⟨J1, J16⟩
     obtain ⟨ji14, hji14⟩ : ∃ j_ : Int, (mx x4_1 (wrap64 ((x5_1.length : Int) + 1))) = j_ := ⟨_, rfl⟩
     replace H : (if ((Xa l0 x11_1).f0) = 5 then (if x5_1.length < 17592186044416 then (Xm.j2 kj5 (wrap64 (x3_1 + t131)) ji14 (x5_1 ++ [t131]) x11_1 l0 (l0.length : Int) x11_1) else (none)) else (if (x5_1.length : Int) > 0 then (if 0 ≤ (wrap64 ((x5_1.length : Int) - 1)) then (if (wrap64 ((x5_1.length : Int) - 1)) < (x5_1.length : Int) then (Xm.j2 kj5 (wrap64 (x3_1 + t131)) ji14 (x5_1.set ((wrap64 ((x5_1.length : Int) - 1)) : Int).toNat (wrap64 ((rd x5_1 (wrap64 ((x5_1.length : Int) - 1))) - 1))) x11_1 l0 (l0.length : Int) x11_1) else (none)) else (none)) else (Xm.j2 kj5 (wrap64 (x3_1 + t131)) ji14 x5_1 x11_1 l0 (l0.length : Int) x11_1))) = some (r1, r2, r3) := by first | (rw [hji14] at H; exact H) | (simp only [hji14] at H ⊢; exact H)
     have hji14_ : (if x4_1 < (wrap64 ((x5_1.length : Int) + 1)) then (wrap64 ((x5_1.length : Int) + 1)) else x4_1) = ji14 := hji14
     have HC15 := zq H
     clear H
     obtain ⟨Ao16, co16, eo16⟩ := ah HO_5.out
     subst eo16
     have Z17 := cz4 BK130.out
     go_upto_if 39 with (fail)
     go_cut [5] (fun v5 wc => ∃ (kq : Nat) (x5_14 : List Int), Aside0 (Xm.j2 kq (wrap64 (x3_1 + t131)) ji14 x5_14 x11_1 l0 (l0.length : Int) x11_1 = some (r1, r2, r3)) ∧ Aside0 (kq ≤ kj5) ∧ Aside0 (Kd.R (Kd.int .i64) 3 wc w.heap.size (fun _ => True) v5 x5_14) ∧ Aside0 (wc.heap[gb130]? = some (.cells #[.int .i64 ((Xa l0 x11_1).f0), (.slice A129_1 ((Xa l0 x11_1).f1).length c129_1), (.slice A129_2 ((Xa l0 x11_1).f2).length c129_2), (.slice A129_3 ((Xa l0 x11_1).f3).length c129_3)] 30 (0, 0))) ∧ Aside0 (Below w.heap.size w wc))
     case first =>
      have H := HC15.out
      clear HC15
      refine yF H ?_ ?_ <;> clear H <;> rintro ⟨c18b0, c18b1, c18⟩ H
      ·clear c18
       (first | rw [c18b0] | (simp only [Xan, Xaq]; rw [c18b0]) | skip)
       refine yu H ?_ ?_ <;> clear H <;> rintro c19 H
       ·have LMc19 := zq c19
        clear c19
        obtain ⟨y132, hy132⟩ : ∃ y_ : List Int, y_ = (x5_1 ++ [t131]) := ⟨_, rfl⟩
        replace H : (Xm.j2 kj5 (wrap64 (x3_1 + t131)) ji14 y132 x11_1 l0 (l0.length : Int) x11_1) = some (r1, r2, r3) := by first | (rw [hy132]; with_reducible exact H) | (have H2_ := (Option.bind_some _ _).symm.trans H; rw [hy132]; with_reducible exact H2_) | (have H2_ := (Option.bind_some _ _).symm.trans H; with_reducible exact H2_) | with_reducible exact H | (rw [hy132]; exact H) | exact H
        have Ny132 := zq hy132
        clear hy132
        have H' := zq H
        clear H
        go_wp2_with (first | ((with_reducible refine Xa0 (b := .append) (xs := #[.tmp 40, .tmp 42]) rfl ?_); (try (refine Xw J63 ?_; dsimp only)); at_builtin; refine br (Kd.int .i64) (w0 := w) w.heap.size rfl (.tmp 40) (.tmp 42) 23 3 (.int .i64 0) 8 rfl Try.underlying23 Xcm rfl J14 J29 (.slice Ao16 x5_1.length co16) x5_1 t131 [.int .i64 t131] (fun _ => True) (fun _ => False) rfl rfl ?aP (fun _ hk => hk.elim) ?aF ?aO ?aB ?aS ?aL ?_; (case aP => exact rfl); (case aB => exact (zs1 GE130.out)); (case aF => exact (fun _ _ => trivial)); (case aO => exact (zr HO_5.out)); (case aS => exact (Xc (zs1 GE130.out))); (case aL => have := LMc19.out; omega); intro v133 w20 ho hb hg hat; rw [← Ny132.out] at ho; replace BK130 := zq (Xa9 (g := gb130) (o := .cells #[.int .i64 ((Xa l0 x11_1).f0), .slice A129_1 ((Xa l0 x11_1).f1).length c129_1, .slice A129_2 ((Xa l0 x11_1).f2).length c129_2, .slice A129_3 ((Xa l0 x11_1).f3).length c129_3] 30 (0, 0)) (zk BK130.out) hg (bk HO_5.out BK130.out J14)); replace HB := zq (hb); have HO134 := zq (ho); clear HO_5; clear ho hb hg hat))
        go_meet
        case rel => exact ⟨_, (y132), H', ⟨J148⟩, ⟨by (with_reducible repeat (first | apply Kd.R_alloc | apply ai | apply ak)); exact HO134.out⟩, ⟨J28⟩, ⟨J16⟩⟩
       ·exact absurd H J83
      (first | rw [c18b0] | (simp only [Xan, Xaq]; rw [c18b0]) | skip)
      refine yt H ?_ ?_ <;> clear H <;> rintro c21 H
      ·have c21b0 : decide (0 < (x5_1.length : Int)) = false := decide_eq_false c21
       have c21b1 : decide (0 < x5_1.length) = false := decide_eq_false J29
       clear c21
       have H' := zq H
       clear H
       go_wp2
       go_meet
       case rel => exact ⟨_, (x5_1), H', ⟨J148⟩, ⟨J41⟩, ⟨J28⟩, ⟨J16⟩⟩
      have c21b0 := decide_eq_true c21
      have c21b1 : decide (0 < x5_1.length) = true := decide_eq_true J29
      clear c21
      obtain ⟨ji22, hji22⟩ : ∃ j_ : Int, (wrap64 ((x5_1.length : Int) - 1)) = j_ := ⟨_, rfl⟩
      replace H : (if 0 ≤ (ji22) then (if (ji22) < (x5_1.length : Int) then (Xm.j2 kj5 (wrap64 (x3_1 + t131)) ji14 (x5_1.set ((ji22) : Int).toNat (wrap64 ((rd x5_1 (ji22)) - 1))) x11_1 l0 (l0.length : Int) x11_1) else (none)) else (none)) = some (r1, r2, r3) := by first | (rw [hji22] at H; exact H) | (simp only [hji22] at H ⊢; exact H)
      have hji22w : (IntKind.i64.wrap ((x5_1.length : Int) - 1)) = ji22 := (Xan _).trans hji22
      refine yj H ?_; clear H; intro c23b0 H
      refine yj H ?_; clear H; intro c24b0 H
      obtain ⟨y136, hy136⟩ : ∃ y_ : List Int, y_ = (x5_1.set ((ji22) : Int).toNat (wrap64 ((rd x5_1 (ji22)) - 1))) := ⟨_, rfl⟩
      replace H : (Xm.j2 kj5 (wrap64 (x3_1 + t131)) ji14 y136 x11_1 l0 (l0.length : Int) x11_1) = some (r1, r2, r3) := by first | (rw [hy136]; with_reducible exact H) | (have H2_ := (Option.bind_some _ _).symm.trans H; rw [hy136]; with_reducible exact H2_) | (have H2_ := (Option.bind_some _ _).symm.trans H; with_reducible exact H2_) | with_reducible exact H | (rw [hy136]; exact H) | exact H
      have Ny136 := zq hy136
      clear hy136
      have H' := zq H
      clear H
      have p135 : 0 ≤ ((ji22) : Int) := of_decide_eq_true J2
      have q135 : (ji22) < (x5_1.length : Int) := of_decide_eq_true J2
      obtain ⟨ad135, e135, hx135_0⟩ := Kd.at_int (an HO_5.out).2.2 (ji22) p135 q135
      cases e135
      replace p135 := eq_true p135
      replace q135 := eq_true q135
      have p25 : 0 ≤ ((ji22) : Int) := of_decide_eq_true J2
      have q25 : ((ji22) : Int) < ((x5_1.length : Int) : Int) := of_decide_eq_true J2
      obtain ⟨go25, co25, eo25, gb25, gl25, cl25, HG25⟩ := bZ HO_5.out J29
      (first | cases eo25 | (injection eo25 with ea_ en_ ec_; (first | subst ea_ | (injection ea_ with ea_; subst ea_)); subst ec_; clear en_))
      have GB25 := zq gb25
      have GG25 := zq HG25
      clear gb25 gl25 HG25
      (first | simp only [Xcv] at hx135_0 | skip)
      obtain ⟨hx25_0, hf25_0⟩ := ck 0 HO_5.out ((ji22) : Int) p25 q25
      replace p25 := eq_true p25
      replace q25 := eq_true q25
      have HP26 := ct HO_5.out ((ji22) : Int) (wrap64 ((rd x5_1 (ji22)) - 1))
      go_wp2_with (first | ((with_reducible refine Xct (t := 3) (p := 54) rfl ?_); refine Xcl (t := 3) (p := 54) (v := ?vo_w27) (w1 := (wc.setCell ⟨go25, ((ji22) : Int).toNat, none⟩ (.int .i64 (wrap64 ((rd x5_1 (ji22)) - 1))))) ?hg ?ho ?hn ?hr ?_; (case ho => rfl); (case hg => rfl); (case hn => rfl); (case hr => first | (go_simp; done) | (go_simp; rfl)); intro w27 hw; have hg : wc.grownBy w27 (some go25) := (by rw [hw]; exact HP26.2); have hp_ : Kd.R (Kd.int .i64) 3 w27 w.heap.size (fun _ => True) (.slice (some ⟨go25, 0, none⟩) x5_1.length co16) y136 := (by rw [hw, Ny136.out]; exact HP26.1); clear HP26; replace BK130 := zq (Xa9 (g := gb130) (o := .cells #[.int .i64 ((Xa l0 x11_1).f0), .slice A129_1 ((Xa l0 x11_1).f1).length c129_1, .slice A129_2 ((Xa l0 x11_1).f2).length c129_2, .slice A129_3 ((Xa l0 x11_1).f3).length c129_3] 30 (0, 0)) (zk BK130.out) hg (bk HO_5.out BK130.out J14)); replace HO_5 := zq (hp_); replace HB := zq ((by rw [hw]; exact X0 (HB.out) GB25.out : Below w.heap.size w w27)); clear hg hw hp_))
      go_meet
      case rel => exact ⟨_, (y136), H', ⟨J148⟩, ⟨J41⟩, ⟨J28⟩, ⟨J16⟩⟩
     case rest =>
      clear HC15
      try clear c2b0
      try clear c3b0
      try clear c4b0
      try clear Z17
      try clear Z8
      try clear hx129_0
      try clear hx129_1
      try clear hx129_2
      try clear hx129_3
      try clear p129
      try clear q129
      obtain ⟨kq, x5_14, HA, HJ14, HO_5, BK130, HB⟩ := hcut
      cases kq with
      | zero => exact absurd HA.out (by simp [Xm.j2])
      | succ kj14 =>
       have H := HA.out
       clear HA
       simp only [Xm.j2] at H
       have H' := zq H
       clear H
       go_wp2
       go_loopg [5] kj14 (fun kq v5 w' => ∃ (x5_4 : List Int), Aside0 (Xm.l1 kq (wrap64 (x3_1 + t131)) ji14 x5_4 x11_1 l0 (l0.length : Int) x11_1 = some (r1, r2, r3)) ∧ Aside0 (kq ≤ kj14) ∧ Aside0 (Kd.R (Kd.int .i64) 3 w' w.heap.size (fun _ => True) v5 x5_4) ∧ Aside0 (w'.heap[gb130]? = some (.cells #[.int .i64 ((Xa l0 x11_1).f0), (.slice A129_1 ((Xa l0 x11_1).f1).length c129_1), (.slice A129_2 ((Xa l0 x11_1).f2).length c129_2), (.slice A129_3 ((Xa l0 x11_1).f3).length c129_3)] 30 (0, 0))) ∧ Aside0 (Below w.heap.size w w'))
       case atStart => exact ⟨(x5_14), H', ⟨Nat.le_refl _⟩, ⟨J41⟩, ⟨J28⟩, ⟨J16⟩⟩
       case round =>
        clear H'
        try clear c2b0
        try clear c3b0
        try clear c4b0
        try clear Z17
        try clear Z8
        try clear hx129_0
        try clear hx129_1
        try clear hx129_2
        try clear hx129_3
        try clear p129
        try clear q129
        obtain ⟨x5_4, HA, HK4, HO_5, BK130, HB⟩ := hrel
        cases gk with
        | zero => exact absurd HA.out (by simp [Xm.l1])
        | succ k4 =>
         have H := HA.out
         clear HA
         simp only [Xm.l1] at H
         have HC28 := zq H
         clear H
         go_upto_region 14 with (fail)
         go_cut [66] (fun v66 wc => ∃ (kq : Nat) (x66_27 : Bool), v66 = .bool x66_27 ∧ Aside0 (Xm.j4 kq (wrap64 (x3_1 + t131)) ji14 x5_4 x11_1 l0 (l0.length : Int) x11_1 x66_27 = some (r1, r2, r3)) ∧ Aside0 (kq ≤ k4) ∧ Aside0 (Kd.R (Kd.int .i64) 3 wc w.heap.size (fun _ => True) u5 x5_4) ∧ Aside0 (wc.heap[gb130]? = some (.cells #[.int .i64 ((Xa l0 x11_1).f0), (.slice A129_1 ((Xa l0 x11_1).f1).length c129_1), (.slice A129_2 ((Xa l0 x11_1).f2).length c129_2), (.slice A129_3 ((Xa l0 x11_1).f3).length c129_3)] 30 (0, 0))) ∧ Aside0 (Below w.heap.size w wc))
         case first =>
          have H := HC28.out
          clear HC28
          refine yt H ?_ ?_ <;> clear H <;> rintro c29 H
          ·have c29b0 : decide (0 < (x5_4.length : Int)) = false := decide_eq_false c29
           have c29b1 : decide (0 < x5_4.length) = false := decide_eq_false J29
           clear c29
           (first | rw [c29b0] | (simp only [Xan, Xaq]; rw [c29b0]) | skip)
           have H' := zq H
           clear H
           obtain ⟨Ao34, co34, eo34⟩ := ah HO_5.out
           subst eo34
           go_wp2
           go_meet
           case rel => exact ⟨_, (false), J4, H', ⟨J178⟩, ⟨J41⟩, ⟨J28⟩, ⟨J16⟩⟩
          have c29b0 := decide_eq_true c29
          have c29b1 : decide (0 < x5_4.length) = true := decide_eq_true J29
          clear c29
          (first | rw [c29b0] | (simp only [Xan, Xaq]; rw [c29b0]) | skip)
          obtain ⟨ji30, hji30⟩ : ∃ j_ : Int, (wrap64 ((x5_4.length : Int) - 1)) = j_ := ⟨_, rfl⟩
          replace H : (if 0 ≤ (ji30) then (if (ji30) < (x5_4.length : Int) then (Xm.j4 k4 (wrap64 (x3_1 + t131)) ji14 x5_4 x11_1 l0 (l0.length : Int) x11_1 ((rd x5_4 (ji30)) == 0)) else (none)) else (none)) = some (r1, r2, r3) := by first | (rw [hji30] at H; exact H) | (simp only [hji30] at H ⊢; exact H)
          have hji30w : (IntKind.i64.wrap ((x5_4.length : Int) - 1)) = ji30 := (Xan _).trans hji30
          refine yj H ?_; clear H; intro c31b0 H
          refine yj H ?_; clear H; intro c32b0 H
          have H' := zq H
          clear H
          obtain ⟨Ao33, co33, eo33⟩ := ah HO_5.out
          subst eo33
          have p137 : 0 ≤ ((ji30) : Int) := of_decide_eq_true J2
          have q137 : (ji30) < (x5_4.length : Int) := of_decide_eq_true J2
          obtain ⟨ad137, e137, hx137_0⟩ := Kd.at_int (an HO_5.out).2.2 (ji30) p137 q137
          cases e137
          replace p137 := eq_true p137
          replace q137 := eq_true q137
          go_wp2
          go_meet
          case rel => exact ⟨_, (((rd x5_4 (ji30)) == 0)), (by first | rfl | (simp; done) | (simp only [← hji30] <;> (first | rfl | simp)) | (simp [*]; done)), H', ⟨J178⟩, ⟨J41⟩, ⟨J28⟩, ⟨J16⟩⟩
         case rest =>
          clear HC28
          try clear c2b0
          try clear c3b0
          try clear c4b0
          try clear Z17
          try clear Z8
          try clear hx129_0
          try clear hx129_1
          try clear hx129_2
          try clear hx129_3
          try clear p129
          try clear q129
          obtain ⟨kq, x66_27, rfl, HA, HJ27, HO_5, BK130, HB⟩ := hcut
          cases kq with
          | zero => exact absurd HA.out (by simp [Xm.j4])
          | succ kj27 =>
           have H := HA.out
           clear HA
           simp only [Xm.j4] at H
           refine yB H ?_ ?_ <;> clear H <;> rintro rfl H
           ·refine yF H ?_ ?_ <;> clear H <;> rintro ⟨c50b0, c50b1, c50⟩ H
            ·clear c50
             obtain ⟨rfl, rfl, rfl⟩ := yp3 H
             obtain ⟨Ao51, co51, eo51⟩ := ah HO_5.out
             subst eo51
             go_wp2
             go_ret3
             exact ⟨by first | rfl | (simp [Xdh, Xdg] <;> rfl) | (simp only [← hji14]; first | rfl | (simp [Xdh, Xdg] <;> rfl)) | (simp [*, Xdh, Xdg] <;> rfl), J16⟩
            ·have c50b2 : ¬ (x5_4 = []) := fun h_ => c50 (by rw [h_]; rfl)
             have H' := zq H
             clear H
             obtain ⟨Ao52, co52, eo52⟩ := ah HO_5.out
             subst eo52
             go_wp2
             go_roundg kj27
             case measure => have := HK1.out; have := HJ5.out; have := HJ14.out; have := HK4.out; have := HJ27.out; omega
             case rel => exact ⟨((wrap64 (x3_1 + t131))), (ji14), (x5_4), (wrap64 (x11_1 + 1)), J4, (by first | rfl | (simp; done) | (simp only [← hji14] <;> (first | rfl | simp)) | (simp [*]; done)), J4, H', ⟨J132⟩, ⟨J41⟩, ⟨J16⟩⟩
           obtain ⟨ji36, hji36⟩ : ∃ j_ : Int, (wrap64 ((x5_4.length : Int) - 1)) = j_ := ⟨_, rfl⟩
           replace H : (if 0 ≤ (ji36) then (if (ji36) ≤ (x5_4.length : Int) then ((some (x5_4.take ((ji36) : Int).toNat : List Int)).bind fun y138 => (if (y138.length : Int) > 0 then (if 0 ≤ (wrap64 ((y138.length : Int) - 1)) then (if (wrap64 ((y138.length : Int) - 1)) < (y138.length : Int) then (Xm.l1 kj27 (wrap64 (x3_1 + t131)) ji14 (y138.set ((wrap64 ((y138.length : Int) - 1)) : Int).toNat (wrap64 ((rd y138 (wrap64 ((y138.length : Int) - 1))) - 1))) x11_1 l0 (l0.length : Int) x11_1) else (none)) else (none)) else (Xm.l1 kj27 (wrap64 (x3_1 + t131)) ji14 y138 x11_1 l0 (l0.length : Int) x11_1))) else (none)) else (none)) = some (r1, r2, r3) := by first | (rw [hji36] at H; exact H) | (simp only [hji36] at H ⊢; exact H)
           have hji36w : (IntKind.i64.wrap ((x5_4.length : Int) - 1)) = ji36 := (Xan _).trans hji36
           refine yi H ?_; clear H; intro c37 H
           have c37b0 := eq_true c37
           have c37b1 := decide_eq_true c37
           clear c37
           refine yi H ?_; clear H; intro c38 H
           have c38b0 := eq_true c38
           have c38b1 := decide_eq_true c38
           clear c38
           refine yl H ?_; clear H; rintro y138 Ny138 H
           refine yt H ?_ ?_ <;> clear H <;> rintro c39 H
           ·have c39b0 : decide (0 < (y138.length : Int)) = false := decide_eq_false c39
            have c39b1 : decide (0 < y138.length) = false := decide_eq_false J29
            clear c39
            have H' := zq H
            clear H
            obtain ⟨Ao48, co48, eo48⟩ := ah HO_5.out
            subst eo48
            have q49 : ((ji36) : Int) ≤ ((x5_4.length : Int) : Int) := of_decide_eq_true J2
            obtain ⟨i049, hi049, _, hsz49, _⟩ := info_parts Xcm
            have hcut49 := cut_to (P := Try.prog) 23 3 .i64 Try.underlying23 hi049 Ao48 x5_4.length co48 (ji36) (of_decide_eq_true J2) q49 (an HO_5.out).2.1
            have hr49 := cb (m := ((ji36) : Int).toNat) HO_5.out J29
            have hy49 : y138.length = ((ji36) : Int).toNat := (by rw [Ny138.out, List.length_take]; omega)
            rw [← Ny138.out] at hr49
            rw [← hy49] at hr49 hcut49
            clear hy49 hi049 hsz49 HO_5
            have HO140 := zq hr49
            clear hr49
            replace q49 := eq_true q49
            go_wp2
            go_roundg kj27
            case measure => have := HK1.out; have := HJ5.out; have := HJ14.out; have := HK4.out; have := HJ27.out; omega
            case rel => exact ⟨(y138), H', ⟨J132⟩, ⟨J179⟩, ⟨J28⟩, ⟨J16⟩⟩
           have c39b0 := decide_eq_true c39
           have c39b1 : decide (0 < y138.length) = true := decide_eq_true J29
           clear c39
           obtain ⟨ji40, hji40⟩ : ∃ j_ : Int, (wrap64 ((y138.length : Int) - 1)) = j_ := ⟨_, rfl⟩
           replace H : (if 0 ≤ (ji40) then (if (ji40) < (y138.length : Int) then (Xm.l1 kj27 (wrap64 (x3_1 + t131)) ji14 (y138.set ((ji40) : Int).toNat (wrap64 ((rd y138 (ji40)) - 1))) x11_1 l0 (l0.length : Int) x11_1) else (none)) else (none)) = some (r1, r2, r3) := by first | (rw [hji40] at H; exact H) | (simp only [hji40] at H ⊢; exact H)
           have hji40w : (IntKind.i64.wrap ((y138.length : Int) - 1)) = ji40 := (Xan _).trans hji40
           refine yj H ?_; clear H; intro c41b0 H
           refine yj H ?_; clear H; intro c42b0 H
           obtain ⟨y142, hy142⟩ : ∃ y_ : List Int, y_ = (y138.set ((ji40) : Int).toNat (wrap64 ((rd y138 (ji40)) - 1))) := ⟨_, rfl⟩
           replace H : (Xm.l1 kj27 (wrap64 (x3_1 + t131)) ji14 y142 x11_1 l0 (l0.length : Int) x11_1) = some (r1, r2, r3) := by first | (rw [hy142]; with_reducible exact H) | (have H2_ := (Option.bind_some _ _).symm.trans H; rw [hy142]; with_reducible exact H2_) | (have H2_ := (Option.bind_some _ _).symm.trans H; with_reducible exact H2_) | with_reducible exact H | (rw [hy142]; exact H) | exact H
           have Ny142 := zq hy142
           clear hy142
           have H' := zq H
           clear H
           obtain ⟨Ao44, co44, eo44⟩ := ah HO_5.out
           subst eo44
           have q45 : ((ji36) : Int) ≤ ((x5_4.length : Int) : Int) := of_decide_eq_true J2
           obtain ⟨i045, hi045, _, hsz45, _⟩ := info_parts Xcm
           have hcut45 := cut_to (P := Try.prog) 23 3 .i64 Try.underlying23 hi045 Ao44 x5_4.length co44 (ji36) (of_decide_eq_true J2) q45 (an HO_5.out).2.1
           have hr45 := cb (m := ((ji36) : Int).toNat) HO_5.out J29
           have hy45 : y138.length = ((ji36) : Int).toNat := (by rw [Ny138.out, List.length_take]; omega)
           rw [← Ny138.out] at hr45
           rw [← hy45] at hr45 hcut45
           clear hy45 hi045 hsz45 HO_5
           have HO140 := zq hr45
           clear hr45
           replace q45 := eq_true q45
           have p141 : 0 ≤ ((ji40) : Int) := of_decide_eq_true J2
           have q141 : (ji40) < (y138.length : Int) := of_decide_eq_true J2
           obtain ⟨ad141, e141, hx141_0⟩ := Kd.at_int (an HO140.out).2.2 (ji40) p141 q141
           cases e141
           replace p141 := eq_true p141
           replace q141 := eq_true q141
           have p43 : 0 ≤ ((ji40) : Int) := of_decide_eq_true J2
           have q43 : ((ji40) : Int) < ((y138.length : Int) : Int) := of_decide_eq_true J2
           obtain ⟨go43, co43, eo43, gb43, gl43, cl43, HG43⟩ := bZ HO140.out J29
           (first | cases eo43 | (injection eo43 with ea_ en_ ec_; (first | subst ea_ | (injection ea_ with ea_; subst ea_)); subst ec_; clear en_))
           have GB43 := zq gb43
           have GG43 := zq HG43
           clear gb43 gl43 HG43
           (first | simp only [Xcv] at hx141_0 | skip)
           obtain ⟨hx43_0, hf43_0⟩ := ck 0 HO140.out ((ji40) : Int) p43 q43
           replace p43 := eq_true p43
           replace q43 := eq_true q43
           have HP46 := ct HO140.out ((ji40) : Int) (wrap64 ((rd y138 (ji40)) - 1))
           go_wp2_with (first | ((with_reducible refine Xct (t := 3) (p := 82) rfl ?_); refine Xcl (t := 3) (p := 82) (v := ?vo_w47) (w1 := (wc.setCell ⟨go43, ((ji40) : Int).toNat, none⟩ (.int .i64 (wrap64 ((rd y138 (ji40)) - 1))))) ?hg ?ho ?hn ?hr ?_; (case ho => rfl); (case hg => rfl); (case hn => rfl); (case hr => first | (go_simp; done) | (go_simp; rfl)); intro w47 hw; have hg : wc.grownBy w47 (some go43) := (by rw [hw]; exact HP46.2); have hp_ : Kd.R (Kd.int .i64) 3 w47 w.heap.size (fun _ => True) (.slice (some ⟨go43, 0, none⟩) y138.length co44) y142 := (by rw [hw, Ny142.out]; exact HP46.1); clear HP46; replace BK130 := zq (Xa9 (g := gb130) (o := .cells #[.int .i64 ((Xa l0 x11_1).f0), .slice A129_1 ((Xa l0 x11_1).f1).length c129_1, .slice A129_2 ((Xa l0 x11_1).f2).length c129_2, .slice A129_3 ((Xa l0 x11_1).f3).length c129_3] 30 (0, 0)) (zk BK130.out) hg (bk HO140.out BK130.out J14)); replace HO140 := zq (hp_); replace HB := zq ((by rw [hw]; exact X0 (HB.out) GB43.out : Below w.heap.size w w47)); clear hg hw hp_))
           go_roundg kj27
           case measure => have := HK1.out; have := HJ5.out; have := HJ14.out; have := HK4.out; have := HJ27.out; omega
           case rel => exact ⟨(y142), H', ⟨J132⟩, ⟨J179⟩, ⟨J28⟩, ⟨J16⟩⟩
end Go.Proofs.Ytecdklheppcihaa.HTightTells
