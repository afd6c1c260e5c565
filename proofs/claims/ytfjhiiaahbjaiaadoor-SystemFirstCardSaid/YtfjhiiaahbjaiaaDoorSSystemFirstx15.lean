/- What the Go functions of this claim answer, told as functions of numbers and lists, and that other memory stays as it was: words and walks, shortened by a program. -/
import Derived.Test.YtfjhiiaahbjaiaaDoorSSystemFirstx0
import Derived.Test.YtfjhiiaahbjaiaaDoorSSystemFirstx12
import Derived.Test.YtfjhiiaahbjaiaaDoorSSystemFirstx13
import Derived.Test.YtfjhiiaahbjaiaaDoorSSystemFirstx14
namespace Go.Proofs.YtfjhiiaahbjaiaaDoor.HSystemFirst
open Go.RowKit Go.Proofs.YtfjhiiaahbjaiaaDoorW.PrintWords Go.Proofs.YtfjhiiaahbjaiaaDoorW.PrintLast Go.Proofs.YtfjhiiaahbjaiaaDoorW.PrintMore
attribute [local go_sem] Xby Xbw Xcb Xca Xbp Xbo Xbx Xbv
set_option linter.unusedVariables false
set_option linter.unusedSimpArgs false
mutual
def Xaa.l0 : Nat → List Int → List (List (S32)) → List (S40) → List (List (S32)) → Int → Int → Int → List Int → List Int → Option (Int × List Int × List Int × (List (S40)) × Bool)
 | 0, _, _, _, _, _, _, _, _, _ => none
 | k + 1, x0, x1, x7, x14, x15, x16, x351000, x351001, x351002 => if x16 < x15 then (if 0 ≤ x16 then (if x16 < (x14.length : Int) then (if 0 < ((Xa3 x14 x16).length : Int) then (if (((Xa (Xa3 x14 x16) 0).f1).length : Int) > 0 then (Xaa.j1 k x0 x1 x7 x14 x15 x16 true x351000 x351001 x351002 ((Xa (Xa3 x14 x16) 0).f0) ((Xa (Xa3 x14 x16) 0).f1) ((Xa (Xa3 x14 x16) 0).f2) ((Xa (Xa3 x14 x16) 0).f3)) else (Xaa.j1 k x0 x1 x7 x14 x15 x16 (((Xa (Xa3 x14 x16) 0).f0) == 5) x351000 x351001 x351002 ((Xa (Xa3 x14 x16) 0).f0) ((Xa (Xa3 x14 x16) 0).f1) ((Xa (Xa3 x14 x16) 0).f2) ((Xa (Xa3 x14 x16) 0).f3))) else (none)) else (none)) else (none)) else (if (x351002.length : Int) = (x1.length : Int) then (if (x1.length : Int) > 0 then (some (x351000, x351001, x351002, ([] : List (S40)), true)) else ((Xz.f k x0 x7).bind fun bt351 => (some (bt351.1, bt351.2.1, bt351.2.2.1, bt351.2.2.2.1, bt351.2.2.2.2)))) else ((Xz.f k x0 x7).bind fun bt362 => (some (bt362.1, bt362.2.1, bt362.2.2.1, bt362.2.2.2.1, bt362.2.2.2.2))))
def Xaa.j1 : Nat → List Int → List (List (S32)) → List (S40) → List (List (S32)) → Int → Int → Bool → Int → List Int → List Int → Int → List Int → List Int → List (S40) → Option (Int × List Int × List Int × (List (S40)) × Bool)
 | 0, _, _, _, _, _, _, _, _, _, _, _, _, _, _ => none
 | k + 1, x0, x1, x7, x14, x15, x16, x27, x351000, x351001, x351002, x376000, x376001, x376002, x376003 => if x27 = true then (some (0, ([] : List Int), ([] : List Int), ([] : List (S40)), false)) else (if x376000 = 3 then (if x351002.length + x376002.length < 17592186044416 then (Xaa.l0 k x0 x1 x7 x14 x15 (wrap64 (x16 + 1)) x351000 x351001 (x351002 ++ x376002)) else (none)) else ((Xak.f k x376000 x376001 x376002 x376003).bind fun t379 => (if x7.length + t379.length < 8796093022208 then (Xaa.l0 k x0 x1 (x7 ++ t379) x14 x15 (wrap64 (x16 + 1)) x351000 x351001 x351002) else (none))))
end
def Xaa.f (k : Nat) (l0 : List Int) (l1 : List (List (S32))) : Option (Int × List Int × List Int × (List (S40)) × Bool) := (Xam.f l0).bind fun t347 => (Xaa.l0 k l0 l1 ([] : List (S40)) l1 (l1.length : Int) 0 3 t347 ([] : List Int))
theorem Xaa.mono_l : ∀ k, (∀ y0 y1 y2 y3 y4 y5 y6 y7 y8, LeO (Xaa.l0 k y0 y1 y2 y3 y4 y5 y6 y7 y8) (Xaa.l0 (k + 1) y0 y1 y2 y3 y4 y5 y6 y7 y8)) ∧ (∀ y0 y1 y2 y3 y4 y5 y6 y7 y8 y9 y10 y11 y12 y13, LeO (Xaa.j1 k y0 y1 y2 y3 y4 y5 y6 y7 y8 y9 y10 y11 y12 y13) (Xaa.j1 (k + 1) y0 y1 y2 y3 y4 y5 y6 y7 y8 y9 y10 y11 y12 y13))
 | 0 => ⟨fun _ _ _ _ _ _ _ _ _ r h => by simp [Xaa.l0] at h, fun _ _ _ _ _ _ _ _ _ _ _ _ _ _ r h => by simp [Xaa.j1] at h⟩
 | k + 1 => by
  obtain ⟨ih0, ih1⟩ := Xaa.mono_l k
  refine ⟨?_, ?_⟩
  ·intro y0 y1 y2 y3 y4 y5 y6 y7 y8
   unfold Xaa.l0
   have im0 := @Xz.mono
   have im1 := @Xak.mono
   exact mz3
  ·intro y0 y1 y2 y3 y4 y5 y6 y7 y8 y9 y10 y11 y12 y13
   unfold Xaa.j1
   have im0 := @Xz.mono
   have im1 := @Xak.mono
   exact mz3
theorem Xaa.mono : ∀ a0 a1 k, LeO (Xaa.f k a0 a1) (Xaa.f (k + 1) a0 a1) := by
 intro a0 a1 k
 obtain ⟨ih0, ih1⟩ := Xaa.mono_l k
 unfold Xaa.f
 have im0 := @Xz.mono
 have im1 := @Xak.mono
 exact mz3
set_option maxHeartbeats 8000000 in
set_option maxRecDepth 100000 in
theorem Xaa.calls (k : Nat) (A0 : Option Addr) (c0 : Nat) (l0 : List Int) (A1 : Option Addr) (c1 : Nat) (l1 : List (List (S32))) (r1 : Int) (r2 : List Int) (r3 : List Int) (r4 : List (S40)) (r5 : Bool) (w : World) (hr0 : Kd.C (Kd.int .i64) w A0 l0.length l0) (hc0 : l0.length ≤ c0) (hr1 : Kd.C (Kd.slice 32 k32) w A1 l1.length l1) (hc1 : l1.length ≤ c1) (h : Xaa.f k l0 l1 = some (r1, r2, r3, r4, r5)) :
  Calls Tryd.prog 61 #[.slice A0 l0.length c0, .slice A1 l1.length c1] w fun e w' => ∃ v1_ v2_ v3_ : Value, e = .returned (.tuple #[.agg #[.int .i64 r1, v1_, v2_, v3_], .bool r5]) ∧ Kd.R (Kd.int .i64) 3 w' w.heap.size (fun k_ => some k_ ≠ (v2_ : Value).ownBlock) v1_ r2 ∧ Kd.R (Kd.int .i64) 3 w' w.heap.size (fun k_ => some k_ ≠ (v1_ : Value).ownBlock) v2_ r3 ∧ Kd.R k40 40 w' w.heap.size (fun _ => True) v3_ r4 ∧ Below w.heap.size w w' := by
 have hu32 := Tryd.underlying32
 have HR0 := zq hr0
 have HC0 := zq hc0
 clear hr0 hc0
 have HR1 := zq hr1
 have HC1 := zq hc1
 clear hr1 hc1
 have HB := zq (Below.refl w.heap.size w)
 unfold Xaa.f at h
 have H := h
 clear h
 refine yv H ?_; clear H; rintro t347 A3 H
 have H' := zq H
 clear H
 go_enter Tryd.func61, Tryd.ntmps61
 go_wp2_with (first | ((with_reducible refine Xk (N := 4) rfl ?_); (try (refine Xaz Xa5 ?_; dsimp only)); refine bxw 4 32 #[.int .i64 0, .slice none 0 0, .slice none 0 0, .slice none 0 0] ?_; intro gb346 hg w4 hbox hb; have BK346 := zq (hbox); have GW346 := zq ((J12 : w.heap.size ≤ gb346)); have GE346 := zq ((J12 : w.heap.size ≤ gb346)); replace HB := zq (Xd J0 hb); clear hb hbox hg) | ((with_reducible refine Xg (f := 42) rfl ?_); refine Xt (some 12) rfl rfl Tryd.func42 J8 rfl #[.slice A0 l0.length c0] rfl J1 ?_; (with_reducible refine (Xam.calls _ _ l0 t347 _ ?side1 ?side2 A3.out).mono ?_); (case side1 => exact zc (Kd.C_below HR0.out HB.out)); (case side2 => exact HC0.out); rintro e w5 ⟨v348, rfl, ho0, hb⟩; refine ⟨_, rfl, ?_⟩; have HO349 := zq (Kd.R_lower ho0 (Xf (zs1 GE346.out))); replace BK346 := zq (Xh (zk BK346.out) hb); replace HB := zq (Xd (zs1 GE346.out) hb); (try clear hb); (try clear hk); (try clear ho0); obtain ⟨Ao6, co6, eo6⟩ := Kd.R_slice HO349.out; subst eo6) | ((with_reducible refine Xk (N := 6) rfl ?_); (try (refine Xaz Xa5 ?_; dsimp only)); refine bxw 6 32 #[.int .i64 0, .slice none 0 0, .slice none 0 0, .slice none 0 0] ?_; intro gb350 hg w7 hbox hb; replace HO349 := zq (Kd.R_below (zr HO349.out) hb); have BK350 := zq (hbox); have GW350 := zq ((by rw [hg]; exact (Xf (zs1 GE346.out)) : w.heap.size ≤ gb350)); have GE350 := zq ((by rw [hg]; exact (Xf (zs1 GE346.out)) : w.heap.size ≤ gb350)); replace HB := zq (Xd (zs1 GE346.out) hb); have NB346_350 := zq ((by rw [hg]; exact Nat.ne_of_lt (Xbe (g := gb346) (o := .cells #[.int .i64 0, .slice none 0 0, .slice none 0 0, .slice none 0 0] 32 (0, 0)) (zk BK346.out)) : gb346 ≠ gb350)); have NB350_346 := zq ((by rw [hg]; exact Nat.ne_of_gt (Xbe (g := gb346) (o := .cells #[.int .i64 0, .slice none 0 0, .slice none 0 0, .slice none 0 0] 32 (0, 0)) (zk BK346.out)) : gb350 ≠ gb346)); replace BK346 := zq (Xh (zk BK346.out) hb); clear hb hbox hg; have hnb8 := NB350_346.out; have hnc8 := NB346_350.out; obtain ⟨hcz9_0, hcz9_1, hcz9_2, hcz9_3, hfz9_0, hfz9_1, hfz9_2, hfz9_3⟩ := cz4 BK350.out))
 go_loopg [7, 16] k (fun kq v7 v16 w' => ∃ (x7_1 : List (S40)) (x16_1 : Int) (x347000_1 : Int) (x351002_1 : List Int) (u351002 : Value), v16 = .int .i64 x16_1 ∧ Aside0 (Xaa.l0 kq l0 l1 x7_1 l1 (l1.length : Int) x16_1 3 t347 x351002_1 = some (r1, r2, r3, r4, r5)) ∧ Aside0 (kq ≤ k) ∧ Aside0 (Kd.R k40 40 w' w.heap.size (fun _ => True) v7 x7_1) ∧ Aside0 (Kd.R (Kd.int .i64) 3 w' w.heap.size (fun k_ => some k_ ≠ (u351002 : Value).ownBlock) (.slice Ao6 t347.length co6) t347) ∧ Aside0 (Kd.R (Kd.int .i64) 3 w' w.heap.size (fun k_ => some k_ ≠ ((.slice Ao6 t347.length co6) : Value).ownBlock) u351002 x351002_1) ∧ Aside0 (w'.heap[gb346]? = some (.cells #[.int .i64 x347000_1, (.slice none 0 0), (.slice none 0 0), (.slice none 0 0)] 32 (0, 0))) ∧ Aside0 (w'.heap[gb350]? = some (.cells #[.int .i64 3, (.slice Ao6 t347.length co6), u351002, (.slice none 0 0)] 32 (0, 0))) ∧ Aside0 (Below w.heap.size w w'))
 case atStart => exact ⟨(([] : List (S40))), (0), (0), (([] : List Int)), (.slice none 0 0), J4, H', ⟨Nat.le_refl _⟩, ⟨J9⟩, ⟨by (with_reducible repeat (first | apply Kd.R_alloc | apply Kd.R_drewN | apply Kd.R_drew)); exact Kd.R_mono (Kd.R_far (p := ⟨gb350, 3, none⟩) (Kd.R_far (p := ⟨gb350, 2, none⟩) (Kd.R_far (p := ⟨gb350, 1, none⟩) (Kd.R_far (p := ⟨gb350, 0, none⟩) (Kd.R_types HO349.out BK350.out J11) (fun _ hk => hk.2) (.int .i64 3)) (fun _ hk => hk.2) (.slice Ao6 t347.length co6)) (fun _ hk => hk.2) (.slice none 0 0)) (fun _ hk => hk.2) (.slice none 0 0)) (fun _ hk => (by simp [Value.ownBlock]))⟩, ⟨J9⟩, ⟨by (with_reducible repeat (first | refine Xc ?_ _ | refine Xe ?_ | refine Xb ?_ _)); refine Xab ?_ NB346_350.out _; (with_reducible repeat (first | refine Xc ?_ _ | refine Xe ?_ | refine Xb ?_ _)); refine Xab ?_ NB346_350.out _; (with_reducible repeat (first | refine Xc ?_ _ | refine Xe ?_ | refine Xb ?_ _)); refine Xab ?_ NB346_350.out _; (with_reducible repeat (first | refine Xc ?_ _ | refine Xe ?_ | refine Xb ?_ _)); refine Xab ?_ NB346_350.out _; (with_reducible repeat (first | refine Xc ?_ _ | refine Xe ?_ | refine Xb ?_ _)); exact BK346.out⟩, ⟨by (with_reducible repeat (first | refine Xc ?_ _ | refine Xe ?_ | refine Xb ?_ _)); refine Xj (cs := #[.int .i64 3, .slice Ao6 t347.length co6, .slice none 0 0, .slice none 0 0]) ?_ 3 _ rfl; (with_reducible repeat (first | refine Xc ?_ _ | refine Xe ?_ | refine Xb ?_ _)); refine Xj (cs := #[.int .i64 3, .slice Ao6 t347.length co6, .slice none 0 0, .slice none 0 0]) ?_ 2 _ rfl; (with_reducible repeat (first | refine Xc ?_ _ | refine Xe ?_ | refine Xb ?_ _)); refine Xj (cs := #[.int .i64 3, .slice none 0 0, .slice none 0 0, .slice none 0 0]) ?_ 1 _ rfl; (with_reducible repeat (first | refine Xc ?_ _ | refine Xe ?_ | refine Xb ?_ _)); refine Xj (cs := #[.int .i64 0, .slice none 0 0, .slice none 0 0, .slice none 0 0]) ?_ 0 _ rfl; (with_reducible repeat (first | refine Xc ?_ _ | refine Xe ?_ | refine Xb ?_ _)); exact BK350.out⟩, ⟨J56⟩⟩
 case round =>
  clear H'
  try clear c1
  try clear hcz9_0
  try clear hcz9_1
  try clear hcz9_2
  try clear hcz9_3
  try clear hfz9_0
  try clear hfz9_1
  try clear hfz9_2
  try clear hfz9_3
  obtain ⟨x7_1, x16_1, x347000_1, x351002_1, u351002, rfl, HA, HK1, HO_7, HO_351001, HO_351002, BK346, BK350, HB⟩ := hrel
  cases gk with
  | zero => exact absurd HA.out (by simp [Xaa.l0])
  | succ k1 =>
   have H := HA.out
   clear HA
   simp only [Xaa.l0] at H
   refine yd H ?_ ?_ <;> clear H <;> rintro c10b0 H
   ·refine yF H ?_ ?_ <;> clear H <;> rintro ⟨c48b0, c48b1, c48⟩ H
    ·have c48b2 : (x351002_1.length == l1.length) = true := by first | simpa using c48 | (simp at c48 ⊢; omega)
     clear c48
     refine yu H ?_ ?_ <;> clear H <;> rintro c49 H
     ·have c49b0 : decide (0 < (l1.length : Int)) = true := decide_eq_true c49
      have c49b1 : decide (0 < l1.length) = true := decide_eq_true J35
      clear c49
      obtain ⟨rfl, rfl, rfl, rfl, rfl⟩ := yp5 H
      have hnb50 := NB350_346.out
      have hnc50 := NB346_350.out
      obtain ⟨hcz51_0, hcz51_1, hcz51_2, hcz51_3, hfz51_0, hfz51_1, hfz51_2, hfz51_3⟩ := cz4 BK350.out
      obtain ⟨Ao52, co52, eo52⟩ := Kd.R_slice HO_351002.out
      subst eo52
      obtain ⟨hcz53_0, hcz53_1, hcz53_2, hcz53_3, hfz53_0, hfz53_1, hfz53_2, hfz53_3⟩ := cz4 BK346.out
      go_wp2
      refine bodyPost_ret (Xa1 rfl _ _ gb346 32 #[.int .i64 3, .slice Ao6 t347.length co6, .slice Ao52 x351002_1.length co52, .slice none 0 0] (0, 0) _ rfl (by (with_reducible repeat (first | refine Xc ?_ _ | refine Xe ?_ | refine Xb ?_ _)); refine Xj (cs := #[.int .i64 3, .slice Ao6 t347.length co6, .slice Ao52 x351002_1.length co52, .slice none 0 0]) ?_ 3 _ rfl; (with_reducible repeat (first | refine Xc ?_ _ | refine Xe ?_ | refine Xb ?_ _)); refine Xj (cs := #[.int .i64 3, .slice Ao6 t347.length co6, .slice none 0 0, .slice none 0 0]) ?_ 2 _ rfl; (with_reducible repeat (first | refine Xc ?_ _ | refine Xe ?_ | refine Xb ?_ _)); refine Xj (cs := #[.int .i64 3, .slice none 0 0, .slice none 0 0, .slice none 0 0]) ?_ 1 _ rfl; (with_reducible repeat (first | refine Xc ?_ _ | refine Xe ?_ | refine Xb ?_ _)); refine Xj (cs := #[.int .i64 x347000_1, .slice none 0 0, .slice none 0 0, .slice none 0 0]) ?_ 0 _ rfl; (with_reducible repeat (first | refine Xc ?_ _ | refine Xe ?_ | refine Xb ?_ _)); exact BK346.out) Tryd.underlying32 rfl J8) rfl ?_
      exact ⟨_, _, _, J2, by (with_reducible repeat (first | apply Kd.R_alloc | apply Kd.R_drewN | apply Kd.R_drew)); exact Kd.R_mono (Kd.R_far (p := ⟨gb346, 3, none⟩) (Kd.R_far (p := ⟨gb346, 2, none⟩) (Kd.R_far (p := ⟨gb346, 1, none⟩) (Kd.R_far (p := ⟨gb346, 0, none⟩) (Kd.R_types HO_351001.out BK346.out J11) (fun _ hk => hk.2) (.int .i64 3)) (fun _ hk => hk.2) (.slice Ao6 t347.length co6)) (fun _ hk => hk.2) (.slice Ao52 x351002_1.length co52)) (fun _ hk => hk.2) (.slice none 0 0)) (fun _ hk => hk.1), by (with_reducible repeat (first | apply Kd.R_alloc | apply Kd.R_drewN | apply Kd.R_drew)); exact Kd.R_mono (Kd.R_far (p := ⟨gb346, 3, none⟩) (Kd.R_far (p := ⟨gb346, 2, none⟩) (Kd.R_far (p := ⟨gb346, 1, none⟩) (Kd.R_far (p := ⟨gb346, 0, none⟩) (Kd.R_types HO_351002.out BK346.out J11) (fun _ hk => hk.2) (.int .i64 3)) (fun _ hk => hk.2) (.slice Ao6 t347.length co6)) (fun _ hk => hk.2) (.slice Ao52 x351002_1.length co52)) (fun _ hk => hk.2) (.slice none 0 0)) (fun _ hk => hk.1), J9, J56⟩
     ·have c49b0 : decide (0 < (l1.length : Int)) = false := decide_eq_false c49
      have c49b1 : decide (0 < l1.length) = false := decide_eq_false J35
      clear c49
      refine yv H ?_; clear H; rintro ⟨t351, t352, t355, t358, t361⟩ A54 H
      dsimp only at H
      obtain ⟨rfl, rfl, rfl, rfl, rfl⟩ := yp5 H
      have hnb55 := NB350_346.out
      have hnc55 := NB346_350.out
      obtain ⟨hcz56_0, hcz56_1, hcz56_2, hcz56_3, hfz56_0, hfz56_1, hfz56_2, hfz56_3⟩ := cz4 BK350.out
      obtain ⟨Ao57, co57, eo57⟩ := Kd.R_slice HO_351002.out
      subst eo57
      obtain ⟨Ao58, co58, eo58⟩ := Kd.R_slice HO_7.out
      subst eo58
      go_wp2_with (first | ((with_reducible refine Xg (f := 23) rfl ?_); refine Xt (some 63) rfl rfl Tryd.func23 J8 rfl #[.slice A0 l0.length c0, .slice Ao58 x7_1.length co58] rfl J1 ?_; (with_reducible refine (Xz.calls k1 _ _ l0 _ _ x7_1 t351 t352 t355 t358 t361 _ ?side1 ?side2 ?side3 ?side4 A54.out).mono ?_); (case side1 => exact zc (Kd.C_below HR0.out HB.out)); (case side2 => exact HC0.out); (case side3 => exact zc ((Kd.R_reads' HO_7.out).2.2)); (case side4 => exact (Kd.R_reads' HO_7.out).2.1); rintro e w59 ⟨v353, v356, v359, rfl, ho0, ho1, ho2, hb⟩; refine ⟨_, rfl, ?_⟩; have HO354 := zq (Kd.R_lower (Kd.R_new' (Kd.R_new' ho0 (Kd.R_lt (zr HO_351001.out))) (Kd.R_lt (zr HO_351002.out))) (Xf (zs2 GE346.out GE350.out))); have HO357 := zq (Kd.R_lower (Kd.R_new' (Kd.R_new' ho1 (Kd.R_lt (zr HO_351001.out))) (Kd.R_lt (zr HO_351002.out))) (Xf (zs2 GE346.out GE350.out))); replace HO_351001 := zq (Kd.R_mono (Kd.R_told (Kd.R_told (Kd.R_old (zr HO_351001.out) hb) (Kd.R_base ho0)) (Kd.R_base ho1)) (fun _ h_ => h_.1)); replace HO_351002 := zq (Kd.R_mono (Kd.R_told (Kd.R_told (Kd.R_old (zr HO_351002.out) hb) (Kd.R_base ho0)) (Kd.R_base ho1)) (fun _ h_ => h_.1)); have HO360 := zq (Kd.R_lower (Kd.R_new' ho2 (Kd.R_lt (zr HO_7.out))) (Xf (zs2 GE346.out GE350.out))); replace HO_7 := zq (Kd.R_elder' (zr HO_7.out) (Kd.R_base ho2) hb); replace BK346 := zq (Xh (zk BK346.out) hb); replace BK350 := zq (Xh (zk BK350.out) hb); replace HB := zq (Xd (zs2 GE346.out GE350.out) hb); (try clear hb); (try clear hk); (try clear ho0); (try clear ho1); (try clear ho2); obtain ⟨hcz60_0, hcz60_1, hcz60_2, hcz60_3, hfz60_0, hfz60_1, hfz60_2, hfz60_3⟩ := cz4 BK346.out; obtain ⟨Ao61, co61, eo61⟩ := Kd.R_slice HO354.out; subst eo61; obtain ⟨Ao62, co62, eo62⟩ := Kd.R_slice HO357.out; subst eo62; obtain ⟨Ao63, co63, eo63⟩ := Kd.R_slice HO360.out; subst eo63))
      refine bodyPost_ret (Xa1 rfl _ _ gb346 32 #[.int .i64 t351, .slice Ao61 t352.length co61, .slice Ao62 t355.length co62, .slice Ao63 t358.length co63] (0, 0) _ rfl (by (with_reducible repeat (first | refine Xc ?_ _ | refine Xe ?_ | refine Xb ?_ _)); refine Xj (cs := #[.int .i64 t351, .slice Ao61 t352.length co61, .slice Ao62 t355.length co62, .slice none 0 0]) ?_ 3 _ rfl; (with_reducible repeat (first | refine Xc ?_ _ | refine Xe ?_ | refine Xb ?_ _)); refine Xj (cs := #[.int .i64 t351, .slice Ao61 t352.length co61, .slice none 0 0, .slice none 0 0]) ?_ 2 _ rfl; (with_reducible repeat (first | refine Xc ?_ _ | refine Xe ?_ | refine Xb ?_ _)); refine Xj (cs := #[.int .i64 t351, .slice none 0 0, .slice none 0 0, .slice none 0 0]) ?_ 1 _ rfl; (with_reducible repeat (first | refine Xc ?_ _ | refine Xe ?_ | refine Xb ?_ _)); refine Xj (cs := #[.int .i64 x347000_1, .slice none 0 0, .slice none 0 0, .slice none 0 0]) ?_ 0 _ rfl; (with_reducible repeat (first | refine Xc ?_ _ | refine Xe ?_ | refine Xb ?_ _)); exact BK346.out) Tryd.underlying32 rfl J8) rfl ?_
      exact ⟨_, _, _, J2, by (with_reducible repeat (first | apply Kd.R_alloc | apply Kd.R_drewN | apply Kd.R_drew)); exact Kd.R_mono (Kd.R_far (p := ⟨gb346, 3, none⟩) (Kd.R_far (p := ⟨gb346, 2, none⟩) (Kd.R_far (p := ⟨gb346, 1, none⟩) (Kd.R_far (p := ⟨gb346, 0, none⟩) (Kd.R_types HO354.out BK346.out J11) (fun _ hk => hk.2) (.int .i64 t351)) (fun _ hk => hk.2) (.slice Ao61 t352.length co61)) (fun _ hk => hk.2) (.slice Ao62 t355.length co62)) (fun _ hk => hk.2) (.slice Ao63 t358.length co63)) (fun _ hk => hk.1.1.1), by (with_reducible repeat (first | apply Kd.R_alloc | apply Kd.R_drewN | apply Kd.R_drew)); exact Kd.R_mono (Kd.R_far (p := ⟨gb346, 3, none⟩) (Kd.R_far (p := ⟨gb346, 2, none⟩) (Kd.R_far (p := ⟨gb346, 1, none⟩) (Kd.R_far (p := ⟨gb346, 0, none⟩) (Kd.R_types HO357.out BK346.out J11) (fun _ hk => hk.2) (.int .i64 t351)) (fun _ hk => hk.2) (.slice Ao61 t352.length co61)) (fun _ hk => hk.2) (.slice Ao62 t355.length co62)) (fun _ hk => hk.2) (.slice Ao63 t358.length co63)) (fun _ hk => hk.1.1.1), by (with_reducible repeat (first | apply Kd.R_alloc | apply Kd.R_drewN | apply Kd.R_drew)); exact Kd.R_mono (Kd.R_far (p := ⟨gb346, 3, none⟩) (Kd.R_far (p := ⟨gb346, 2, none⟩) (Kd.R_far (p := ⟨gb346, 1, none⟩) (Kd.R_far (p := ⟨gb346, 0, none⟩) (Kd.R_types HO360.out BK346.out J11) (fun _ hk => hk.2) (.int .i64 t351)) (fun _ hk => hk.2) (.slice Ao61 t352.length co61)) (fun _ hk => hk.2) (.slice Ao62 t355.length co62)) (fun _ hk => hk.2) (.slice Ao63 t358.length co63)) (fun _ hk => trivial), J56⟩
    ·have c48b2 : (x351002_1.length == l1.length) = false := by first | simpa using c48 | (simp at c48 ⊢; omega)
     refine yv H ?_; clear H; rintro ⟨t362, t363, t366, t369, t372⟩ A64 H
     dsimp only at H
     obtain ⟨rfl, rfl, rfl, rfl, rfl⟩ := yp5 H
     have hnb65 := NB350_346.out
     have hnc65 := NB346_350.out
     obtain ⟨hcz66_0, hcz66_1, hcz66_2, hcz66_3, hfz66_0, hfz66_1, hfz66_2, hfz66_3⟩ := cz4 BK350.out
     obtain ⟨Ao67, co67, eo67⟩ := Kd.R_slice HO_351002.out
     subst eo67
     obtain ⟨Ao68, co68, eo68⟩ := Kd.R_slice HO_7.out
     subst eo68
     go_wp2_with (first | ((with_reducible refine Xg (f := 23) rfl ?_); refine Xt (some 63) rfl rfl Tryd.func23 J8 rfl #[.slice A0 l0.length c0, .slice Ao68 x7_1.length co68] rfl J1 ?_; (with_reducible refine (Xz.calls k1 _ _ l0 _ _ x7_1 t362 t363 t366 t369 t372 _ ?side1 ?side2 ?side3 ?side4 A64.out).mono ?_); (case side1 => exact zc (Kd.C_below HR0.out HB.out)); (case side2 => exact HC0.out); (case side3 => exact zc ((Kd.R_reads' HO_7.out).2.2)); (case side4 => exact (Kd.R_reads' HO_7.out).2.1); rintro e w69 ⟨v364, v367, v370, rfl, ho0, ho1, ho2, hb⟩; refine ⟨_, rfl, ?_⟩; have HO365 := zq (Kd.R_lower (Kd.R_new' (Kd.R_new' ho0 (Kd.R_lt (zr HO_351001.out))) (Kd.R_lt (zr HO_351002.out))) (Xf (zs2 GE346.out GE350.out))); have HO368 := zq (Kd.R_lower (Kd.R_new' (Kd.R_new' ho1 (Kd.R_lt (zr HO_351001.out))) (Kd.R_lt (zr HO_351002.out))) (Xf (zs2 GE346.out GE350.out))); have HO371 := zq (Kd.R_lower (Kd.R_new' ho2 (Kd.R_lt (zr HO_7.out))) (Xf (zs2 GE346.out GE350.out))); replace BK346 := zq (Xh (zk BK346.out) hb); replace HB := zq (Xd (zs2 GE346.out GE350.out) hb); (try clear hb); (try clear hk); (try clear ho0); (try clear ho1); (try clear ho2); obtain ⟨hcz70_0, hcz70_1, hcz70_2, hcz70_3, hfz70_0, hfz70_1, hfz70_2, hfz70_3⟩ := cz4 BK346.out; obtain ⟨Ao71, co71, eo71⟩ := Kd.R_slice HO365.out; subst eo71; obtain ⟨Ao72, co72, eo72⟩ := Kd.R_slice HO368.out; subst eo72; obtain ⟨Ao73, co73, eo73⟩ := Kd.R_slice HO371.out; subst eo73))
     refine bodyPost_ret (Xa1 rfl _ _ gb346 32 #[.int .i64 t362, .slice Ao71 t363.length co71, .slice Ao72 t366.length co72, .slice Ao73 t369.length co73] (0, 0) _ rfl (by (with_reducible repeat (first | refine Xc ?_ _ | refine Xe ?_ | refine Xb ?_ _)); refine Xj (cs := #[.int .i64 t362, .slice Ao71 t363.length co71, .slice Ao72 t366.length co72, .slice none 0 0]) ?_ 3 _ rfl; (with_reducible repeat (first | refine Xc ?_ _ | refine Xe ?_ | refine Xb ?_ _)); refine Xj (cs := #[.int .i64 t362, .slice Ao71 t363.length co71, .slice none 0 0, .slice none 0 0]) ?_ 2 _ rfl; (with_reducible repeat (first | refine Xc ?_ _ | refine Xe ?_ | refine Xb ?_ _)); refine Xj (cs := #[.int .i64 t362, .slice none 0 0, .slice none 0 0, .slice none 0 0]) ?_ 1 _ rfl; (with_reducible repeat (first | refine Xc ?_ _ | refine Xe ?_ | refine Xb ?_ _)); refine Xj (cs := #[.int .i64 x347000_1, .slice none 0 0, .slice none 0 0, .slice none 0 0]) ?_ 0 _ rfl; (with_reducible repeat (first | refine Xc ?_ _ | refine Xe ?_ | refine Xb ?_ _)); exact BK346.out) Tryd.underlying32 rfl J8) rfl ?_
     exact ⟨_, _, _, J2, by (with_reducible repeat (first | apply Kd.R_alloc | apply Kd.R_drewN | apply Kd.R_drew)); exact Kd.R_mono (Kd.R_far (p := ⟨gb346, 3, none⟩) (Kd.R_far (p := ⟨gb346, 2, none⟩) (Kd.R_far (p := ⟨gb346, 1, none⟩) (Kd.R_far (p := ⟨gb346, 0, none⟩) (Kd.R_types HO365.out BK346.out J11) (fun _ hk => hk.2) (.int .i64 t362)) (fun _ hk => hk.2) (.slice Ao71 t363.length co71)) (fun _ hk => hk.2) (.slice Ao72 t366.length co72)) (fun _ hk => hk.2) (.slice Ao73 t369.length co73)) (fun _ hk => hk.1.1.1), by (with_reducible repeat (first | apply Kd.R_alloc | apply Kd.R_drewN | apply Kd.R_drew)); exact Kd.R_mono (Kd.R_far (p := ⟨gb346, 3, none⟩) (Kd.R_far (p := ⟨gb346, 2, none⟩) (Kd.R_far (p := ⟨gb346, 1, none⟩) (Kd.R_far (p := ⟨gb346, 0, none⟩) (Kd.R_types HO368.out BK346.out J11) (fun _ hk => hk.2) (.int .i64 t362)) (fun _ hk => hk.2) (.slice Ao71 t363.length co71)) (fun _ hk => hk.2) (.slice Ao72 t366.length co72)) (fun _ hk => hk.2) (.slice Ao73 t369.length co73)) (fun _ hk => hk.1.1.1), by (with_reducible repeat (first | apply Kd.R_alloc | apply Kd.R_drewN | apply Kd.R_drew)); exact Kd.R_mono (Kd.R_far (p := ⟨gb346, 3, none⟩) (Kd.R_far (p := ⟨gb346, 2, none⟩) (Kd.R_far (p := ⟨gb346, 1, none⟩) (Kd.R_far (p := ⟨gb346, 0, none⟩) (Kd.R_types HO371.out BK346.out J11) (fun _ hk => hk.2) (.int .i64 t362)) (fun _ hk => hk.2) (.slice Ao71 t363.length co71)) (fun _ hk => hk.2) (.slice Ao72 t366.length co72)) (fun _ hk => hk.2) (.slice Ao73 t369.length co73)) (fun _ hk => trivial), J56⟩
   refine yj H ?_; clear H; intro c11b0 H
   refine yj H ?_; clear H; intro c12b0 H
   refine yi H ?_; clear H; intro c13 H
   have c13b0 := decide_eq_true c13
   have c13b1 : decide (0 < (Xa3 l1 x16_1).length) = true := decide_eq_true J35
   clear c13
   have HC14 := zq H
   clear H
   have p373 : 0 ≤ (x16_1 : Int) := of_decide_eq_true J3
   have q373 : x16_1 < (l1.length : Int) := of_decide_eq_true J3
   obtain ⟨ad373, A373_0, c373_0, e373, hx373_0, hl373_0, hi373_0⟩ := at_L5 HR1.out x16_1 p373 q373
   cases e373
   replace hx373_0 := yh HB hx373_0
   have HR373_0 := zq hi373_0
   have HC373_0 := zq hl373_0
   clear hi373_0 hl373_0
   replace p373 := eq_true p373
   replace q373 := eq_true q373
   have p374 : 0 ≤ (0 : Int) := J35
   have q374 : 0 < ((Xa3 l1 x16_1).length : Int) := of_decide_eq_true J3
   obtain ⟨ad374, A374_1, c374_1, A374_2, c374_2, A374_3, c374_3, e374, hx374_0, hx374_1, hx374_2, hx374_3, hl374_1, hi374_1, hl374_2, hi374_2, hl374_3, hi374_3⟩ := Xbz HR373_0.out 0 p374 q374
   cases e374
   have qi374 : (0 < (Xa3 l1 x16_1).length) = True := eq_true J35
   (try rw [show ((0 : Int)).toNat = 0 from rfl] at hx374_0)
   (try rw [show 0 * 4 = 0 from rfl] at hx374_0)
   (try rw [Addr.add_zero'] at hx374_0)
   (try rw [show ((0 : Int)).toNat = 0 from rfl] at hx374_1)
   (try rw [show 0 * 4 = 0 from rfl] at hx374_1)
   (try rw [Addr.add_zero'] at hx374_1)
   (try rw [show ((0 : Int)).toNat = 0 from rfl] at hx374_2)
   (try rw [show 0 * 4 = 0 from rfl] at hx374_2)
   (try rw [Addr.add_zero'] at hx374_2)
   (try rw [show ((0 : Int)).toNat = 0 from rfl] at hx374_3)
   (try rw [show 0 * 4 = 0 from rfl] at hx374_3)
   (try rw [Addr.add_zero'] at hx374_3)
   replace hx374_0 := yh HB hx374_0
   replace hx374_1 := yh HB hx374_1
   replace hx374_2 := yh HB hx374_2
   replace hx374_3 := yh HB hx374_3
   have HR374_1 := zq hi374_1
   have HC374_1 := zq hl374_1
   clear hi374_1 hl374_1
   have HR374_2 := zq hi374_2
   have HC374_2 := zq hl374_2
   clear hi374_2 hl374_2
   have HR374_3 := zq hi374_3
   have HC374_3 := zq hl374_3
   clear hi374_3 hl374_3
   replace p374 := eq_true p374
   replace q374 := eq_true q374
   go_upto_region 8 with (first | ((with_reducible refine Xk (N := 10) rfl ?_); (try (refine Xaz Xa5 ?_; dsimp only)); refine bxw 10 32 #[.int .i64 0, .slice none 0 0, .slice none 0 0, .slice none 0 0] ?_; intro gb375 hg w15 hbox hb; replace HO_7 := zq (Kd.R_below (zr HO_7.out) hb); replace HO_351001 := zq (Kd.R_below (zr HO_351001.out) hb); replace HO_351002 := zq (Kd.R_below (zr HO_351002.out) hb); have BK375 := zq (hbox); have GW375 := zq ((by rw [hg]; exact (Xf (zs2 GE346.out GE350.out)) : w.heap.size ≤ gb375)); have GE375 := zq ((by rw [hg]; exact (Xf (zs2 GE346.out GE350.out)) : w.heap.size ≤ gb375)); replace HB := zq (Xd (zs2 GE346.out GE350.out) hb); have NB346_375 := zq ((by rw [hg]; exact Nat.ne_of_lt (Xbe (g := gb346) (o := .cells #[.int .i64 x347000_1, .slice none 0 0, .slice none 0 0, .slice none 0 0] 32 (0, 0)) (zk BK346.out)) : gb346 ≠ gb375)); have NB375_346 := zq ((by rw [hg]; exact Nat.ne_of_gt (Xbe (g := gb346) (o := .cells #[.int .i64 x347000_1, .slice none 0 0, .slice none 0 0, .slice none 0 0] 32 (0, 0)) (zk BK346.out)) : gb375 ≠ gb346)); replace BK346 := zq (Xh (zk BK346.out) hb); have NB350_375 := zq ((by rw [hg]; exact Nat.ne_of_lt (Xbe (g := gb350) (o := .cells #[.int .i64 3, .slice Ao6 t347.length co6, u351002, .slice none 0 0] 32 (0, 0)) (zk BK350.out)) : gb350 ≠ gb375)); have NB375_350 := zq ((by rw [hg]; exact Nat.ne_of_gt (Xbe (g := gb350) (o := .cells #[.int .i64 3, .slice Ao6 t347.length co6, u351002, .slice none 0 0] 32 (0, 0)) (zk BK350.out)) : gb375 ≠ gb350)); replace BK350 := zq (Xh (zk BK350.out) hb); clear hb hbox hg; have hnb16 := NB375_346.out; have hnc16 := NB346_375.out; have hnb17 := NB375_350.out; have hnc17 := NB350_375.out; obtain ⟨hcz18_0, hcz18_1, hcz18_2, hcz18_3, hfz18_0, hfz18_1, hfz18_2, hfz18_3⟩ := cz4 BK375.out))
   (try simp only [Act.put, List.setIfInBounds_toArray, List.set_cons_zero, List.set_cons_succ])
   go_cut [27] (fun v27 wc => ∃ (kq : Nat) (x27_13 : Bool), v27 = .bool x27_13 ∧ Aside0 (Xaa.j1 kq l0 l1 x7_1 l1 (l1.length : Int) x16_1 x27_13 3 t347 x351002_1 ((Xa (Xa3 l1 x16_1) 0).f0) ((Xa (Xa3 l1 x16_1) 0).f1) ((Xa (Xa3 l1 x16_1) 0).f2) ((Xa (Xa3 l1 x16_1) 0).f3) = some (r1, r2, r3, r4, r5)) ∧ Aside0 (kq ≤ k1) ∧ Aside0 (Kd.R k40 40 wc w.heap.size (fun _ => True) u7 x7_1) ∧ Aside0 (Kd.R (Kd.int .i64) 3 wc w.heap.size (fun k_ => some k_ ≠ (u351002 : Value).ownBlock) (.slice Ao6 t347.length co6) t347) ∧ Aside0 (Kd.R (Kd.int .i64) 3 wc w.heap.size (fun k_ => some k_ ≠ ((.slice Ao6 t347.length co6) : Value).ownBlock) u351002 x351002_1) ∧ Aside0 (wc.heap[gb346]? = some (.cells #[.int .i64 x347000_1, (.slice none 0 0), (.slice none 0 0), (.slice none 0 0)] 32 (0, 0))) ∧ Aside0 (wc.heap[gb350]? = some (.cells #[.int .i64 3, (.slice Ao6 t347.length co6), u351002, (.slice none 0 0)] 32 (0, 0))) ∧ Aside0 (wc.heap[gb375]? = some (.cells #[.int .i64 ((Xa (Xa3 l1 x16_1) 0).f0), (.slice A374_1 ((Xa (Xa3 l1 x16_1) 0).f1).length c374_1), (.slice A374_2 ((Xa (Xa3 l1 x16_1) 0).f2).length c374_2), (.slice A374_3 ((Xa (Xa3 l1 x16_1) 0).f3).length c374_3)] 32 (0, 0))) ∧ Aside0 (Below w.heap.size w wc))
   case first =>
    have H := HC14.out
    clear HC14
    refine yt H ?_ ?_ <;> clear H <;> rintro c19 H
    ·have c19b0 : decide (0 < (((Xa (Xa3 l1 x16_1) 0).f1).length : Int)) = false := decide_eq_false c19
     have c19b1 : decide (0 < ((Xa (Xa3 l1 x16_1) 0).f1).length) = false := decide_eq_false J35
     clear c19
     (first | rw [c19b0] | (simp only [Xbd, Xbh]; rw [c19b0]) | skip)
     have H' := zq H
     clear H
     have hnb23 := NB375_346.out
     have hnc23 := NB346_375.out
     have hnb24 := NB375_350.out
     have hnc24 := NB350_375.out
     obtain ⟨hcz25_0, hcz25_1, hcz25_2, hcz25_3, hfz25_0, hfz25_1, hfz25_2, hfz25_3⟩ := cz4 BK375.out
     go_wp2
     go_meet
     case rel => exact ⟨_, ((((Xa (Xa3 l1 x16_1) 0).f0) == 5)), J4, H', ⟨J87⟩, ⟨J50⟩, ⟨J48⟩, ⟨J49⟩, ⟨J45⟩, ⟨J46⟩, ⟨J26⟩, ⟨J36⟩⟩
    have c19b0 := decide_eq_true c19
    have c19b1 : decide (0 < ((Xa (Xa3 l1 x16_1) 0).f1).length) = true := decide_eq_true J35
    clear c19
    (first | rw [c19b0] | (simp only [Xbd, Xbh]; rw [c19b0]) | skip)
    have H' := zq H
    clear H
    have hnb20 := NB375_346.out
    have hnc20 := NB346_375.out
    have hnb21 := NB375_350.out
    have hnc21 := NB350_375.out
    obtain ⟨hcz22_0, hcz22_1, hcz22_2, hcz22_3, hfz22_0, hfz22_1, hfz22_2, hfz22_3⟩ := cz4 BK375.out
    go_wp2
    go_meet
    case rel => exact ⟨_, (true), J4, H', ⟨J87⟩, ⟨J50⟩, ⟨J48⟩, ⟨J49⟩, ⟨J45⟩, ⟨J46⟩, ⟨J26⟩, ⟨J36⟩⟩
   case rest =>
    clear HC14
    try clear c1
    try clear c10b0
    try clear c11b0
    try clear c12b0
    try clear c13
    try clear c13b0
    try clear c13b1
    try clear hcz18_0
    try clear hcz18_1
    try clear hcz18_2
    try clear hcz18_3
    try clear hcz9_0
    try clear hcz9_1
    try clear hcz9_2
    try clear hcz9_3
    try clear hfz18_0
    try clear hfz18_1
    try clear hfz18_2
    try clear hfz18_3
    try clear hfz9_0
    try clear hfz9_1
    try clear hfz9_2
    try clear hfz9_3
    try clear hx373_0
    try clear hx374_0
    try clear hx374_1
    try clear hx374_2
    try clear hx374_3
    try clear p373
    try clear p374
    try clear q373
    try clear q374
    obtain ⟨kq, x27_13, rfl, HA, HJ13, HO_7, HO_351001, HO_351002, BK346, BK350, BK375, HB⟩ := hcut
    cases kq with
    | zero => exact absurd HA.out (by simp [Xaa.j1])
    | succ kj13 =>
     have H := HA.out
     clear HA
     simp only [Xaa.j1] at H
     refine yC H ?_ ?_ <;> clear H <;> rintro rfl H
     ·obtain ⟨rfl, rfl, rfl, rfl, rfl⟩ := yp5 H
      have hnb27 := NB346_350.out
      have hnc27 := NB350_346.out
      have hnb28 := NB346_375.out
      have hnc28 := NB375_346.out
      obtain ⟨hcz29_0, hcz29_1, hcz29_2, hcz29_3, hfz29_0, hfz29_1, hfz29_2, hfz29_3⟩ := cz4 BK346.out
      go_wp2
      refine bodyPost_ret (Xa1 rfl _ _ gb346 32 #[.int .i64 0, .slice none 0 0, .slice none 0 0, .slice none 0 0] (0, 0) _ rfl (by (with_reducible repeat (first | refine Xc ?_ _ | refine Xe ?_ | refine Xb ?_ _)); refine Xj (cs := #[.int .i64 0, .slice none 0 0, .slice none 0 0, .slice none 0 0]) ?_ 3 _ rfl; (with_reducible repeat (first | refine Xc ?_ _ | refine Xe ?_ | refine Xb ?_ _)); refine Xj (cs := #[.int .i64 0, .slice none 0 0, .slice none 0 0, .slice none 0 0]) ?_ 2 _ rfl; (with_reducible repeat (first | refine Xc ?_ _ | refine Xe ?_ | refine Xb ?_ _)); refine Xj (cs := #[.int .i64 0, .slice none 0 0, .slice none 0 0, .slice none 0 0]) ?_ 1 _ rfl; (with_reducible repeat (first | refine Xc ?_ _ | refine Xe ?_ | refine Xb ?_ _)); refine Xj (cs := #[.int .i64 x347000_1, .slice none 0 0, .slice none 0 0, .slice none 0 0]) ?_ 0 _ rfl; (with_reducible repeat (first | refine Xc ?_ _ | refine Xe ?_ | refine Xb ?_ _)); exact BK346.out) Tryd.underlying32 rfl J8) rfl ?_
      exact ⟨_, _, _, J2, J9, J9, J9, J36⟩
     refine yE H ?_ ?_ <;> clear H <;> rintro ⟨c30b0, c30b1, c30⟩ H
     ·refine yv H ?_; clear H; rintro t379 A40 H
      refine yu H ?_ ?_ <;> clear H <;> rintro c41 H
      ·have LMc41 := zq c41
       clear c41
       obtain ⟨y382, hy382⟩ : ∃ y_ : List (S40), y_ = (x7_1 ++ t379) := ⟨_, rfl⟩
       replace H : (Xaa.l0 kj13 l0 l1 y382 l1 (l1.length : Int) (wrap64 (x16_1 + 1)) 3 t347 x351002_1) = some (r1, r2, r3, r4, r5) := by first | (rw [hy382]; with_reducible exact H) | (have H2_ := (Option.bind_some _ _).symm.trans H; rw [hy382]; with_reducible exact H2_) | (have H2_ := (Option.bind_some _ _).symm.trans H; with_reducible exact H2_) | with_reducible exact H | (rw [hy382]; exact H) | exact H
       have Ny382 := zq hy382
       clear hy382
       have H' := zq H
       clear H
       have hnb42 := NB375_346.out
       have hnc42 := NB346_375.out
       have hnb43 := NB375_350.out
       have hnc43 := NB350_375.out
       obtain ⟨hcz44_0, hcz44_1, hcz44_2, hcz44_3, hfz44_0, hfz44_1, hfz44_2, hfz44_3⟩ := cz4 BK375.out
       go_wp2_with (first | ((with_reducible refine Xg (f := 63) rfl ?_); refine Xt (some 25) rfl rfl Tryd.func63 J8 rfl #[.agg #[.int .i64 ((Xa (Xa3 l1 x16_1) 0).f0), .slice A374_1 ((Xa (Xa3 l1 x16_1) 0).f1).length c374_1, .slice A374_2 ((Xa (Xa3 l1 x16_1) 0).f2).length c374_2, .slice A374_3 ((Xa (Xa3 l1 x16_1) 0).f3).length c374_3]] rfl J1 ?_; (with_reducible refine (Xak.calls kj13 ((Xa (Xa3 l1 x16_1) 0).f0) _ _ ((Xa (Xa3 l1 x16_1) 0).f1) _ _ ((Xa (Xa3 l1 x16_1) 0).f2) (fun k_ => k_ < w.heap.size) _ _ ((Xa (Xa3 l1 x16_1) 0).f3) t379 _ ?side1 ?side2 ?side3 ?side4 ?side5 A40.out).mono ?_); (case side1 => exact zc (Kd.C_below HR374_1.out HB.out)); (case side2 => exact HC374_1.out); (case side3 => exact zc (Kd.C_below HR374_2.out HB.out)); (case side4 => exact HC374_2.out); (case side5 => exact Kd.V_mk HC374_3.out (Kd.F_below (Kd.C_F k40_heap HR374_3.out) (zs3 GE346.out GE350.out GE375.out))); rintro e w45 ⟨v380, rfl, ho0, hb⟩; refine ⟨_, rfl, ?_⟩; have HO381 := zq (Kd.V_lower (Kd.V_mono (ok' := fun k_ => some k_ ≠ (u7 : Value).ownBlock ∧ some k_ ≠ (.slice Ao6 t347.length co6 : Value).ownBlock ∧ some k_ ≠ (u351002 : Value).ownBlock ∧ k_ ≠ gb346 ∧ k_ ≠ gb350 ∧ k_ ≠ gb375) ho0 (fun k_ hk_ => ⟨Or.elim hk_ (fun hs_ => fun e_ => Nat.not_le.2 hs_ (Kd.R_base HO_7.out k_ e_.symm)) (fun hn_ => (Kd.fresh' (Kd.R_lt (zr HO_7.out)) k_ hn_)), Or.elim hk_ (fun hs_ => fun e_ => Nat.not_le.2 hs_ (Kd.R_base HO_351001.out k_ e_.symm)) (fun hn_ => (Kd.fresh' (Kd.R_lt (zr HO_351001.out)) k_ hn_)), Or.elim hk_ (fun hs_ => fun e_ => Nat.not_le.2 hs_ (Kd.R_base HO_351002.out k_ e_.symm)) (fun hn_ => (Kd.fresh' (Kd.R_lt (zr HO_351002.out)) k_ hn_)), Or.elim hk_ (fun hs_ => fun e_ => Nat.not_le.2 hs_ (by rw [e_]; exact GW346.out)) (fun hn_ => (Kd.freshB (g := gb346) (o := .cells #[.int .i64 x347000_1, .slice none 0 0, .slice none 0 0, .slice none 0 0] 32 (0, 0)) (zk BK346.out) k_ hn_)), Or.elim hk_ (fun hs_ => fun e_ => Nat.not_le.2 hs_ (by rw [e_]; exact GW350.out)) (fun hn_ => (Kd.freshB (g := gb350) (o := .cells #[.int .i64 3, .slice Ao6 t347.length co6, u351002, .slice none 0 0] 32 (0, 0)) (zk BK350.out) k_ hn_)), Or.elim hk_ (fun hs_ => fun e_ => Nat.not_le.2 hs_ (by rw [e_]; exact GW375.out)) (fun hn_ => (Kd.freshB (g := gb375) (o := .cells #[.int .i64 ((Xa (Xa3 l1 x16_1) 0).f0), .slice A374_1 ((Xa (Xa3 l1 x16_1) 0).f1).length c374_1, .slice A374_2 ((Xa (Xa3 l1 x16_1) 0).f2).length c374_2, .slice A374_3 ((Xa (Xa3 l1 x16_1) 0).f3).length c374_3] 32 (0, 0)) (zk BK375.out) k_ hn_))⟩)) (Xf (zs3 GE346.out GE350.out GE375.out))); replace HO_7 := zq (Kd.R_below (zr HO_7.out) hb); replace HO_351001 := zq (Kd.R_below (zr HO_351001.out) hb); replace HO_351002 := zq (Kd.R_below (zr HO_351002.out) hb); replace BK346 := zq (Xh (zk BK346.out) hb); replace BK350 := zq (Xh (zk BK350.out) hb); replace HB := zq (Xd (zs3 GE346.out GE350.out GE375.out) hb); (try clear hb); (try clear hk); (try clear ho0); obtain ⟨Ao47, co47, eo47⟩ := Kd.V_slice HO381.out; subst eo47) | ((with_reducible refine Xbt (b := .append) (xs := #[.tmp 23, .tmp 25]) rfl ?_); (try (refine Xaz Xa5 ?_; dsimp only)); at_builtin; refine Kd.R_append_rows k40 (w0 := w) w.heap.size rfl (.tmp 23) (.tmp 25) 30 40 (.agg #[(.int .i64 0), (.int .i64 0)]) 16 rfl Tryd.underlying30 info40 rfl J11 J35 u7 x7_1 t379 _ _ _ (fun _ => True) (fun _ => False) rfl rfl ?aO ?aR (fun _ _ h => h) (fun _ h => h.elim) ?aF ?aB ?aS ?aL ?_; (case aR => repeat (first | exact (Kd.V_reads' HO381.out).2.2 | (with_reducible refine Kd.C_alloc ?_ _) | (with_reducible refine Kd.C_drewN ?_ _) | (with_reducible refine Kd.C_drew ?_))); (case aB => exact (zs3 GE346.out GE350.out GE375.out)); (case aF => exact (fun _ _ => trivial)); (case aO => exact (zr HO_7.out)); (case aS => exact (Xf (zs3 GE346.out GE350.out GE375.out))); (case aL => have := LMc41.out; omega); intro v383 w46 ho hb hg hat; rw [← Ny382.out] at ho; replace HO_351001 := zq (Kd.R_over' (zr HO_351001.out) (Kd.R_typed (zr HO_7.out)) J11 hg); replace HO_351002 := zq (Kd.R_over' (zr HO_351002.out) (Kd.R_typed (zr HO_7.out)) J11 hg); replace BK346 := zq (Xb7 (g := gb346) (o := .cells #[.int .i64 x347000_1, .slice none 0 0, .slice none 0 0, .slice none 0 0] 32 (0, 0)) (zk BK346.out) hg (Kd.R_ne HO_7.out BK346.out J11)); replace BK350 := zq (Xb7 (g := gb350) (o := .cells #[.int .i64 3, .slice Ao6 t347.length co6, u351002, .slice none 0 0] 32 (0, 0)) (zk BK350.out) hg (Kd.R_ne HO_7.out BK350.out J11)); replace HB := zq (hb); have HO384 := zq (ho); clear HO_7; clear ho hb hg hat))
       go_roundg kj13
       case measure => have := HK1.out; have := HJ13.out; omega
       case rel => exact ⟨(y382), (wrap64 (x16_1 + 1)), (x347000_1), (x351002_1), (u351002), J4, H', ⟨by have := HK1.out; have := HJ13.out; omega⟩, ⟨by (with_reducible repeat (first | apply Kd.R_alloc | apply Kd.R_drewN | apply Kd.R_drew)); exact HO384.out⟩, ⟨by (with_reducible repeat (first | apply Kd.R_alloc | apply Kd.R_drewN | apply Kd.R_drew)); exact HO_351001.out⟩, ⟨by (with_reducible repeat (first | apply Kd.R_alloc | apply Kd.R_drewN | apply Kd.R_drew)); exact HO_351002.out⟩, ⟨by (with_reducible repeat (first | refine Xc ?_ _ | refine Xe ?_ | refine Xb ?_ _)); exact BK346.out⟩, ⟨by (with_reducible repeat (first | refine Xc ?_ _ | refine Xe ?_ | refine Xb ?_ _)); exact BK350.out⟩, ⟨J36⟩⟩
      ·exact absurd H J88
     clear c30
     refine yi H ?_; clear H; intro c31 H
     have LMc31 := zq c31
     clear c31
     obtain ⟨y376, hy376⟩ : ∃ y_ : List Int, y_ = (x351002_1 ++ ((Xa (Xa3 l1 x16_1) 0).f2)) := ⟨_, rfl⟩
     replace H : (Xaa.l0 kj13 l0 l1 x7_1 l1 (l1.length : Int) (wrap64 (x16_1 + 1)) 3 t347 y376) = some (r1, r2, r3, r4, r5) := by first | (rw [hy376]; with_reducible exact H) | (have H2_ := (Option.bind_some _ _).symm.trans H; rw [hy376]; with_reducible exact H2_) | (have H2_ := (Option.bind_some _ _).symm.trans H; with_reducible exact H2_) | with_reducible exact H | (rw [hy376]; exact H) | exact H
     have Ny376 := zq hy376
     clear hy376
     have H' := zq H
     clear H
     have hnb32 := NB375_346.out
     have hnc32 := NB346_375.out
     have hnb33 := NB375_350.out
     have hnc33 := NB350_375.out
     obtain ⟨hcz34_0, hcz34_1, hcz34_2, hcz34_3, hfz34_0, hfz34_1, hfz34_2, hfz34_3⟩ := cz4 BK375.out
     have hnb35 := NB350_346.out
     have hnc35 := NB346_350.out
     obtain ⟨hcz36_0, hcz36_1, hcz36_2, hcz36_3, hfz36_0, hfz36_1, hfz36_2, hfz36_3⟩ := cz4 BK350.out
     go_wp2_with (first | ((with_reducible refine Xbt (b := .append) (xs := #[.tmp 43, .tmp 45]) rfl ?_); (try (refine Xaz Xa5 ?_; dsimp only)); at_builtin; refine Kd.R_append_rows (Kd.int .i64) (w0 := w) w.heap.size rfl (.tmp 43) (.tmp 45) 29 3 (.int .i64 0) 8 rfl Tryd.underlying29 info3 rfl J11 J35 u351002 x351002_1 ((Xa (Xa3 l1 x16_1) 0).f2) _ _ _ (fun k_ => some k_ ≠ (.slice Ao6 t347.length co6 : Value).ownBlock) (fun _ => False) rfl rfl ?aO ?aR (fun _ _ h => h) (fun _ h => h.elim) ?aF ?aB ?aS ?aL ?_; (case aR => repeat (first | exact (Kd.C_below HR374_2.out HB.out) | (with_reducible refine Kd.C_alloc ?_ _) | (with_reducible refine Kd.C_drewN ?_ _) | (with_reducible refine Kd.C_drew ?_))); (case aB => exact (zs3 GE346.out GE350.out GE375.out)); (case aF => exact (fun k_ hk => Kd.fresh' (Kd.R_lt (zr HO_351001.out)) k_ hk)); (case aO => exact (zr HO_351002.out)); (case aS => exact (Xf (zs3 GE346.out GE350.out GE375.out))); (case aL => have := LMc31.out; omega); intro v377 w37 ho hb hg hat; rw [← Ny376.out] at ho; replace HO_7 := zq (Kd.R_over' (zr HO_7.out) (Kd.R_typed (zr HO_351002.out)) J11 hg); replace HO_351001 := zq (Kd.R_after (ok := (fun _ => True)) (by (with_reducible repeat (first | apply Kd.R_alloc | apply Kd.R_drewN | apply Kd.R_drew)); exact Kd.R_mono HO_351001.out (fun _ hk => ⟨trivial, hk⟩)) hg hat); replace BK346 := zq (Xb7 (g := gb346) (o := .cells #[.int .i64 x347000_1, .slice none 0 0, .slice none 0 0, .slice none 0 0] 32 (0, 0)) (zk BK346.out) hg (Kd.R_ne HO_351002.out BK346.out J11)); replace BK350 := zq (Xb7 (g := gb350) (o := .cells #[.int .i64 3, .slice Ao6 t347.length co6, u351002, .slice none 0 0] 32 (0, 0)) (zk BK350.out) hg (Kd.R_ne HO_351002.out BK350.out J11)); replace BK375 := zq (Xb7 (g := gb375) (o := .cells #[.int .i64 ((Xa (Xa3 l1 x16_1) 0).f0), .slice A374_1 ((Xa (Xa3 l1 x16_1) 0).f1).length c374_1, .slice A374_2 ((Xa (Xa3 l1 x16_1) 0).f2).length c374_2, .slice A374_3 ((Xa (Xa3 l1 x16_1) 0).f3).length c374_3] 32 (0, 0)) (zk BK375.out) hg (Kd.R_ne HO_351002.out BK375.out J11)); replace HB := zq (hb); have HO378 := zq (ho); clear HO_351002; clear ho hb hg hat; obtain ⟨Ao38, co38, eo38⟩ := Kd.R_slice HO378.out; subst eo38; obtain ⟨hcz39_0, hcz39_1, hcz39_2, hcz39_3, hfz39_0, hfz39_1, hfz39_2, hfz39_3⟩ := cz4 BK350.out))
     go_roundg kj13
     case measure => have := HK1.out; have := HJ13.out; omega
     case rel => exact ⟨(x7_1), (wrap64 (x16_1 + 1)), (x347000_1), (y376), (.slice Ao38 y376.length co38), J4, H', ⟨by have := HK1.out; have := HJ13.out; omega⟩, ⟨by (with_reducible repeat (first | apply Kd.R_alloc | apply Kd.R_drewN | apply Kd.R_drew)); exact Kd.R_mono (Kd.R_far (p := ⟨gb350, 2, none⟩) (Kd.R_types HO_7.out BK350.out J11) (fun _ hk => hk.2) (.slice Ao38 y376.length co38)) (fun _ hk => trivial)⟩, ⟨by (with_reducible repeat (first | apply Kd.R_alloc | apply Kd.R_drewN | apply Kd.R_drew)); exact Kd.R_mono (Kd.R_far (p := ⟨gb350, 2, none⟩) (Kd.R_types HO_351001.out BK350.out J11) (fun _ hk => hk.2) (.slice Ao38 y376.length co38)) (fun _ hk => hk.1.2)⟩, ⟨by (with_reducible repeat (first | apply Kd.R_alloc | apply Kd.R_drewN | apply Kd.R_drew)); exact Kd.R_mono (Kd.R_far (p := ⟨gb350, 2, none⟩) (Kd.R_types HO378.out BK350.out J11) (fun _ hk => hk.2) (.slice Ao38 y376.length co38)) (fun _ hk => hk.1)⟩, ⟨by (with_reducible repeat (first | refine Xc ?_ _ | refine Xe ?_ | refine Xb ?_ _)); refine Xab ?_ NB346_350.out _; (with_reducible repeat (first | refine Xc ?_ _ | refine Xe ?_ | refine Xb ?_ _)); exact BK346.out⟩, ⟨by (with_reducible repeat (first | refine Xc ?_ _ | refine Xe ?_ | refine Xb ?_ _)); refine Xj (cs := #[.int .i64 3, .slice Ao6 t347.length co6, u351002, .slice none 0 0]) ?_ 2 _ rfl; (with_reducible repeat (first | refine Xc ?_ _ | refine Xe ?_ | refine Xb ?_ _)); exact BK350.out⟩, ⟨J36⟩⟩
def Xc4.f (a1 : Int) : Option (List (S32)) := if 0 ≤ a1 ∧ a1.toNat * 80 ≤ 140737488355328 then some [] else none
set_option maxHeartbeats 8000000 in
set_option maxRecDepth 100000 in
theorem Xc4.calls (a1 : Int) (r : List (S32)) (w : World) (h : Xc4.f a1 = some r) :
  Calls Tryd.prog 79 #[.slice none 0 0, .int .i64 a1] w fun e w' => ∃ v0_ : Value, e = .returned (v0_) ∧ Kd.N k32 32 w' w.heap.size (fun k_ => w.heap.size ≤ k_) v0_ r ∧ Below w.heap.size w w' := by
 unfold Xc4.f at h
 by_cases h0 : 0 ≤ a1 ∧ a1.toNat * 80 ≤ 140737488355328
 ·rw [if_pos h0] at h
  obtain rfl := Option.some.inj h
  clear h
  have H0 := zq h0
  have n1 : decide (a1 < 0) = false := decide_eq_false J35
  obtain ⟨i0_, hi0_, _, hsz_, _⟩ := info_parts Xd5
  have hcutA := cut_to (P := Tryd.prog) 23 32 .i64 Tryd.underlying23 hi0_ none 0 0 0 J11 J11 J11
  simp only [Int.toNat_zero] at hcutA
  have HS := zq (show wrap64 a1 = a1 by unfold wrap64; omega)
  by_cases hp : 0 < a1
  ·have p1 : decide (0 < wrap64 a1) = true := by rw [HS.out]; exact decide_eq_true hp
   have HP := zq hp
   clear hp
   clear h0
   go_enter Tryd.func79, Tryd.ntmps79
   go_wp2_with (first | ((with_reducible refine Xbt (b := .append) (xs := #[.tmp 20, .tmp 21]) rfl ?_); at_builtin; refine Kd.R_append_zeros k32 (w0 := w) w.heap.size rfl (.tmp 20) (.tmp 21) 23 3 32 (.agg #[(.int .i64 0), (.slice none 0 0), (.slice none 0 0), (.slice none 0 0)]) 80 rfl Tryd.underlying23 Tryd.underlying3 Xd5 rfl J11 J35 (.slice none 0 0) [] z32 (wrap64 a1) (fun k_ => w.heap.size ≤ k_) rfl rfl (k32_mkM _ _ _ z32 (Kd.R_nil _ _ _ _ _) (Kd.R_nil _ _ _ _ _) (Kd.R_nil _ _ _ _ _)) (fun _ hk => hk) (Kd.R_nil _ _ _ _ _) (by rw [HS.out]; exact Int.le_of_lt HP.out) (Below.refl _ _) (Nat.le_refl _) ?aL ?_; (case aL => rw [show (([] : List (S32)).length) = 0 from rfl, Nat.zero_add, HS.out]; exact H0.out.2); intro v1 w1 ho hb hg hat; obtain ⟨A1, c1, e1⟩ := Kd.R_slice ho; subst e1; have HO := zq ho; have HB := zq hb; have hcap := (Kd.R_reads' ho).2.1; clear ho hb hg hat; have hcutB := cut_to (P := Tryd.prog) 23 32 .i64 Tryd.underlying23 hi0_ A1 _ c1 0 J11 J35 hcap; simp only [Int.toNat_zero] at hcutB; clear hcap))
   go_ret
   exact ⟨_, rfl, Kd.R_N (Kd.R_take HO.out (Nat.zero_le _)), HB.out⟩
  ·have p1 : decide (0 < wrap64 a1) = false := by rw [HS.out]; exact decide_eq_false hp
   clear hp
   clear h0
   go_enter Tryd.func79, Tryd.ntmps79
   go_wp2
   go_ret
   exact ⟨_, rfl, Kd.R_N (Kd.R_nil _ _ _ _ _), Below.refl _ _⟩
 ·rw [if_neg h0] at h
  cases h
mutual
def Xan.l0 : Nat → List (List (S32)) → Int → List (List (S32)) → Int → Int → Option ((List (S32)))
 | 0, _, _, _, _, _ => none
 | k + 1, x0, x3, x9, x10, x11 => if x11 < x10 then (if 0 ≤ x11 then (if x11 < (x9.length : Int) then (if (wrap64 (x3 + ((Xa3 x9 x11).length : Int))) < 0 then (none) else (Xan.l0 k x0 (wrap64 (x3 + ((Xa3 x9 x11).length : Int))) x9 x10 (wrap64 (x11 + 1)))) else (none)) else (none)) else ((Xc4.f x3).bind fun t386 => (Xan.l1 k t386 x0 (x0.length : Int) 0))
def Xan.l1 : Nat → List (S32) → List (List (S32)) → Int → Int → Option ((List (S32)))
 | 0, _, _, _, _ => none
 | k + 1, x6, x25, x26, x27 => if x27 < x26 then (if 0 ≤ x27 then (if x27 < (x25.length : Int) then (if x6.length + (Xa3 x25 x27).length < 1759218604441 then (Xan.l1 k (x6 ++ (Xa3 x25 x27)) x25 x26 (wrap64 (x27 + 1))) else (none)) else (none)) else (none)) else (some x6)
end
def Xan.f (k : Nat) (l0 : List (List (S32))) : Option ((List (S32))) := Xan.l0 k l0 0 l0 (l0.length : Int) 0
theorem Xan.mono_l : ∀ k, (∀ y0 y1 y2 y3 y4, LeO (Xan.l0 k y0 y1 y2 y3 y4) (Xan.l0 (k + 1) y0 y1 y2 y3 y4)) ∧ (∀ y0 y1 y2 y3, LeO (Xan.l1 k y0 y1 y2 y3) (Xan.l1 (k + 1) y0 y1 y2 y3))
 | 0 => ⟨fun _ _ _ _ _ r h => by simp [Xan.l0] at h, fun _ _ _ _ r h => by simp [Xan.l1] at h⟩
 | k + 1 => by
  obtain ⟨ih0, ih1⟩ := Xan.mono_l k
  refine ⟨?_, ?_⟩
  ·intro y0 y1 y2 y3 y4
   unfold Xan.l0
   exact mz0
  ·intro y0 y1 y2 y3
   unfold Xan.l1
   exact mz0
theorem Xan.mono : ∀ a0 k, LeO (Xan.f k a0) (Xan.f (k + 1) a0) := by
 intro a0 k
 obtain ⟨ih0, ih1⟩ := Xan.mono_l k
 unfold Xan.f
 exact mz0
set_option maxHeartbeats 8000000 in
set_option maxRecDepth 100000 in
theorem Xan.calls (k : Nat) (P0_ : Nat → Prop) (A0 : Option Addr) (c0 : Nat) (l0 : List (List (S32))) (r : List (S32)) (w : World) (hs0 : Kd.V (Kd.slice 32 k32) 23 w w.heap.size (fun k_ => P0_ k_) (.slice A0 l0.length c0) l0) (h : Xan.f k l0 = some r) :
  Calls Tryd.prog 62 #[.slice A0 l0.length c0] w fun e w' => ∃ v0_ : Value, e = .returned (v0_) ∧ Kd.N k32 32 w' w.heap.size (fun k_ => (P0_ k_ ∨ w.heap.size ≤ k_)) v0_ r ∧ Below w.heap.size w w' := by
 have HO0 := zq (show Kd.V (Kd.slice 32 k32) 23 w w.heap.size (fun k_ => (P0_ k_ ∨ w.heap.size ≤ k_)) (.slice A0 l0.length c0) l0 from Kd.V_mono hs0 (fun k_ hk => .inl hk))
 have HB := zq (Below.refl w.heap.size w)
 unfold Xan.f at h
 have H := h
 clear h
 have H' := zq H
 clear H
 go_enter Tryd.func62, Tryd.ntmps62
 go_wp2
 go_loopg [3, 11] k (fun kq v3 v11 w' => ∃ (x3_1 : Int) (x11_1 : Int), v3 = .int .i64 x3_1 ∧ v11 = .int .i64 x11_1 ∧ Aside0 (Xan.l0 kq l0 x3_1 l0 (l0.length : Int) x11_1 = some r) ∧ Aside0 (kq ≤ k) ∧ Aside0 (Kd.V (Kd.slice 32 k32) 23 w' w.heap.size (fun k_ => (P0_ k_ ∨ w.heap.size ≤ k_)) (.slice A0 l0.length c0) l0) ∧ Aside0 (Kd.V (Kd.slice 32 k32) 23 w' w.heap.size (fun k_ => (P0_ k_ ∨ w.heap.size ≤ k_)) (.slice A0 l0.length c0) l0) ∧ Aside0 (Below w.heap.size w w'))
 case atStart => exact ⟨(0), (0), J4, J4, H', ⟨Nat.le_refl _⟩, ⟨by (with_reducible repeat (first | apply Kd.V_alloc | apply Kd.V_drewN | apply Kd.V_drew)); exact HO0.out⟩, ⟨by (with_reducible repeat (first | apply Kd.V_alloc | apply Kd.V_drewN | apply Kd.V_drew)); exact HO0.out⟩, ⟨J0⟩⟩
 case round =>
  clear H'
  obtain ⟨x3_1, x11_1, rfl, rfl, HA, HK1, HO_0, HO_9, HB⟩ := hrel
  cases gk with
  | zero => exact absurd HA.out (by simp [Xan.l0])
  | succ k1 =>
   have H := HA.out
   clear HA
   simp only [Xan.l0] at H
   refine yD H ?_ ?_ <;> clear H <;> rintro c2b0 H
   ·refine yu H ?_ ?_ <;> clear H <;> rintro c3 H
    ·have c3b0 : decide (0 ≤ x11_1) = true := decide_eq_true c3
     clear c3
     refine yu H ?_ ?_ <;> clear H <;> rintro c4 H
     ·have c4b0 : decide (x11_1 < (l0.length : Int)) = true := decide_eq_true c4
      clear c4
      refine yu H ?_ ?_ <;> clear H <;> rintro c5 H
      ·exact absurd H J88
      ·have c5b0 : decide ((wrap64 (x3_1 + ((Xa3 l0 x11_1).length : Int))) < 0) = false := decide_eq_false c5
       clear c5
       have H' := zq H
       clear H
       have p385 : 0 ≤ (x11_1 : Int) := of_decide_eq_true J3
       have q385 : x11_1 < (l0.length : Int) := of_decide_eq_true J3
       obtain ⟨ad385, A385_0, c385_0, e385, hx385_0, hl385_0, hi385_0⟩ := at_L5 (Kd.V_reads' HO_9.out).2.2 x11_1 p385 q385
       cases e385
       obtain ⟨ce385, hce385, hMe385, hcc385⟩ := Kd.V_get HO_9.out [] x11_1 p385 (by first | exact q385 | exact of_decide_eq_true J3 | (have e_ := (Kd.V_reads' HO_9.out).1; omega))
       obtain ⟨ua385_0, uc385_0, rfl, ul385_0, ge385_0⟩ := Kd.FK_slice_open hMe385
       have hv385_0 := hcc385 0 _ rfl
       rw [Nat.add_zero, show ((Kd.slice 32 k32)).sz = 1 from rfl, Nat.mul_one] at hv385_0
       replace hv385_0 := Option.some.inj (hv385_0.symm.trans hx385_0)
       injection hv385_0 with hva_ hvn_ hvc_
       rw [hva_] at ge385_0
       rw [hvc_] at ul385_0
       have HL385_0 := zq (show Kd.V k32 32 _ w.heap.size _ _ (Xa3 l0 x11_1) from Kd.V_mk ul385_0 ge385_0)
       clear hva_ hvn_ hvc_ ge385_0 ul385_0
       clear hcc385 hce385
       have HR385_0 := zq hi385_0
       have HC385_0 := zq hl385_0
       clear hi385_0 hl385_0
       replace p385 := eq_true p385
       replace q385 := eq_true q385
       go_wp2
       go_roundg k1
       case measure => have := HK1.out; omega
       case rel => exact ⟨(wrap64 (x3_1 + ((Xa3 l0 x11_1).length : Int))), (wrap64 (x11_1 + 1)), J4, J4, H', ⟨J86⟩, ⟨J163⟩, ⟨by (with_reducible repeat (first | apply Kd.V_alloc | apply Kd.V_drewN | apply Kd.V_drew)); exact HO_9.out⟩, ⟨J0⟩⟩
     ·exact absurd H J88
    ·exact absurd H J88
   refine yv H ?_; clear H; rintro t386 A6 H
   have H' := zq H
   clear H
   go_wp2_with (first | ((with_reducible refine Xg (f := 79) rfl ?_); refine Xt (some 24) rfl rfl Tryd.func79 J8 rfl #[.slice none 0 0, .int .i64 x3_1] rfl J1 ?_; (with_reducible refine (Xc4.calls x3_1 t386 _ A6.out).mono ?_); rintro e w7 ⟨v387, rfl, ho0, hb⟩; refine ⟨_, rfl, ?_⟩; replace HO_0 := zq (Kd.V_elder' (zv HO_0.out) (Kd.N_base ho0) hb); have HO388 := zq (Kd.N_lower (Kd.N_mono (ok' := fun k_ => (P0_ k_ ∨ w.heap.size ≤ k_)) ho0 (fun k_ hk_ => (.inr (Nat.le_trans (Xf J0) hk_)))) (Xf J0)); replace HB := zq (Xd J0 hb); (try clear hb); (try clear hk); (try clear ho0)))
   go_loopg [6, 27] k1 (fun kq v6 v27 w' => ∃ (x6_2 : List (S32)) (x27_2 : Int), v27 = .int .i64 x27_2 ∧ Aside0 (Xan.l1 kq x6_2 l0 (l0.length : Int) x27_2 = some r) ∧ Aside0 (kq ≤ k1) ∧ Aside0 (Kd.N k32 32 w' w.heap.size (fun k_ => (P0_ k_ ∨ w.heap.size ≤ k_)) v6 x6_2) ∧ Aside0 (Kd.V (Kd.slice 32 k32) 23 w' w.heap.size (fun k_ => (P0_ k_ ∨ w.heap.size ≤ k_) ∧ some k_ ≠ (v6 : Value).ownBlock) (.slice A0 l0.length c0) l0) ∧ Aside0 (Below w.heap.size w w'))
   case atStart => exact ⟨(t386), (0), J4, H', ⟨Nat.le_refl _⟩, ⟨by (with_reducible repeat (first | apply Kd.N_alloc | apply Kd.N_drewN | apply Kd.N_drew)); exact HO388.out⟩, ⟨J163⟩, ⟨J0⟩⟩
   case round =>
    clear H'
    try clear c2b0
    obtain ⟨x6_2, x27_2, rfl, HA, HK2, HO_6, HO_25, HB⟩ := hrel
    cases gk with
    | zero => exact absurd HA.out (by simp [Xan.l1])
    | succ k2 =>
     have H := HA.out
     clear HA
     simp only [Xan.l1] at H
     refine yd H ?_ ?_ <;> clear H <;> rintro c8b0 H
     ·obtain rfl := yo H
      go_wp2
      go_ret
      exact ⟨_, J2, by (with_reducible repeat (first | apply Kd.N_alloc | apply Kd.N_drewN | apply Kd.N_drew)); exact HO_6.out, J0⟩
     refine yj H ?_; clear H; intro c9b0 H
     refine yj H ?_; clear H; intro c10b0 H
     refine yi H ?_; clear H; intro c11 H
     have LMc11 := zq c11
     clear c11
     obtain ⟨y390, hy390⟩ : ∃ y_ : List (S32), y_ = (x6_2 ++ (Xa3 l0 x27_2)) := ⟨_, rfl⟩
     replace H : (Xan.l1 k2 y390 l0 (l0.length : Int) (wrap64 (x27_2 + 1))) = some r := by first | (rw [hy390]; with_reducible exact H) | (have H2_ := (Option.bind_some _ _).symm.trans H; rw [hy390]; with_reducible exact H2_) | (have H2_ := (Option.bind_some _ _).symm.trans H; with_reducible exact H2_) | with_reducible exact H | (rw [hy390]; exact H) | exact H
     have Ny390 := zq hy390
     clear hy390
     have H' := zq H
     clear H
     have p389 : 0 ≤ (x27_2 : Int) := of_decide_eq_true J3
     have q389 : x27_2 < (l0.length : Int) := of_decide_eq_true J3
     obtain ⟨ad389, A389_0, c389_0, e389, hx389_0, hl389_0, hi389_0⟩ := at_L5 (Kd.V_reads' HO_25.out).2.2 x27_2 p389 q389
     cases e389
     obtain ⟨ce389, hce389, hMe389, hcc389⟩ := Kd.V_get HO_25.out [] x27_2 p389 (by first | exact q389 | exact of_decide_eq_true J3 | (have e_ := (Kd.V_reads' HO_25.out).1; omega))
     obtain ⟨ua389_0, uc389_0, rfl, ul389_0, ge389_0⟩ := Kd.FK_slice_open hMe389
     have hv389_0 := hcc389 0 _ rfl
     rw [Nat.add_zero, show ((Kd.slice 32 k32)).sz = 1 from rfl, Nat.mul_one] at hv389_0
     replace hv389_0 := Option.some.inj (hv389_0.symm.trans hx389_0)
     injection hv389_0 with hva_ hvn_ hvc_
     rw [hva_] at ge389_0
     rw [hvc_] at ul389_0
     have HL389_0 := zq (show Kd.V k32 32 _ w.heap.size _ _ (Xa3 l0 x27_2) from Kd.V_mk ul389_0 ge389_0)
     clear hva_ hvn_ hvc_ ge389_0 ul389_0
     clear hcc389 hce389
     have HR389_0 := zq hi389_0
     have HC389_0 := zq hl389_0
     clear hi389_0 hl389_0
     replace p389 := eq_true p389
     replace q389 := eq_true q389
     go_wp2_with (first | ((with_reducible refine Xbt (b := .append) (xs := #[.tmp 31, .tmp 32]) rfl ?_); at_builtin; refine Kd.N_append_rows k32 (w0 := w) w.heap.size rfl (.tmp 31) (.tmp 32) 23 32 (.agg #[(.int .i64 0), (.slice none 0 0), (.slice none 0 0), (.slice none 0 0)]) 80 rfl Tryd.underlying23 Xd5 rfl J11 J35 u6 x6_2 (Xa3 l0 x27_2) _ _ _ (fun k_ => (P0_ k_ ∨ w.heap.size ≤ k_)) (fun k_ => ((fun k_ => (P0_ k_ ∨ w.heap.size ≤ k_))) k_ ∧ some k_ ≠ (u6 : Value).ownBlock) rfl rfl ?aO ?aR (fun _ hk => hk) ?aF ?aB ?aS ?aL ?_; (case aR => exact (by skip; exact Kd.V_F (Kd.V_mono (ok' := (fun k_ => ((fun k_ => (P0_ k_ ∨ w.heap.size ≤ k_))) k_ ∧ some k_ ≠ (u6 : Value).ownBlock)) (HL389_0.out) (fun k_ hk => ⟨hk.1, hk.2⟩)))); (case aB => exact J0); (case aF => exact (fun k_ hk => (.inr (Nat.le_trans (Xf J0) hk)))); (case aO => exact (zn HO_6.out)); (case aS => exact (Xf J0)); (case aL => have := LMc11.out; omega); intro v391 w12 ho hb hg hat; rw [← Ny390.out] at ho; replace HO_25 := zq (Kd.V_afterv (ok := (fun k_ => (P0_ k_ ∨ w.heap.size ≤ k_))) (zv HO_25.out) hg hat); replace HB := zq (hb); have HO392 := zq (ho); clear HO_6; clear ho hb hg hat))
     go_roundg k2
     case measure => have := HK1.out; have := HK2.out; omega
     case rel => exact ⟨(y390), (wrap64 (x27_2 + 1)), J4, H', ⟨by have := HK1.out; have := HK2.out; omega⟩, ⟨by (with_reducible repeat (first | apply Kd.N_alloc | apply Kd.N_drewN | apply Kd.N_drew)); exact HO392.out⟩, ⟨by (with_reducible repeat (first | apply Kd.V_alloc | apply Kd.V_drewN | apply Kd.V_drew)); exact HO_25.out⟩, ⟨J0⟩⟩
end Go.Proofs.YtfjhiiaahbjaiaaDoor.HSystemFirst
