/- Words and walks, shortened by a program: what this claim's functions answer, and that other memory stays. -/
import Derived.Test.YtecdklheppcihaaSTightTellsx0
import Derived.Test.YtecdklheppcihaaSTightTellsx6
import Derived.Test.YtecdklheppcihaaSTightTellsx7
import Derived.Test.YtecdklheppcihaaSTightTellsx8
import Derived.Test.YtecdklheppcihaaSTightTellsx9
namespace Go.Proofs.Ytecdklheppcihaa.HTightTells
open Go.RowKit Go.Proofs.YtecdklheppcihaaW.PrintWords Go.Proofs.YtecdklheppcihaaW.PrintWords.Kd Go.Proofs.YtecdklheppcihaaW.PrintLast Go.Proofs.YtecdklheppcihaaW.PrintMore Go.Proofs.YtecdklheppcihaaW.PrintMore.Kd
attribute [local go_sem] Xbp Xbn Xbu Xbt Xbg Xbf Xbo Xbm
set_option linter.unusedVariables false
set_option linter.unusedSimpArgs false
mutual
def tight_form.l0 : Nat → List (List (S30)) → Int → Int → Int → List Int → List Int → List (S38) → Option ((List (S30)))
 | 0, _, _, _, _, _, _, _ => none
 | k + 1, x4, x24, x25, x283000, x283001, x283002, x283003 => if x25 < x24 then (if 0 ≤ x25 then (if x25 < (x4.length : Int) then ((tight_form.f k (Xa5 x4 x25)).bind fun t290 => (tight_form.l0 k (x4.set (x25 : Int).toNat t290) x24 (wrap64 (x25 + 1)) x283000 x283001 x283002 x283003)) else (none)) else (none)) else ((X7.f k x283001 x4).bind fun bt294 => (if bt294.2.2.2.2 = true then (some (([(⟨bt294.1, bt294.2.1, bt294.2.2.1, bt294.2.2.2.1⟩ : S30)] : List (S30)))) else ((Xae.f x283001).bind fun t309 => ((some (([(⟨5, t309, ([] : List Int), ([] : List (S38))⟩ : S30)] : List (S30)) : List (S30))).bind fun y312 => ((Xah.f k x4).bind fun t315 => (if y312.length + t315.length < 1759218604441 then (some (y312 ++ t315)) else (none)))))))
def tight_form.f : Nat → List (S30) → Option ((List (S30)))
 | 0, _ => none
 | k + 1, l0 => if 0 < (l0.length : Int) then (if ((Xa l0 0).f0) = 3 then ((Xb3.f l0).bind fun t283 => (some t283)) else (if ((Xa l0 0).f0) = 5 then ((array_Kids.f k l0).bind fun t286 => (tight_form.l0 k t286 (t286.length : Int) 0 ((Xa l0 0).f0) ((Xa l0 0).f1) ((Xa l0 0).f2) ((Xa l0 0).f3))) else ((Xad.f k ((Xa l0 0).f0) ((Xa l0 0).f1) ((Xa l0 0).f2) ((Xa l0 0).f3)).bind fun t321 => ((X2.f k ((Xa l0 0).f1) t321).bind fun bt324 => (some (([(⟨bt324.1, bt324.2.1, bt324.2.2.1, bt324.2.2.2.1⟩ : S30)] : List (S30)))))))) else (none)
end
theorem tight_form.mono_l : ∀ k, (∀ y0, LeO (tight_form.f k y0) (tight_form.f (k + 1) y0)) ∧ (∀ y0 y1 y2 y3 y4 y5 y6, LeO (tight_form.l0 k y0 y1 y2 y3 y4 y5 y6) (tight_form.l0 (k + 1) y0 y1 y2 y3 y4 y5 y6))
 | 0 => ⟨fun _ r h => by simp [tight_form.f] at h, fun _ _ _ _ _ _ _ r h => by simp [tight_form.l0] at h⟩
 | k + 1 => by
  obtain ⟨ih0, ih1⟩ := tight_form.mono_l k
  refine ⟨?_, ?_⟩
  ·intro y0
   unfold tight_form.f
   have im0 := @Xah.mono
   have im1 := @array_Kids.mono
   have im2 := @X2.mono
   have im3 := @X7.mono
   have im4 := @Xad.mono
   exact mz5
  ·intro y0 y1 y2 y3 y4 y5 y6
   unfold tight_form.l0
   have im0 := @Xah.mono
   have im1 := @array_Kids.mono
   have im2 := @X2.mono
   have im3 := @X7.mono
   have im4 := @Xad.mono
   exact mz5
theorem tight_form.mono : ∀ a0 k, LeO (tight_form.f k a0) (tight_form.f (k + 1) a0) := by
 intro a0 k
 obtain ⟨ih0, ih1⟩ := tight_form.mono_l k
 exact ih0 a0
def tight_form.T16 : Bool × List (List Nat × List Nat) := (true, [([], []), ([0], [0]), ([], []), ([2], [2]), ([1, 3, 3], [1, 3]), ([4], [4]), ([5], [5]), ([5], [5]), ([], []), ([8, 6, 4, 0, 1, 2, 3, 4, 5, 6, 8], [6, 8]), ([7, 9, 0, 1, 2, 3, 4, 5, 6, 7, 8, 9], [7])])
def tight_form.B16 : List Nat := [0, 1, 0, 4, 15, 31, 63, 63, 0, 383, 1023]
theorem tight_form.tab16 : Xch .any (opsOf Try.f27 16) = tight_form.T16 := J17
theorem tight_form.bits16 : Xcf tight_form.T16.2 tight_form.B16 = true := J17
set_option maxHeartbeats 8000000 in
set_option maxRecDepth 100000 in
theorem tight_form.calls (k : Nat) : ∀ (P0_ : Nat → Prop) (A0 : Option Addr) (c0 : Nat) (l0 : List (S30)) (r : List (S30)) (w : World) (hs0 : Kd.V k30 30 w w.heap.size (fun k_ => P0_ k_) (.slice A0 l0.length c0) l0) (h : tight_form.f k l0 = some r),
  Calls Try.prog 27 #[.slice A0 l0.length c0] w fun e w' => ∃ v0_ : Value, e = .returned (v0_) ∧ Kd.N (kW w.heap.size) 30 w' w.heap.size (fun k_ => (P0_ k_ ∨ w.heap.size ≤ k_)) v0_ r ∧ Below w.heap.size w w' := by
 induction k using Nat.strongRecOn with
 | _ k ih =>
 intro P0_ A0 c0 l0 r w hs0 h
 cases k with
 | zero => exact absurd h (by simp [tight_form.f])
 | succ k =>
 simp only [tight_form.f] at h
 have hu30 := Try.underlying30
 have HO0 := zq (show Kd.V k30 30 w w.heap.size (fun k_ => (P0_ k_ ∨ w.heap.size ≤ k_)) (.slice A0 l0.length c0) l0 from aj hs0 (fun k_ hk => .inl hk))
 have HB := zq (Below.refl w.heap.size w)
 have H : (if 0 < (l0.length : Int) then (if ((Xa l0 0).f0) = 3 then ((Xb3.f l0).bind fun t283 => (some t283)) else (if ((Xa l0 0).f0) = 5 then ((array_Kids.f k l0).bind fun t286 => (tight_form.l0 k t286 (t286.length : Int) 0 ((Xa l0 0).f0) ((Xa l0 0).f1) ((Xa l0 0).f2) ((Xa l0 0).f3))) else ((Xad.f k ((Xa l0 0).f0) ((Xa l0 0).f1) ((Xa l0 0).f2) ((Xa l0 0).f3)).bind fun t321 => ((X2.f k ((Xa l0 0).f1) t321).bind fun bt324 => (some (([(⟨bt324.1, bt324.2.1, bt324.2.2.1, bt324.2.2.2.1⟩ : S30)] : List (S30)))))))) else (none)) = some r := h
 clear h
 refine yi H ?_; clear H; intro c2 H
 have c2b0 := decide_eq_true c2
 have c2b1 : decide (0 < l0.length) = true := decide_eq_true J29
 clear c2
 refine yF H ?_ ?_ <;> clear H <;> rintro ⟨c3b0, c3b1, c3⟩ H
 ·clear c3
  refine yv H ?_; clear H; rintro t283 A4 H
  obtain rfl := yo H
  have p281 : 0 ≤ (0 : Int) := J29
  have q281 : 0 < (l0.length : Int) := of_decide_eq_true J2
  obtain ⟨ad281, A281_1, c281_1, A281_2, c281_2, A281_3, c281_3, e281, hx281_0, hx281_1, hx281_2, hx281_3, hl281_1, hi281_1, hl281_2, hi281_2, hl281_3, hi281_3⟩ := Xb4 (av HO0.out).2.2 0 p281 q281
  cases e281
  obtain ⟨ce281, hce281, hMe281, hcc281⟩ := bW HO0.out z30 0 p281 J131
  obtain ⟨ua281_1, uc281_1, ua281_2, uc281_2, ua281_3, uc281_3, rfl, ul281_1, ge281_1, ul281_2, ge281_2, ul281_3, ge281_3⟩ := Xca hMe281
  have hv281_1 := hcc281 1 _ rfl
  rw [Xa1 _ _ 1 J29] at hv281_1
  replace hv281_1 := Option.some.inj (hv281_1.symm.trans hx281_1)
  injection hv281_1 with hva_ hvn_ hvc_
  rw [hva_] at ge281_1
  rw [hvc_] at ul281_1
  have HL281_1 := zq (show Kd.V (Kd.int .i64) 3 _ w.heap.size _ _ ((Xa l0 0).f1) from be ul281_1 ge281_1)
  clear hva_ hvn_ hvc_ ge281_1 ul281_1
  have hv281_2 := hcc281 2 _ rfl
  rw [Xa1 _ _ 2 J29] at hv281_2
  replace hv281_2 := Option.some.inj (hv281_2.symm.trans hx281_2)
  injection hv281_2 with hva_ hvn_ hvc_
  rw [hva_] at ge281_2
  rw [hvc_] at ul281_2
  have HL281_2 := zq (show Kd.V (Kd.int .i64) 3 _ w.heap.size _ _ ((Xa l0 0).f2) from be ul281_2 ge281_2)
  clear hva_ hvn_ hvc_ ge281_2 ul281_2
  have hv281_3 := hcc281 3 _ rfl
  rw [Xa1 _ _ 3 J29] at hv281_3
  replace hv281_3 := Option.some.inj (hv281_3.symm.trans hx281_3)
  injection hv281_3 with hva_ hvn_ hvc_
  rw [hva_] at ge281_3
  rw [hvc_] at ul281_3
  have HL281_3 := zq (show Kd.V k38 38 _ w.heap.size _ _ ((Xa l0 0).f3) from be ul281_3 ge281_3)
  clear hva_ hvn_ hvc_ ge281_3 ul281_3
  clear hcc281 hce281
  have qi281 : (0 < l0.length) = True := eq_true J29
  (try rw [show ((0 : Int)).toNat = 0 from rfl] at hx281_0)
  (try rw [show 0 * 4 = 0 from rfl] at hx281_0)
  (try rw [Addr.add_zero'] at hx281_0)
  (try rw [show ((0 : Int)).toNat = 0 from rfl] at hx281_1)
  (try rw [show 0 * 4 = 0 from rfl] at hx281_1)
  (try rw [Addr.add_zero'] at hx281_1)
  (try rw [show ((0 : Int)).toNat = 0 from rfl] at hx281_2)
  (try rw [show 0 * 4 = 0 from rfl] at hx281_2)
  (try rw [Addr.add_zero'] at hx281_2)
  (try rw [show ((0 : Int)).toNat = 0 from rfl] at hx281_3)
  (try rw [show 0 * 4 = 0 from rfl] at hx281_3)
  (try rw [Addr.add_zero'] at hx281_3)
  have HR281_1 := zq hi281_1
  have HW281_1 := HR281_1
  have HC281_1 := zq hl281_1
  clear hi281_1 hl281_1
  have HR281_2 := zq hi281_2
  have HW281_2 := HR281_2
  have HC281_2 := zq hl281_2
  clear hi281_2 hl281_2
  have HR281_3 := zq hi281_3
  have HW281_3 := HR281_3
  have HC281_3 := zq hl281_3
  clear hi281_3 hl281_3
  replace p281 := eq_true p281
  replace q281 := eq_true q281
  go_enter Try.func27, Try.ntmps27
  go_wp2_with (first | ((with_reducible refine Xj (N := 3) rfl ?_); refine bxw 3 30 #[.int .i64 0, .slice none 0 0, .slice none 0 0, .slice none 0 0] ?_; intro gb282 hg w5 hbox hb; replace HO0 := zq (ax (aE (zv HO0.out) gb282 (Nat.le_of_eq hg.symm)) hb); replace HR281_1 := zq (ac J71 hb); replace HL281_1 := zq (ax (aE (zv HL281_1.out) gb282 (Nat.le_of_eq hg.symm)) hb); replace HR281_2 := zq (ac J72 hb); replace HL281_2 := zq (ax (aE (zv HL281_2.out) gb282 (Nat.le_of_eq hg.symm)) hb); replace HR281_3 := zq (ac J73 hb); replace HL281_3 := zq (ax (aE (zv HL281_3.out) gb282 (Nat.le_of_eq hg.symm)) hb); have BK282 := zq (hbox); have GE282 := zq ((J22 : w.heap.size ≤ gb282)); replace HB := zq (Xe J0 hb); clear hb hbox hg; have Z6 := cz4 BK282.out) | ((first | ((with_reducible refine Xi (f := 45) rfl ?_); refine Xbz (some 18) rfl rfl Try.func45 J17 rfl #[.slice (some ad281) l0.length c0] rfl J3 ?_) | go_at_call 45); (with_reducible refine (Xb3.calls _ _ l0 t283 _ ?side1 ?side2 A4.out).mono ?_); (case side1 => refine (av (e := 30) (base := w.heap.size) (ok := fun k_ => ((P0_ k_ ∨ w.heap.size ≤ k_) ∧ k_ ≠ gb282)) (n := l0.length) (c := c0) ?_).2.2; exact J177); (case side2 => exact (av HO0.out).2.1); rintro e w7 ⟨v284, rfl, ho0, hb⟩; (try refine ⟨_, rfl, ?_⟩); replace HO0 := zq (am J177 (ao (cG (kW_R (cr (bm ho0)) (Xc (zs1 GE282.out))))) hb); have HO285 := zq (aH (ap (ok' := fun k_ => (P0_ k_ ∨ w.heap.size ≤ k_) ∧ k_ ≠ gb282) (cG (kW_R (cr (bm ho0)) (Xc (zs1 GE282.out)))) (fun k_ hk_ => ⟨(.inr (Nat.le_trans (Xc (zs1 GE282.out)) hk_.2.1)), (Kd.freshB (g := gb282) (o := .cells #[.int .i64 ((Xa l0 0).f0), .slice A281_1 ((Xa l0 0).f1).length c281_1, .slice A281_2 ((Xa l0 0).f2).length c281_2, .slice A281_3 ((Xa l0 0).f3).length c281_3] 30 (0, 0)) J15 k_ hk_.2.1)⟩)) (Xc (zs1 GE282.out))); replace HR281_1 := zq (ac ((av J166).2.2) hb); replace HL281_1 := zq (am J166 (ao (cG (kW_R (cr (bm ho0)) (Xc (zs1 GE282.out))))) hb); replace HR281_2 := zq (ac ((av J167).2.2) hb); replace HL281_2 := zq (am J167 (ao (cG (kW_R (cr (bm ho0)) (Xc (zs1 GE282.out))))) hb); replace HR281_3 := zq (ac ((av J168).2.2) hb); replace HL281_3 := zq (am J168 (ao (cG (kW_R (cr (bm ho0)) (Xc (zs1 GE282.out))))) hb); replace BK282 := zq (Xg (g := gb282) (o := .cells #[.int .i64 ((Xa l0 0).f0), .slice A281_1 ((Xa l0 0).f1).length c281_1, .slice A281_2 ((Xa l0 0).f2).length c281_2, .slice A281_3 ((Xa l0 0).f3).length c281_3] 30 (0, 0)) J15 hb); replace HB := zq (Xe (zs1 GE282.out) hb); (try clear hb); (try clear hk); (try clear ho0)))
  go_ret
  exact ⟨_, J1, by (with_reducible repeat (first | apply Kd.N_alloc | apply Kd.N_drewN | apply aC)); exact ap HO285.out (fun _ hk => hk.1), J70⟩
 refine yF H ?_ ?_ <;> clear H <;> rintro ⟨c8b0, c8b1, c8⟩ H
 ·clear c8
  refine yv H ?_; clear H; rintro t286 A9 H
  have H' := zq H
  clear H
  have p281 : 0 ≤ (0 : Int) := J29
  have q281 : 0 < (l0.length : Int) := of_decide_eq_true J2
  obtain ⟨ad281, A281_1, c281_1, A281_2, c281_2, A281_3, c281_3, e281, hx281_0, hx281_1, hx281_2, hx281_3, hl281_1, hi281_1, hl281_2, hi281_2, hl281_3, hi281_3⟩ := Xb4 (av HO0.out).2.2 0 p281 q281
  cases e281
  obtain ⟨ce281, hce281, hMe281, hcc281⟩ := bW HO0.out z30 0 p281 J131
  obtain ⟨ua281_1, uc281_1, ua281_2, uc281_2, ua281_3, uc281_3, rfl, ul281_1, ge281_1, ul281_2, ge281_2, ul281_3, ge281_3⟩ := Xca hMe281
  have hv281_1 := hcc281 1 _ rfl
  rw [Xa1 _ _ 1 J29] at hv281_1
  replace hv281_1 := Option.some.inj (hv281_1.symm.trans hx281_1)
  injection hv281_1 with hva_ hvn_ hvc_
  rw [hva_] at ge281_1
  rw [hvc_] at ul281_1
  have HL281_1 := zq (show Kd.V (Kd.int .i64) 3 _ w.heap.size _ _ ((Xa l0 0).f1) from be ul281_1 ge281_1)
  clear hva_ hvn_ hvc_ ge281_1 ul281_1
  have hv281_2 := hcc281 2 _ rfl
  rw [Xa1 _ _ 2 J29] at hv281_2
  replace hv281_2 := Option.some.inj (hv281_2.symm.trans hx281_2)
  injection hv281_2 with hva_ hvn_ hvc_
  rw [hva_] at ge281_2
  rw [hvc_] at ul281_2
  have HL281_2 := zq (show Kd.V (Kd.int .i64) 3 _ w.heap.size _ _ ((Xa l0 0).f2) from be ul281_2 ge281_2)
  clear hva_ hvn_ hvc_ ge281_2 ul281_2
  have hv281_3 := hcc281 3 _ rfl
  rw [Xa1 _ _ 3 J29] at hv281_3
  replace hv281_3 := Option.some.inj (hv281_3.symm.trans hx281_3)
  injection hv281_3 with hva_ hvn_ hvc_
  rw [hva_] at ge281_3
  rw [hvc_] at ul281_3
  have HL281_3 := zq (show Kd.V k38 38 _ w.heap.size _ _ ((Xa l0 0).f3) from be ul281_3 ge281_3)
  clear hva_ hvn_ hvc_ ge281_3 ul281_3
  clear hcc281 hce281
  have qi281 : (0 < l0.length) = True := eq_true J29
  (try rw [show ((0 : Int)).toNat = 0 from rfl] at hx281_0)
  (try rw [show 0 * 4 = 0 from rfl] at hx281_0)
  (try rw [Addr.add_zero'] at hx281_0)
  (try rw [show ((0 : Int)).toNat = 0 from rfl] at hx281_1)
  (try rw [show 0 * 4 = 0 from rfl] at hx281_1)
  (try rw [Addr.add_zero'] at hx281_1)
  (try rw [show ((0 : Int)).toNat = 0 from rfl] at hx281_2)
  (try rw [show 0 * 4 = 0 from rfl] at hx281_2)
  (try rw [Addr.add_zero'] at hx281_2)
  (try rw [show ((0 : Int)).toNat = 0 from rfl] at hx281_3)
  (try rw [show 0 * 4 = 0 from rfl] at hx281_3)
  (try rw [Addr.add_zero'] at hx281_3)
  have HR281_1 := zq hi281_1
  have HW281_1 := HR281_1
  have HC281_1 := zq hl281_1
  clear hi281_1 hl281_1
  have HR281_2 := zq hi281_2
  have HW281_2 := HR281_2
  have HC281_2 := zq hl281_2
  clear hi281_2 hl281_2
  have HR281_3 := zq hi281_3
  have HW281_3 := HR281_3
  have HC281_3 := zq hl281_3
  clear hi281_3 hl281_3
  replace p281 := eq_true p281
  replace q281 := eq_true q281
  go_enter Try.func27, Try.ntmps27
  go_wp2_with (first | ((with_reducible refine Xj (N := 3) rfl ?_); refine bxw 3 30 #[.int .i64 0, .slice none 0 0, .slice none 0 0, .slice none 0 0] ?_; intro gb282 hg w10 hbox hb; replace HO0 := zq (ax (aE (zv HO0.out) gb282 (Nat.le_of_eq hg.symm)) hb); replace HR281_1 := zq (ac J71 hb); replace HL281_1 := zq (ax (aE (zv HL281_1.out) gb282 (Nat.le_of_eq hg.symm)) hb); replace HR281_2 := zq (ac J72 hb); replace HL281_2 := zq (ax (aE (zv HL281_2.out) gb282 (Nat.le_of_eq hg.symm)) hb); replace HR281_3 := zq (ac J73 hb); replace HL281_3 := zq (ax (aE (zv HL281_3.out) gb282 (Nat.le_of_eq hg.symm)) hb); have BK282 := zq (hbox); have GE282 := zq ((J22 : w.heap.size ≤ gb282)); replace HB := zq (Xe J0 hb); clear hb hbox hg; have Z11 := cz4 BK282.out) | ((with_reducible refine Xct (t := 30) (p := 3) rfl ?_); refine Xcl (t := 30) (p := 3) (v := ?vo_w12) (w1 := ((((w10.setCell ⟨gb282, 0, none⟩ (.int .i64 ((Xa l0 0).f0))).setCell ⟨gb282, 1, none⟩ (.slice A281_1 ((Xa l0 0).f1).length c281_1)).setCell ⟨gb282, 2, none⟩ (.slice A281_2 ((Xa l0 0).f2).length c281_2)).setCell ⟨gb282, 3, none⟩ (.slice A281_3 ((Xa l0 0).f3).length c281_3))) ?hg ?ho ?hn ?hr ?_; (case ho => rfl); (case hg => rfl); (case hn => rfl); (case hr => first | (go_simp; done) | (go_simp; rfl)); intro w12 hw; have n0_ : Aside0 (Kd.V k30 30 w12 w.heap.size (fun k_ => (P0_ k_ ∨ w.heap.size ≤ k_) ∧ k_ ≠ gb282) (.slice (some ad281) l0.length c0) l0) := ⟨(by rw [hw]; exact (by (with_reducible repeat (first | apply Kd.V_alloc | apply Kd.V_drewN | apply aA)); exact aj (fV4 (aj HO0.out (fun k_ hk => (⟨hk, hk.2⟩ : _ ∧ k_ ≠ gb282)))) (fun _ hk => ⟨hk.1.1, hk.1.2⟩)))⟩; have n1_ : Aside0 (Kd.V (Kd.int .i64) 3 w12 w.heap.size (fun k_ => (P0_ k_ ∨ w.heap.size ≤ k_) ∧ k_ ≠ gb282) (.slice A281_1 ((Xa l0 0).f1).length c281_1) ((Xa l0 0).f1)) := ⟨(by rw [hw]; exact (by (with_reducible repeat (first | apply Kd.V_alloc | apply Kd.V_drewN | apply aA)); exact aj (fV4 (aj HL281_1.out (fun k_ hk => (⟨hk, hk.2⟩ : _ ∧ k_ ≠ gb282)))) (fun _ hk => ⟨hk.1.1, hk.1.2⟩)))⟩; have n2_ : Aside0 (Kd.V (Kd.int .i64) 3 w12 w.heap.size (fun k_ => (P0_ k_ ∨ w.heap.size ≤ k_) ∧ k_ ≠ gb282) (.slice A281_2 ((Xa l0 0).f2).length c281_2) ((Xa l0 0).f2)) := ⟨(by rw [hw]; exact (by (with_reducible repeat (first | apply Kd.V_alloc | apply Kd.V_drewN | apply aA)); exact aj (fV4 (aj HL281_2.out (fun k_ hk => (⟨hk, hk.2⟩ : _ ∧ k_ ≠ gb282)))) (fun _ hk => ⟨hk.1.1, hk.1.2⟩)))⟩; have n3_ : Aside0 (Kd.V k38 38 w12 w.heap.size (fun k_ => (P0_ k_ ∨ w.heap.size ≤ k_) ∧ k_ ≠ gb282) (.slice A281_3 ((Xa l0 0).f3).length c281_3) ((Xa l0 0).f3)) := ⟨(by rw [hw]; exact (by (with_reducible repeat (first | apply Kd.V_alloc | apply Kd.V_drewN | apply aA)); exact aj (fV4 (aj HL281_3.out (fun k_ hk => (⟨hk, hk.2⟩ : _ ∧ k_ ≠ gb282)))) (fun _ hk => ⟨hk.1.1, hk.1.2⟩)))⟩; have n4_ : Aside0 (w12.heap[gb282]? = some (.cells #[.int .i64 ((Xa l0 0).f0), .slice A281_1 ((Xa l0 0).f1).length c281_1, .slice A281_2 ((Xa l0 0).f2).length c281_2, .slice A281_3 ((Xa l0 0).f3).length c281_3] 30 (0, 0))) := ⟨(by rw [hw]; exact J15)⟩; have n5_ : Aside0 (Below w.heap.size w w12) := ⟨(by rw [hw]; exact (zs1 GE282.out))⟩; clear hw; clear HO0; clear HL281_1; clear HL281_2; clear HL281_3; clear BK282; clear HB; have HO0 := n0_; have HL281_1 := n1_; have HL281_2 := n2_; have HL281_3 := n3_; have BK282 := n4_; have HB := n5_; clear n0_ n1_ n2_ n3_ n4_ n5_; have Z13 := cz4 BK282.out) | ((first | ((with_reducible refine Xi (f := 49) rfl ?_); refine Xbz (some 22) rfl rfl Try.func49 J17 rfl #[.slice (some ad281) l0.length c0] rfl J3 ?_) | go_at_call 49); (with_reducible refine (array_Kids.calls0 k (fun k_ => ((P0_ k_ ∨ w.heap.size ≤ k_) ∧ k_ ≠ gb282)) _ _ l0 t286 _ ?side1 A9.out).mono ?_); (case side1 => exact HO0.out); rintro e w14 ⟨v287, rfl, ho0, hb⟩; have ho0 := cG (kWs_R ho0 (Xc (zs1 GE282.out))); (try refine ⟨_, rfl, ?_⟩); replace HO0 := zq (am (zv HO0.out) (ao ho0) hb); have HO288 := zq (aH (ap (ok' := fun k_ => (P0_ k_ ∨ w.heap.size ≤ k_) ∧ k_ ≠ gb282) ho0 (fun k_ hk_ => ⟨(.inr (Nat.le_trans (Xc (zs1 GE282.out)) hk_)), (Kd.freshB (g := gb282) (o := .cells #[.int .i64 ((Xa l0 0).f0), .slice A281_1 ((Xa l0 0).f1).length c281_1, .slice A281_2 ((Xa l0 0).f2).length c281_2, .slice A281_3 ((Xa l0 0).f3).length c281_3] 30 (0, 0)) (zk BK282.out) k_ hk_)⟩)) (Xc (zs1 GE282.out))); replace HR281_1 := zq (ac J71 hb); replace HL281_1 := zq (am (zv HL281_1.out) (ao ho0) hb); replace HR281_2 := zq (ac J72 hb); replace HL281_2 := zq (am (zv HL281_2.out) (ao ho0) hb); replace HR281_3 := zq (ac J73 hb); replace HL281_3 := zq (am (zv HL281_3.out) (ao ho0) hb); replace BK282 := zq (Xg (zk BK282.out) hb); replace HB := zq (Xe (zs1 GE282.out) hb); (try clear hb); (try clear hk); (try clear ho0); obtain ⟨Ao15, co15, eo15⟩ := aJ HO288.out; subst eo15))
  go_loopg [25] k (fun kq v25 w' => ∃ (x4_1 : List (List (S30))) (x25_1 : Int), v25 = .int .i64 x25_1 ∧ Aside0 (tight_form.l0 kq x4_1 (t286.length : Int) x25_1 ((Xa l0 0).f0) ((Xa l0 0).f1) ((Xa l0 0).f2) ((Xa l0 0).f3) = some r) ∧ Aside0 (kq ≤ k) ∧ Aside0 (Kd.N (Kd.slice 30 (kW w.heap.size)) 22 w' w.heap.size (fun k_ => (P0_ k_ ∨ w.heap.size ≤ k_) ∧ k_ ≠ gb282) (.slice Ao15 t286.length co15) x4_1) ∧ Aside0 (w'.heap[gb282]? = some (.cells #[.int .i64 ((Xa l0 0).f0), (.slice A281_1 ((Xa l0 0).f1).length c281_1), (.slice A281_2 ((Xa l0 0).f2).length c281_2), (.slice A281_3 ((Xa l0 0).f3).length c281_3)] 30 (0, 0))) ∧ Aside0 (Below w.heap.size w w'))
  case atStart => exact ⟨(t286), (0), J4, H', ⟨Nat.le_refl _⟩, ⟨by (with_reducible repeat (first | apply Kd.N_alloc | apply Kd.N_drewN | apply aC)); exact HO288.out⟩, ⟨by (with_reducible repeat (first | refine Xd ?_ _ | refine Xf ?_ | refine Xb ?_ _)); exact BK282.out⟩, ⟨J70⟩⟩
  case round =>
   clear H'
   try clear c2
   try clear c2b0
   try clear c2b1
   try clear c3
   try clear c3b0
   try clear c3b1
   try clear c8
   try clear c8b0
   try clear c8b1
   try clear Z11
   try clear Z13
   try clear hx281_0
   try clear hx281_1
   try clear hx281_2
   try clear hx281_3
   try clear p281
   try clear q281
   obtain ⟨x4_1, x25_1, rfl, HA, HK1, HO_4, BK282, HB⟩ := hrel
   have hl4_1 := (ar HO_4.out).1
   rw [hl4_1] at HO_4
   (try simp only [hl4_1])
   (try simp only [hl4_1] at BK282)
   cases gk with
   | zero => exact absurd HA.out (by simp [tight_form.l0])
   | succ k1 =>
    have H := HA.out
    clear HA
    simp only [tight_form.l0] at H
    refine yu H ?_ ?_ <;> clear H <;> rintro c16 H
    ·have c16b0 : decide (x25_1 < (t286.length : Int)) = true := decide_eq_true c16
     clear c16
     refine yu H ?_ ?_ <;> clear H <;> rintro c17 H
     ·have c17b0 : decide (0 ≤ x25_1) = true := decide_eq_true c17
      clear c17
      refine yu H ?_ ?_ <;> clear H <;> rintro c18 H
      ·have c18b0 : decide (x25_1 < (x4_1.length : Int)) = true := decide_eq_true c18
       clear c18
       refine yv H ?_; clear H; rintro t290 A19 H
       obtain ⟨y293, hy293⟩ : ∃ y_ : List (List (S30)), y_ = (x4_1.set (x25_1 : Int).toNat t290) := ⟨_, rfl⟩
       rw (occs := .pos [1]) [← hy293] at H
       have Ny293 := zq hy293
       clear hy293
       have H' := zq H
       clear H
       have p289 : 0 ≤ (x25_1 : Int) := of_decide_eq_true J2
       have q289 : x25_1 < (x4_1.length : Int) := of_decide_eq_true J2
       obtain ⟨ad289, A289_0, c289_0, e289, hx289_0, hl289_0, hi289_0⟩ := at_L5 (kWs_C (ar HO_4.out).2.2) x25_1 p289 q289
       cases e289
       obtain ⟨ce289, hce289, hMe289, hcc289⟩ := bM HO_4.out [] x25_1 p289 (by first | exact q289 | exact of_decide_eq_true J2 | (have e_ := (ar HO_4.out).1; omega))
       obtain ⟨ua289_0, uc289_0, rfl, ul289_0, ge289_0⟩ := bg hMe289
       have hv289_0 := hcc289 0 _ rfl
       rw [Nat.add_zero, show ((Kd.slice 30 (kW w.heap.size))).sz = 1 from rfl, Nat.mul_one] at hv289_0
       replace hv289_0 := Option.some.inj (hv289_0.symm.trans hx289_0)
       injection hv289_0 with hva_ hvn_ hvc_
       rw [hva_] at ge289_0
       rw [hvc_] at ul289_0
       have HL289_0 := zq (show Kd.V k30 30 _ w.heap.size _ _ (Xa5 x4_1 x25_1) from be ul289_0 (kW_F ge289_0))
       clear hva_ hvn_ hvc_ ge289_0 ul289_0
       clear hcc289 hce289
       have HR289_0 := zq hi289_0
       have HW289_0 := HR289_0
       have HC289_0 := zq hl289_0
       clear hi289_0 hl289_0
       replace p289 := eq_true p289
       replace q289 := eq_true q289
       go_wp2_with (first | ((first | ((with_reducible refine Xi (f := 27) rfl ?_); refine Xbz (some 34) rfl rfl Try.func27 J17 rfl #[.slice A289_0 (Xa5 x4_1 x25_1).length c289_0] rfl J3 ?_) | go_at_call 27); (with_reducible refine (ih k1 J84 (fun k_ => (((P0_ k_ ∨ w.heap.size ≤ k_) ∧ k_ ≠ gb282) ∧ some k_ ≠ (.slice (some ad289) x4_1.length co15 : Value).ownBlock)) _ _ (Xa5 x4_1 x25_1) t290 _ ?side1 A19.out).mono ?_); (case side1 => exact HL289_0.out); rintro e w21 ⟨v291, rfl, ho0, hb⟩; replace ho0 := kW_le ho0 (Xc (zs1 GE282.out)); obtain ⟨Az_, cz_, ez_⟩ := aJ ho0; subst ez_; (try refine ⟨_, rfl, ?_⟩); have HO292 := zq (aH (ap (ok' := fun k_ => (P0_ k_ ∨ w.heap.size ≤ k_) ∧ some k_ ≠ (.slice (some ad289) x4_1.length co15 : Value).ownBlock ∧ k_ ≠ gb282) ho0 (fun k_ hk_ => ⟨Or.elim hk_ (fun hs_ => hs_.1.1) (fun hn_ => (.inr (Nat.le_trans (Xc (zs1 GE282.out)) hn_))), Or.elim hk_ (fun hs_ => hs_.2) (fun hn_ => (Kd.fresh' (bE (zn HO_4.out)) k_ hn_)), Or.elim hk_ (fun hs_ => hs_.1.2) (fun hn_ => (Kd.freshB (g := gb282) (o := .cells #[.int .i64 ((Xa l0 0).f0), .slice A281_1 ((Xa l0 0).f1).length c281_1, .slice A281_2 ((Xa l0 0).f2).length c281_2, .slice A281_3 ((Xa l0 0).f3).length c281_3] 30 (0, 0)) (zk BK282.out) k_ hn_))⟩)) (Xc (zs1 GE282.out))); replace HO_4 := zq (ae (zn HO_4.out) (ao ho0) hb); replace BK282 := zq (Xg (zk BK282.out) hb); replace HB := zq (Xe (zs1 GE282.out) hb); (try clear hb); (try clear hk); (try clear ho0); have p20 : 0 ≤ (x25_1 : Int) := of_decide_eq_true J2; have q20 : (x25_1 : Int) < ((x4_1.length : Int) : Int) := of_decide_eq_true J2; obtain ⟨go20, co20, eo20, gb20, gl20, cl20, HG20⟩ := Kd.N_form HO_4.out J29; (first | cases eo20 | (injection eo20 with ea_ en_ ec_; (first | subst ea_ | (injection ea_ with ea_; subst ea_)); subst ec_; clear en_)); have GB20 := zq gb20; have GG20 := zq HG20; clear gb20 gl20 HG20; (first | simp only [Xcv] at hx289_0 | skip); obtain ⟨ce20, hcl20, hM20, hcc20, hfr20⟩ := cd HO_4.out [] (x25_1 : Int) p20 q20; obtain ⟨ua20_0, uc20_0, rfl, ul20_0, ge20_0⟩ := bg hM20; have hx20_0 := hcc20 0 _ rfl; have hf20_0 := hfr20 0; (try simp only [show ((Kd.slice 30 (kW w.heap.size))).sz = 1 from rfl, Nat.mul_one, Nat.add_zero] at hx20_0); (try simp only [show ((Kd.slice 30 (kW w.heap.size))).sz = 1 from rfl, Nat.mul_one, Nat.add_zero] at hf20_0); clear hcl20 hcc20 hfr20 hM20; replace p20 := eq_true p20; replace q20 := eq_true q20; have n_ := zq (ap (ok' := (fun k_ => (P0_ k_ ∨ w.heap.size ≤ k_) ∧ some k_ ≠ ((Value.slice Az_ t290.length cz_) : Value).ownBlock ∧ k_ ≠ gb282)) HO_4.out (fun k_ hk => ⟨hk.1.1, ⟨hk.2, hk.1.2⟩⟩)); clear HO_4; have HO_4 := n_; clear n_; have HX22 := zq (show Kd.N (Kd.slice 30 (kW w.heap.size)) 22 w21 w.heap.size (fun k_ => (P0_ k_ ∨ w.heap.size ≤ k_) ∧ k_ ≠ gb282) (.slice (some ⟨go20, 0, none⟩) x4_1.length co15) x4_1 from (by (with_reducible repeat (first | apply Kd.N_alloc | apply Kd.N_drewN | apply aC)); exact ap HO_4.out (fun _ hk => ⟨hk.1, hk.2.2⟩))); obtain ⟨ce22, hcl22, hM22, hcc22, hfr22⟩ := cd HX22.out [] (x25_1 : Int) (of_decide_eq_true J2) J141; obtain ⟨ua22_0, uc22_0, rfl, ul22_0, ge22_0⟩ := bg hM22; have HP22 := Kd.N_seg HX22.out (x25_1 : Int) (of_decide_eq_true J2) J141 (seg := [(Value.slice Az_ t290.length cz_)]) (j := 0) hcl22 hcc22 (show 1 ≤ 1 from by decide) (x' := t290) (b8 (ar (ap (ok' := (fun k_ => ((fun k_ => (P0_ k_ ∨ w.heap.size ≤ k_) ∧ k_ ≠ gb282)) k_ ∧ k_ ≠ go20)) (HO292.out) (fun k_ hk => ⟨⟨hk.1, hk.2.2⟩, fun e_ => (hk.2.1) (by rw [e_]; rfl)⟩))).2.1 (Kd.N_F (ap (ok' := (fun k_ => ((fun k_ => (P0_ k_ ∨ w.heap.size ≤ k_) ∧ k_ ≠ gb282)) k_ ∧ k_ ≠ go20)) (HO292.out) (fun k_ hk => ⟨⟨hk.1, hk.2.2⟩, fun e_ => (hk.2.1) (by rw [e_]; rfl)⟩)))) (fun _ hk => hk); have hx22_0 := hcc22 0 _ rfl; (try simp only [show ((Kd.slice 30 (kW w.heap.size))).sz = 1 from rfl, Nat.mul_one, Nat.add_zero] at hx22_0); have hf22_0 := hfr22 0; (try simp only [show ((Kd.slice 30 (kW w.heap.size))).sz = 1 from rfl, Nat.mul_one, Nat.add_zero] at hf22_0); clear hcl22 hcc22 hfr22 hM22; (try simp only [show ((Kd.slice 30 (kW w.heap.size))).sz = 1 from rfl, Nat.mul_one, Nat.add_zero] at HP22); (try simp only [show ((Kd.slice 30 (kW w.heap.size))).sz = 1 from rfl, Nat.mul_one, Nat.add_zero] at HP22)) | ((with_reducible refine Xct (t := 22) (p := 35) rfl ?_); refine Xcl (t := 22) (p := 35) (v := ?vo_w23) (w1 := (w21.setCell ⟨go20, (x25_1 : Int).toNat, none⟩ ((Value.slice Az_ t290.length cz_)))) ?hg ?ho ?hn ?hr ?_; (case ho => rfl); (case hg => rfl); (case hn => rfl); (case hr => first | (go_simp; done) | (go_simp; rfl)); intro w23 hw; have hg : w21.grownBy w23 (some go20) := (by rw [hw]; exact HP22.2); have hp_ : Kd.N (Kd.slice 30 (kW w.heap.size)) 22 w23 w.heap.size (fun k_ => (P0_ k_ ∨ w.heap.size ≤ k_) ∧ k_ ≠ gb282) (.slice (some ⟨go20, 0, none⟩) x4_1.length co15) y293 := (by rw [hw, Ny293.out]; exact HP22.1); clear HP22; replace BK282 := zq (Xa9 (g := gb282) (o := .cells #[.int .i64 ((Xa l0 0).f0), .slice A281_1 ((Xa l0 0).f1).length c281_1, .slice A281_2 ((Xa l0 0).f2).length c281_2, .slice A281_3 ((Xa l0 0).f3).length c281_3] 30 (0, 0)) (zk BK282.out) hg (Kd.N_ne HO_4.out BK282.out J14)); replace HO_4 := zq (hp_); replace HB := zq ((by rw [hw]; exact X0 (HB.out) GB20.out : Below w.heap.size w w23)); clear HO292; clear hg hw hp_))
       (try simp only [← hl4_1])
       go_roundg k1
       case measure => have := HK1.out; omega
       case rel => exact ⟨(y293), (wrap64 (x25_1 + 1)), J4, H', ⟨J84⟩, ⟨by (try simp only [hl4_1]); (with_reducible repeat (first | apply Kd.N_alloc | apply Kd.N_drewN | apply aC)); exact HO_4.out⟩, ⟨by (try simp only [hl4_1]); (with_reducible repeat (first | refine Xd ?_ _ | refine Xf ?_ | refine Xb ?_ _)); exact BK282.out⟩, ⟨J70⟩⟩
      ·exact absurd H J83
     ·exact absurd H J83
    ·have c16b0 : decide (x25_1 < (t286.length : Int)) = false := decide_eq_false c16
     have c16b0x : decide (x25_1 < (x4_1.length : Int)) = false := by rw [← hl4_1]; exact c16b0
     clear c16
     refine yv H ?_; clear H; rintro ⟨t294, t295, t298, t301, t304⟩ A24 H
     dsimp only at H
     refine yC H ?_ ?_ <;> clear H <;> rintro rfl H
     ·refine yS H ?_; clear H; rintro y306 Ny306 H
      obtain rfl := yo H
      have Z26 := cz4 BK282.out
      go_wp2_with (first | ((first | ((with_reducible refine Xi (f := 50) rfl ?_); refine Xbz (some 41) rfl rfl Try.func50 J17 rfl #[.slice A281_1 ((Xa l0 0).f1).length c281_1, .slice Ao15 x4_1.length co15] rfl J3 ?_) | go_at_call 50); (with_reducible refine (X7.calls k1 _ _ ((Xa l0 0).f1) _ _ x4_1 t294 t295 t298 t301 true _ ?side1 ?side2 ?side3 ?side4 A24.out).mono ?_); (case side1 => repeat (first | exact (ac HW281_1.out HB.out) | exact (ac HR281_1.out HB.out) | (with_reducible refine Kd.C_alloc ?_ _) | (with_reducible refine au ?_ _) | (with_reducible refine Kd.C_drew ?_))); (case side2 => exact HC281_1.out); (case side3 => exact zc (kWs_C (ar HO_4.out).2.2)); (case side4 => exact (ar HO_4.out).2.1); rintro e w27 ⟨v296, v299, v302, rfl, ho0, ho1, ho2, hb⟩; (try refine ⟨_, rfl, ?_⟩); replace HO_4 := zq (ap (aw (aw (aw (bf (zn HO_4.out) hb) (aa ho0)) (aa ho1)) (aa ho2)) (fun _ h_ => h_.1)); have HO297 := zq (ag (aT (M := fun k_ => (w.heap.size ≤ k_)) ho0 (Xc (zs1 GE282.out)) (fun k_ h_ => h_)) (Xc (zs1 GE282.out))); have HO300 := zq (ag (aT (M := fun k_ => (w.heap.size ≤ k_)) ho1 (Xc (zs1 GE282.out)) (fun k_ h_ => h_)) (Xc (zs1 GE282.out))); have HO303 := zq (ag (aT (M := fun k_ => (w.heap.size ≤ k_)) ho2 (Xc (zs1 GE282.out)) (fun k_ h_ => h_)) (Xc (zs1 GE282.out))); replace BK282 := zq (Xg (zk BK282.out) hb); replace HB := zq (Xe (zs1 GE282.out) hb); (try clear hb); (try clear hk); (try clear ho0); (try clear ho1); (try clear ho2)) | ((with_reducible refine Xj (N := 6) rfl ?_); refine bxw 6 30 #[.int .i64 0, .slice none 0 0, .slice none 0 0, .slice none 0 0] ?_; intro gb305 hg w28 hbox hb; replace HO_4 := zq (aD (aU (zn HO_4.out) gb305 (Nat.le_of_eq hg.symm)) hb); replace HO297 := zq (ab (zr HO297.out) hb); replace HO300 := zq (ab (zr HO300.out) hb); replace HO303 := zq (ab (zr HO303.out) hb); have BK305 := zq (hbox); have GE305 := zq ((J104 : w.heap.size ≤ gb305)); replace HB := zq (Xe (zs1 GE282.out) hb); have NB282_305 := zq ((J33 : gb282 ≠ gb305)); have NB305_282 := zq ((J34 : gb305 ≠ gb282)); replace BK282 := zq (Xg (zk BK282.out) hb); clear hb hbox hg; have hnb29 := NB305_282.out; have hnc29 := NB282_305.out; have Z30 := cz4 BK305.out; obtain ⟨Ao31, co31, eo31⟩ := ah HO297.out; subst eo31; obtain ⟨Ao32, co32, eo32⟩ := ah HO300.out; subst eo32; obtain ⟨Ao33, co33, eo33⟩ := ah HO303.out; subst eo33) | ((with_reducible refine Xct (t := 30) (p := 6) rfl ?_); refine Xcl (t := 30) (p := 6) (v := ?vo_w34) (w1 := ((((w28.setCell ⟨gb305, 0, none⟩ (.int .i64 t294)).setCell ⟨gb305, 1, none⟩ (.slice Ao31 t295.length co31)).setCell ⟨gb305, 2, none⟩ (.slice Ao32 t298.length co32)).setCell ⟨gb305, 3, none⟩ (.slice Ao33 t301.length co33))) ?hg ?ho ?hn ?hr ?_; (case ho => rfl); (case hg => rfl); (case hn => rfl); (case hr => first | (go_simp; done) | (go_simp; rfl)); intro w34 hw; have n0_ : Aside0 (Kd.N (Kd.slice 30 (kW w.heap.size)) 22 w34 w.heap.size (fun k_ => (P0_ k_ ∨ w.heap.size ≤ k_) ∧ some k_ ≠ (.slice Ao31 t295.length co31 : Value).ownBlock ∧ some k_ ≠ (.slice Ao32 t298.length co32 : Value).ownBlock ∧ some k_ ≠ (.slice Ao33 t301.length co33 : Value).ownBlock ∧ k_ ≠ gb282 ∧ k_ ≠ gb305) (.slice Ao15 x4_1.length co15) x4_1) := ⟨(by rw [hw]; exact (by (with_reducible repeat (first | apply Kd.N_alloc | apply Kd.N_drewN | apply aC)); exact ap (fN4 (ap HO_4.out (fun k_ hk => (⟨hk, hk.2⟩ : _ ∧ k_ ≠ gb305)))) (fun _ hk => ⟨hk.1.1.1.1.1.1, ⟨hk.1.1.1.1.2, ⟨hk.1.1.1.2, ⟨hk.1.1.2, ⟨hk.1.1.1.1.1.2, hk.1.2⟩⟩⟩⟩⟩)))⟩; have n1_ : Aside0 (Kd.R (Kd.int .i64) 3 w34 w.heap.size (fun k_ => (w.heap.size ≤ k_) ∧ some k_ ≠ (.slice Ao32 t298.length co32 : Value).ownBlock) (.slice Ao31 t295.length co31) t295) := ⟨(by rw [hw]; exact (by (with_reducible repeat (first | apply Kd.R_alloc | apply ai | apply ak)); exact af (fR4 (al HO297.out BK305.out J14)) (fun _ hk => ⟨hk.1.1, hk.1.2⟩)))⟩; have n2_ : Aside0 (Kd.R (Kd.int .i64) 3 w34 w.heap.size (fun k_ => (w.heap.size ≤ k_) ∧ some k_ ≠ (.slice Ao31 t295.length co31 : Value).ownBlock) (.slice Ao32 t298.length co32) t298) := ⟨(by rw [hw]; exact (by (with_reducible repeat (first | apply Kd.R_alloc | apply ai | apply ak)); exact af (fR4 (al HO300.out BK305.out J14)) (fun _ hk => ⟨hk.1.1, hk.1.2⟩)))⟩; have n3_ : Aside0 (Kd.R k38 38 w34 w.heap.size (fun k_ => (w.heap.size ≤ k_)) (.slice Ao33 t301.length co33) t301) := ⟨(by rw [hw]; exact (by (with_reducible repeat (first | apply Kd.R_alloc | apply ai | apply ak)); exact af (fR4 (al HO303.out BK305.out J14)) (fun _ hk => hk.1.1)))⟩; have n4_ : Aside0 (w34.heap[gb282]? = some (.cells #[.int .i64 ((Xa l0 0).f0), .slice A281_1 ((Xa l0 0).f1).length c281_1, .slice A281_2 ((Xa l0 0).f2).length c281_2, .slice A281_3 ((Xa l0 0).f3).length c281_3] 30 (0, 0))) := ⟨(by rw [hw]; exact J50)⟩; have n5_ : Aside0 (w34.heap[gb305]? = some (.cells #[.int .i64 t294, .slice Ao31 t295.length co31, .slice Ao32 t298.length co32, .slice Ao33 t301.length co33] 30 (0, 0))) := ⟨(by rw [hw]; exact (by (with_reducible repeat (first | refine Xd ?_ _ | refine Xf ?_ | refine Xb ?_ _)); refine Xk (cs := #[.int .i64 t294, .slice Ao31 t295.length co31, .slice Ao32 t298.length co32, .slice none 0 0]) ?_ 3 _ rfl; (with_reducible repeat (first | refine Xd ?_ _ | refine Xf ?_ | refine Xb ?_ _)); refine Xk (cs := #[.int .i64 t294, .slice Ao31 t295.length co31, .slice none 0 0, .slice none 0 0]) ?_ 2 _ rfl; (with_reducible repeat (first | refine Xd ?_ _ | refine Xf ?_ | refine Xb ?_ _)); refine Xk (cs := #[.int .i64 t294, .slice none 0 0, .slice none 0 0, .slice none 0 0]) ?_ 1 _ rfl; (with_reducible repeat (first | refine Xd ?_ _ | refine Xf ?_ | refine Xb ?_ _)); refine Xk (cs := #[.int .i64 0, .slice none 0 0, .slice none 0 0, .slice none 0 0]) ?_ 0 _ rfl; (with_reducible repeat (first | refine Xd ?_ _ | refine Xf ?_ | refine Xb ?_ _)); exact BK305.out))⟩; have n6_ : Aside0 (Below w.heap.size w w34) := ⟨(by rw [hw]; exact (zs2 GE282.out GE305.out))⟩; clear hw; clear HO_4; clear HO297; clear HO300; clear HO303; clear BK282; clear BK305; clear HB; have HO_4 := n0_; have HO297 := n1_; have HO300 := n2_; have HO303 := n3_; have BK282 := n4_; have BK305 := n5_; have HB := n6_; clear n0_ n1_ n2_ n3_ n4_ n5_ n6_; have Z35 := cz4 BK305.out) | ((with_reducible refine Xj (N := 46) rfl ?_); refine bF (kW w.heap.size) _ 30 ?hg (N' := 46) ?hd (xs := ([(⟨t294, t295, t298, t301⟩ : S30)] : List (S30))) (inner := [.int .i64 t294, .slice Ao31 t295.length co31, .slice Ao32 t298.length co32, .slice Ao33 t301.length co33]) (ok := (fun k_ => (P0_ k_ ∨ w.heap.size ≤ k_) ∧ some k_ ≠ (.slice Ao15 x4_1.length co15 : Value).ownBlock ∧ k_ ≠ gb282 ∧ k_ ≠ gb305)) (okp := (fun k_ => (P0_ k_ ∨ w.heap.size ≤ k_) ∧ some k_ ≠ (.slice Ao15 x4_1.length co15 : Value).ownBlock ∧ k_ ≠ gb282 ∧ k_ ≠ gb305)) ?hr ?hp (fun _ hk => hk) ((show ∀ k_, w34.heap.size ≤ k_ → (fun k_ => (P0_ k_ ∨ w.heap.size ≤ k_) ∧ some k_ ≠ (.slice Ao15 x4_1.length co15 : Value).ownBlock ∧ k_ ≠ gb282 ∧ k_ ≠ gb305) k_ from fun k_ hk => ⟨(.inr (Nat.le_trans (Xc (zs2 GE282.out GE305.out)) hk)), Kd.fresh' (bE (zn HO_4.out)) k_ hk, Kd.freshB (g := gb282) (o := .cells #[.int .i64 ((Xa l0 0).f0), .slice A281_1 ((Xa l0 0).f1).length c281_1, .slice A281_2 ((Xa l0 0).f2).length c281_2, .slice A281_3 ((Xa l0 0).f3).length c281_3] 30 (0, 0)) (zk BK282.out) k_ hk, Kd.freshB (g := gb305) (o := .cells #[.int .i64 t294, .slice Ao31 t295.length co31, .slice Ao32 t298.length co32, .slice Ao33 t301.length co33] 30 (0, 0)) (zk BK305.out) k_ hk⟩) _ (Nat.le_refl _)) (Below.refl _ _) (Nat.le_refl _) J83 ?_; (case hd => rfl); (case hg => rfl); (case hr => first | (go_simp; done) | (go_simp; rfl)); (case hp => exact (Reps.c4 (show Kd.FK (kW w.heap.size) _ _ (⟨t294, t295, t298, t301⟩ : S30) [.int .i64 t294, .slice Ao31 t295.length co31, .slice Ao32 t298.length co32, .slice Ao33 t301.length co33] from (kW_mkF _ _ (⟨t294, t295, t298, t301⟩ : S30) ((af (ok' := (fun k_ => (P0_ k_ ∨ w.heap.size ≤ k_) ∧ some k_ ≠ (.slice Ao15 x4_1.length co15 : Value).ownBlock ∧ k_ ≠ gb282 ∧ k_ ≠ gb305)) (al (al (aG (HO297.out) (aZ HO_4.out) J14) BK282.out J14) BK305.out J14) (fun k_ hk => ⟨(.inr (hk.1.1.1.1)), ⟨hk.1.1.2, ⟨hk.1.2, hk.2⟩⟩⟩))) ((af (ok' := (fun k_ => (P0_ k_ ∨ w.heap.size ≤ k_) ∧ some k_ ≠ (.slice Ao15 x4_1.length co15 : Value).ownBlock ∧ k_ ≠ gb282 ∧ k_ ≠ gb305)) (al (al (aG (HO300.out) (aZ HO_4.out) J14) BK282.out J14) BK305.out J14) (fun k_ hk => ⟨(.inr (hk.1.1.1.1)), ⟨hk.1.1.2, ⟨hk.1.2, hk.2⟩⟩⟩))) (an (af (ok' := (fun k_ => (P0_ k_ ∨ w.heap.size ≤ k_) ∧ some k_ ≠ (.slice Ao15 x4_1.length co15 : Value).ownBlock ∧ k_ ≠ gb282 ∧ k_ ≠ gb305)) (al (al (aG (HO303.out) (aZ HO_4.out) J14) BK282.out J14) BK305.out J14) (fun k_ hk => ⟨(.inr (hk.1.1.1)), ⟨hk.1.1.2, ⟨hk.1.2, hk.2⟩⟩⟩))).2.1 (Kd.R_F (af (ok' := (fun k_ => (P0_ k_ ∨ w.heap.size ≤ k_) ∧ some k_ ≠ (.slice Ao15 x4_1.length co15 : Value).ownBlock ∧ k_ ≠ gb282 ∧ k_ ≠ gb305)) (al (al (aG (HO303.out) (aZ HO_4.out) J14) BK282.out J14) BK305.out J14) (fun k_ hk => ⟨(.inr (hk.1.1.1)), ⟨hk.1.1.2, ⟨hk.1.2, hk.2⟩⟩⟩))) (Nat.le_refl _))) (Reps.none _ _))); intro v307 w36 ho37 hb hg_ hnew_; clear hg_ hnew_; (first | rw [← Ny306.out] at ho37 | (simp only [Int.reduceToNat] at ho37; rw [← Ny306.out] at ho37)); replace HO_4 := zq (ae (zn HO_4.out) (ao ho37) hb); have HO308 := zq (aH ho37 (Xc (zs2 GE282.out GE305.out))); replace BK282 := zq (Xg (zk BK282.out) hb); replace BK305 := zq (Xg (zk BK305.out) hb); replace HB := zq (Xe (zs2 GE282.out GE305.out) hb); clear HO297 HO300 HO303; clear hb ho37))
      go_ret
      exact ⟨_, J1, by (with_reducible repeat (first | apply Kd.N_alloc | apply Kd.N_drewN | apply aC)); exact ap HO308.out (fun _ hk => hk.1), J126⟩
     ·refine yv H ?_; clear H; rintro t309 A38 H
      refine yl H ?_; clear H; rintro y312 Ny312 H
      refine yv H ?_; clear H; rintro t315 A39 H
      refine yu H ?_ ?_ <;> clear H <;> rintro c40 H
      ·have LMc40 := zq c40
       clear c40
       refine yS H ?_; clear H; rintro y318 Ny318 H
       obtain rfl := yo H
       have Z41 := cz4 BK282.out
       go_wp2_with (first | ((first | ((with_reducible refine Xi (f := 50) rfl ?_); refine Xbz (some 41) rfl rfl Try.func50 J17 rfl #[.slice A281_1 ((Xa l0 0).f1).length c281_1, .slice Ao15 x4_1.length co15] rfl J3 ?_) | go_at_call 50); (with_reducible refine (X7.calls k1 _ _ ((Xa l0 0).f1) _ _ x4_1 t294 t295 t298 t301 false _ ?side1 ?side2 ?side3 ?side4 A24.out).mono ?_); (case side1 => repeat (first | exact (ac HW281_1.out HB.out) | exact (ac HR281_1.out HB.out) | (with_reducible refine Kd.C_alloc ?_ _) | (with_reducible refine au ?_ _) | (with_reducible refine Kd.C_drew ?_))); (case side2 => exact HC281_1.out); (case side3 => exact zc (kWs_C (ar HO_4.out).2.2)); (case side4 => exact (ar HO_4.out).2.1); rintro e w42 ⟨v296, v299, v302, rfl, ho0, ho1, ho2, hb⟩; (try refine ⟨_, rfl, ?_⟩); replace HO_4 := zq (ap (aw (aw (aw (bf (zn HO_4.out) hb) (aa ho0)) (aa ho1)) (aa ho2)) (fun _ h_ => h_.1)); have HO297 := zq (ag (aT (M := fun k_ => (w.heap.size ≤ k_)) ho0 (Xc (zs1 GE282.out)) (fun k_ h_ => h_)) (Xc (zs1 GE282.out))); have HO300 := zq (ag (aT (M := fun k_ => (w.heap.size ≤ k_)) ho1 (Xc (zs1 GE282.out)) (fun k_ h_ => h_)) (Xc (zs1 GE282.out))); have HO303 := zq (ag (aT (M := fun k_ => (w.heap.size ≤ k_)) ho2 (Xc (zs1 GE282.out)) (fun k_ h_ => h_)) (Xc (zs1 GE282.out))); replace BK282 := zq (Xg (zk BK282.out) hb); replace HB := zq (Xe (zs1 GE282.out) hb); (try clear hb); (try clear hk); (try clear ho0); (try clear ho1); (try clear ho2)) | ((with_reducible refine Xj (N := 6) rfl ?_); refine bxw 6 30 #[.int .i64 0, .slice none 0 0, .slice none 0 0, .slice none 0 0] ?_; intro gb305 hg w43 hbox hb; replace HO_4 := zq (aD (aU (zn HO_4.out) gb305 (Nat.le_of_eq hg.symm)) hb); replace HO297 := zq (ab (zr HO297.out) hb); replace HO300 := zq (ab (zr HO300.out) hb); replace HO303 := zq (ab (zr HO303.out) hb); have BK305 := zq (hbox); have GE305 := zq ((J104 : w.heap.size ≤ gb305)); replace HB := zq (Xe (zs1 GE282.out) hb); have NB282_305 := zq ((J33 : gb282 ≠ gb305)); have NB305_282 := zq ((J34 : gb305 ≠ gb282)); replace BK282 := zq (Xg (zk BK282.out) hb); clear hb hbox hg; have hnb44 := NB305_282.out; have hnc44 := NB282_305.out; have Z45 := cz4 BK305.out; obtain ⟨Ao46, co46, eo46⟩ := ah HO297.out; subst eo46; obtain ⟨Ao47, co47, eo47⟩ := ah HO300.out; subst eo47; obtain ⟨Ao48, co48, eo48⟩ := ah HO303.out; subst eo48; have Z49 := cz4 BK282.out) | ((first | ((with_reducible refine Xi (f := 34) rfl ?_); refine Xbz (some 49) rfl rfl Try.func34 J17 rfl #[.slice A281_1 ((Xa l0 0).f1).length c281_1] rfl J3 ?_) | go_at_call 34); (with_reducible refine (Xae.calls _ _ ((Xa l0 0).f1) t309 _ ?side1 ?side2 A38.out).mono ?_); (case side1 => exact ac HW281_1.out (zs2 GE282.out GE305.out)); (case side2 => exact HC281_1.out); rintro e w50 ⟨v310, rfl, ho0, hb⟩; (try refine ⟨_, rfl, ?_⟩); replace HO_4 := zq (ae (by (with_reducible repeat (first | apply Kd.N_alloc | apply Kd.N_drewN | apply aC)); exact (gN4 HO_4.out)) (aa ho0) hb); replace HO303 := zq (ab (by (with_reducible repeat (first | apply Kd.R_alloc | apply ai | apply ak)); exact (gT4 HO303.out BK305.out)) hb); have HO311 := zq (ag (aW (aW (aT (M := fun k_ => (w.heap.size ≤ k_)) ho0 (Xc (zs2 GE282.out GE305.out)) (fun k_ h_ => h_)) (aY J155)) (aY J156)) (Xc (zs2 GE282.out GE305.out))); replace HO297 := zq (ay J155 (aa ho0) hb); replace HO300 := zq (ay J156 (aa ho0) hb); replace BK282 := zq (Xg (g := gb282) (o := .cells #[.int .i64 ((Xa l0 0).f0), .slice A281_1 ((Xa l0 0).f1).length c281_1, .slice A281_2 ((Xa l0 0).f2).length c281_2, .slice A281_3 ((Xa l0 0).f3).length c281_3] 30 (0, 0)) J50 hb); replace BK305 := zq (Xg (g := gb305) (o := .cells #[.int .i64 t294, .slice Ao46 t295.length co46, .slice Ao47 t298.length co47, .slice Ao48 t301.length co48] 30 (0, 0)) (by (with_reducible repeat (first | refine Xd ?_ _ | refine Xf ?_ | refine Xb ?_ _)); refine Xk (cs := #[.int .i64 t294, .slice Ao46 t295.length co46, .slice Ao47 t298.length co47, .slice none 0 0]) ?_ 3 _ rfl; (with_reducible repeat (first | refine Xd ?_ _ | refine Xf ?_ | refine Xb ?_ _)); refine Xk (cs := #[.int .i64 t294, .slice Ao46 t295.length co46, .slice none 0 0, .slice none 0 0]) ?_ 2 _ rfl; (with_reducible repeat (first | refine Xd ?_ _ | refine Xf ?_ | refine Xb ?_ _)); refine Xk (cs := #[.int .i64 t294, .slice none 0 0, .slice none 0 0, .slice none 0 0]) ?_ 1 _ rfl; (with_reducible repeat (first | refine Xd ?_ _ | refine Xf ?_ | refine Xb ?_ _)); refine Xk (cs := #[.int .i64 0, .slice none 0 0, .slice none 0 0, .slice none 0 0]) ?_ 0 _ rfl; (with_reducible repeat (first | refine Xd ?_ _ | refine Xf ?_ | refine Xb ?_ _)); exact BK305.out) hb); replace HB := zq (Xe (zs2 GE282.out GE305.out) hb); (try clear hb); (try clear hk); (try clear ho0); obtain ⟨Ao51, co51, eo51⟩ := ah HO311.out; subst eo51) | ((with_reducible refine Xj (N := 51) rfl ?_); refine bF (kW w.heap.size) _ 30 ?hg (N' := 51) ?hd (xs := ([(⟨5, t309, ([] : List Int), ([] : List (S38))⟩ : S30)] : List (S30))) (inner := [.int .i64 5, .slice Ao51 t309.length co51, .slice none 0 0, .slice none 0 0]) (ok := (fun k_ => (P0_ k_ ∨ w.heap.size ≤ k_) ∧ some k_ ≠ (.slice Ao15 x4_1.length co15 : Value).ownBlock ∧ some k_ ≠ (.slice Ao46 t295.length co46 : Value).ownBlock ∧ some k_ ≠ (.slice Ao47 t298.length co47 : Value).ownBlock ∧ some k_ ≠ (.slice Ao48 t301.length co48 : Value).ownBlock ∧ k_ ≠ gb282 ∧ k_ ≠ gb305)) (okp := (fun k_ => (P0_ k_ ∨ w.heap.size ≤ k_) ∧ some k_ ≠ (.slice Ao15 x4_1.length co15 : Value).ownBlock ∧ some k_ ≠ (.slice Ao46 t295.length co46 : Value).ownBlock ∧ some k_ ≠ (.slice Ao47 t298.length co47 : Value).ownBlock ∧ some k_ ≠ (.slice Ao48 t301.length co48 : Value).ownBlock ∧ k_ ≠ gb282 ∧ k_ ≠ gb305)) ?hr ?hp (fun _ hk => hk) ((show ∀ k_, w50.heap.size ≤ k_ → (fun k_ => (P0_ k_ ∨ w.heap.size ≤ k_) ∧ some k_ ≠ (.slice Ao15 x4_1.length co15 : Value).ownBlock ∧ some k_ ≠ (.slice Ao46 t295.length co46 : Value).ownBlock ∧ some k_ ≠ (.slice Ao47 t298.length co47 : Value).ownBlock ∧ some k_ ≠ (.slice Ao48 t301.length co48 : Value).ownBlock ∧ k_ ≠ gb282 ∧ k_ ≠ gb305) k_ from fun k_ hk => ⟨(.inr (Nat.le_trans (Xc (zs2 GE282.out GE305.out)) hk)), Kd.fresh' (bE (zn HO_4.out)) k_ hk, Kd.fresh' (aY (zr HO297.out)) k_ hk, Kd.fresh' (aY (zr HO300.out)) k_ hk, Kd.fresh' (aY (zr HO303.out)) k_ hk, Kd.freshB (g := gb282) (o := .cells #[.int .i64 ((Xa l0 0).f0), .slice A281_1 ((Xa l0 0).f1).length c281_1, .slice A281_2 ((Xa l0 0).f2).length c281_2, .slice A281_3 ((Xa l0 0).f3).length c281_3] 30 (0, 0)) (zk BK282.out) k_ hk, Kd.freshB (g := gb305) (o := .cells #[.int .i64 t294, .slice Ao46 t295.length co46, .slice Ao47 t298.length co47, .slice Ao48 t301.length co48] 30 (0, 0)) (zk BK305.out) k_ hk⟩) _ (Nat.le_refl _)) (Below.refl _ _) (Nat.le_refl _) J83 ?_; (case hd => rfl); (case hg => rfl); (case hr => first | (go_simp; done) | (go_simp; rfl)); (case hp => exact (Reps.c4 (show Kd.FK (kW w.heap.size) _ _ (⟨5, t309, ([] : List Int), ([] : List (S38))⟩ : S30) [.int .i64 5, .slice Ao51 t309.length co51, .slice none 0 0, .slice none 0 0] from (kW_mkF _ _ (⟨5, t309, ([] : List Int), ([] : List (S38))⟩ : S30) ((af (ok' := (fun k_ => (P0_ k_ ∨ w.heap.size ≤ k_) ∧ some k_ ≠ (.slice Ao15 x4_1.length co15 : Value).ownBlock ∧ some k_ ≠ (.slice Ao46 t295.length co46 : Value).ownBlock ∧ some k_ ≠ (.slice Ao47 t298.length co47 : Value).ownBlock ∧ some k_ ≠ (.slice Ao48 t301.length co48 : Value).ownBlock ∧ k_ ≠ gb282 ∧ k_ ≠ gb305)) (al (al (aG (aG (HO311.out) (aZ HO_4.out) J14) (aK HO303.out) J14) BK282.out J14) BK305.out J14) (fun k_ hk => ⟨(.inr (hk.1.1.1.1.1.1.1)), ⟨hk.1.1.1.2, ⟨hk.1.1.1.1.1.2, ⟨hk.1.1.1.1.2, ⟨hk.1.1.2, ⟨hk.1.2, hk.2⟩⟩⟩⟩⟩⟩))) (bw _ _ _ _ _) (Nat.le_refl _) (ba _ _ _) (Nat.le_refl _))) (Reps.none _ _))); intro v313 w52 ho53 hb hg_ hnew_; clear hg_ hnew_; (first | rw [← Ny312.out] at ho53 | (simp only [Int.reduceToNat] at ho53; rw [← Ny312.out] at ho53)); replace HO_4 := zq (ae (zn HO_4.out) (ao ho53) hb); replace HO297 := zq (ab (zr HO297.out) hb); replace HO300 := zq (ab (zr HO300.out) hb); replace HO303 := zq (ab (zr HO303.out) hb); have HO314 := zq (aH ho53 (Xc (zs2 GE282.out GE305.out))); replace BK282 := zq (Xg (zk BK282.out) hb); replace BK305 := zq (Xg (zk BK305.out) hb); replace HB := zq (Xe (zs2 GE282.out GE305.out) hb); clear HO311; clear hb ho53) | ((first | ((with_reducible refine Xi (f := 46) rfl ?_); refine Xbz (some 53) rfl rfl Try.func46 J17 rfl #[.slice Ao15 x4_1.length co15] rfl J3 ?_) | go_at_call 46); (with_reducible refine (Xah.calls w.heap.size k1 (fun k_ => ((((((((P0_ k_ ∨ w.heap.size ≤ k_) ∧ k_ ≠ gb282) ∧ some k_ ≠ (.slice Ao46 t295.length co46 : Value).ownBlock) ∧ some k_ ≠ (.slice Ao47 t298.length co47 : Value).ownBlock) ∧ some k_ ≠ (.slice Ao48 t301.length co48 : Value).ownBlock) ∧ k_ ≠ gb305) ∧ some k_ ≠ (.slice Ao51 t309.length co51 : Value).ownBlock) ∧ some k_ ≠ (v313 : Value).ownBlock)) _ _ x4_1 t315 _ ?side1 A39.out).mono ?_); (case side1 => exact Kd.N_V (HO_4.out)); rintro e w54 ⟨v316, rfl, ho0, hb⟩; (try refine ⟨_, rfl, ?_⟩); have HO317 := zq (aH (ap (ok' := fun k_ => (P0_ k_ ∨ w.heap.size ≤ k_) ∧ some k_ ≠ (.slice Ao46 t295.length co46 : Value).ownBlock ∧ some k_ ≠ (.slice Ao47 t298.length co47 : Value).ownBlock ∧ some k_ ≠ (.slice Ao48 t301.length co48 : Value).ownBlock ∧ some k_ ≠ (v313 : Value).ownBlock ∧ k_ ≠ gb282 ∧ k_ ≠ gb305) ho0 (fun k_ hk_ => ⟨Or.elim hk_ (fun hs_ => hs_.1.1.1.1.1.1.1) (fun hn_ => (.inr (Nat.le_trans (Xc (zs2 GE282.out GE305.out)) hn_))), Or.elim hk_ (fun hs_ => hs_.1.1.1.1.1.2) (fun hn_ => (Kd.fresh' (aY (zr HO297.out)) k_ hn_)), Or.elim hk_ (fun hs_ => hs_.1.1.1.1.2) (fun hn_ => (Kd.fresh' (aY (zr HO300.out)) k_ hn_)), Or.elim hk_ (fun hs_ => hs_.1.1.1.2) (fun hn_ => (Kd.fresh' (aY (zr HO303.out)) k_ hn_)), Or.elim hk_ (fun hs_ => hs_.2) (fun hn_ => (Kd.fresh' (bE (zn HO314.out)) k_ hn_)), Or.elim hk_ (fun hs_ => hs_.1.1.1.1.1.1.2) (fun hn_ => (Kd.freshB (g := gb282) (o := .cells #[.int .i64 ((Xa l0 0).f0), .slice A281_1 ((Xa l0 0).f1).length c281_1, .slice A281_2 ((Xa l0 0).f2).length c281_2, .slice A281_3 ((Xa l0 0).f3).length c281_3] 30 (0, 0)) (zk BK282.out) k_ hn_)), Or.elim hk_ (fun hs_ => hs_.1.1.2) (fun hn_ => (Kd.freshB (g := gb305) (o := .cells #[.int .i64 t294, .slice Ao46 t295.length co46, .slice Ao47 t298.length co47, .slice Ao48 t301.length co48] 30 (0, 0)) (zk BK305.out) k_ hn_))⟩)) (Xc (zs2 GE282.out GE305.out))); replace HO297 := zq (ab (zr HO297.out) hb); replace HO300 := zq (ab (zr HO300.out) hb); replace HO303 := zq (ab (zr HO303.out) hb); replace HO314 := zq (ae (zn HO314.out) (ao ho0) hb); replace BK282 := zq (Xg (zk BK282.out) hb); replace BK305 := zq (Xg (zk BK305.out) hb); replace HB := zq (Xe (zs2 GE282.out GE305.out) hb); (try clear hb); (try clear hk); (try clear ho0); obtain ⟨Ao56, co56, eo56⟩ := aJ HO317.out; subst eo56) | ((with_reducible refine Xa0 (b := .append) (xs := #[.tmp 51, .tmp 53]) rfl ?_); at_builtin; refine bj (kW w.heap.size) (w0 := w) w.heap.size rfl (.tmp 51) (.tmp 53) 22 30 (.agg #[(.int .i64 0), (.slice none 0 0), (.slice none 0 0), (.slice none 0 0)]) 80 rfl Try.underlying22 Xck rfl (show 0 < 4 by decide) J29 v313 y312 t315 _ _ _ (fun k_ => (P0_ k_ ∨ w.heap.size ≤ k_) ∧ some k_ ≠ (.slice Ao46 t295.length co46 : Value).ownBlock ∧ some k_ ≠ (.slice Ao47 t298.length co47 : Value).ownBlock ∧ some k_ ≠ (.slice Ao48 t301.length co48 : Value).ownBlock ∧ k_ ≠ gb282 ∧ k_ ≠ gb305) (fun k_ => ((fun k_ => (P0_ k_ ∨ w.heap.size ≤ k_) ∧ some k_ ≠ (.slice Ao46 t295.length co46 : Value).ownBlock ∧ some k_ ≠ (.slice Ao47 t298.length co47 : Value).ownBlock ∧ some k_ ≠ (.slice Ao48 t301.length co48 : Value).ownBlock ∧ k_ ≠ gb282 ∧ k_ ≠ gb305)) k_ ∧ some k_ ≠ (v313 : Value).ownBlock) rfl rfl ?aO ?aR (fun _ hk => hk) ?aF ?aB ?aS ?aL ?_; (case aR => exact (by skip; exact Kd.N_F (ap (ok' := (fun k_ => ((fun k_ => (P0_ k_ ∨ w.heap.size ≤ k_) ∧ some k_ ≠ (.slice Ao46 t295.length co46 : Value).ownBlock ∧ some k_ ≠ (.slice Ao47 t298.length co47 : Value).ownBlock ∧ some k_ ≠ (.slice Ao48 t301.length co48 : Value).ownBlock ∧ k_ ≠ gb282 ∧ k_ ≠ gb305)) k_ ∧ some k_ ≠ (v313 : Value).ownBlock)) (HO317.out) (fun k_ hk => ⟨⟨hk.1, ⟨hk.2.1, ⟨hk.2.2.1, ⟨hk.2.2.2.1, ⟨hk.2.2.2.2.2.1, hk.2.2.2.2.2.2⟩⟩⟩⟩⟩, hk.2.2.2.2.1⟩)))); (case aB => exact (zs2 GE282.out GE305.out)); (case aF => exact (fun k_ hk => ⟨(.inr (Nat.le_trans (Xc (zs2 GE282.out GE305.out)) hk)), Kd.fresh' (aY (zr HO297.out)) k_ hk, Kd.fresh' (aY (zr HO300.out)) k_ hk, Kd.fresh' (aY (zr HO303.out)) k_ hk, Kd.freshB (g := gb282) (o := .cells #[.int .i64 ((Xa l0 0).f0), .slice A281_1 ((Xa l0 0).f1).length c281_1, .slice A281_2 ((Xa l0 0).f2).length c281_2, .slice A281_3 ((Xa l0 0).f3).length c281_3] 30 (0, 0)) (zk BK282.out) k_ hk, Kd.freshB (g := gb305) (o := .cells #[.int .i64 t294, .slice Ao46 t295.length co46, .slice Ao47 t298.length co47, .slice Ao48 t301.length co48] 30 (0, 0)) (zk BK305.out) k_ hk⟩)); (case aO => exact (by (with_reducible repeat (first | apply Kd.N_alloc | apply Kd.N_drewN | apply aC)); exact ap HO314.out (fun _ hk => ⟨hk.1.1, ⟨hk.1.2.2.1, ⟨hk.1.2.2.2.1, ⟨hk.1.2.2.2.2.1, ⟨hk.1.2.2.2.2.2.1, hk.1.2.2.2.2.2.2⟩⟩⟩⟩⟩))); (case aS => exact (Xc (zs2 GE282.out GE305.out))); (case aL => have := LMc40.out; omega); intro v319 w55 ho hb hg hat; rw [← Ny318.out] at ho; replace BK282 := zq (Xa9 (g := gb282) (o := .cells #[.int .i64 ((Xa l0 0).f0), .slice A281_1 ((Xa l0 0).f1).length c281_1, .slice A281_2 ((Xa l0 0).f2).length c281_2, .slice A281_3 ((Xa l0 0).f3).length c281_3] 30 (0, 0)) (zk BK282.out) hg (cy HO314.out (fun _ hk => hk.1.2.2.2.2.2.1))); replace HB := zq (hb); have HO320 := zq (ho); clear HO314; clear ho hb hg hat))
       go_ret
       exact ⟨_, J1, by (with_reducible repeat (first | apply Kd.N_alloc | apply Kd.N_drewN | apply aC)); exact ap HO320.out (fun _ hk => hk.1), J126⟩
      ·exact absurd H J83
 refine yv H ?_; clear H; rintro t321 A57 H
 refine yv H ?_; clear H; rintro ⟨t324, t325, t328, t331, t334⟩ A58 H
 dsimp only at H
 refine yS H ?_; clear H; rintro y336 Ny336 H
 obtain rfl := yo H
 have p281 : 0 ≤ (0 : Int) := J29
 have q281 : 0 < (l0.length : Int) := of_decide_eq_true J2
 obtain ⟨ad281, A281_1, c281_1, A281_2, c281_2, A281_3, c281_3, e281, hx281_0, hx281_1, hx281_2, hx281_3, hl281_1, hi281_1, hl281_2, hi281_2, hl281_3, hi281_3⟩ := Xb4 (av HO0.out).2.2 0 p281 q281
 cases e281
 obtain ⟨ce281, hce281, hMe281, hcc281⟩ := bW HO0.out z30 0 p281 J131
 obtain ⟨ua281_1, uc281_1, ua281_2, uc281_2, ua281_3, uc281_3, rfl, ul281_1, ge281_1, ul281_2, ge281_2, ul281_3, ge281_3⟩ := Xca hMe281
 have hv281_1 := hcc281 1 _ rfl
 rw [Xa1 _ _ 1 J29] at hv281_1
 replace hv281_1 := Option.some.inj (hv281_1.symm.trans hx281_1)
 injection hv281_1 with hva_ hvn_ hvc_
 rw [hva_] at ge281_1
 rw [hvc_] at ul281_1
 have HL281_1 := zq (show Kd.V (Kd.int .i64) 3 _ w.heap.size _ _ ((Xa l0 0).f1) from be ul281_1 ge281_1)
 clear hva_ hvn_ hvc_ ge281_1 ul281_1
 have hv281_2 := hcc281 2 _ rfl
 rw [Xa1 _ _ 2 J29] at hv281_2
 replace hv281_2 := Option.some.inj (hv281_2.symm.trans hx281_2)
 injection hv281_2 with hva_ hvn_ hvc_
 rw [hva_] at ge281_2
 rw [hvc_] at ul281_2
 have HL281_2 := zq (show Kd.V (Kd.int .i64) 3 _ w.heap.size _ _ ((Xa l0 0).f2) from be ul281_2 ge281_2)
 clear hva_ hvn_ hvc_ ge281_2 ul281_2
 have hv281_3 := hcc281 3 _ rfl
 rw [Xa1 _ _ 3 J29] at hv281_3
 replace hv281_3 := Option.some.inj (hv281_3.symm.trans hx281_3)
 injection hv281_3 with hva_ hvn_ hvc_
 rw [hva_] at ge281_3
 rw [hvc_] at ul281_3
 have HL281_3 := zq (show Kd.V k38 38 _ w.heap.size _ _ ((Xa l0 0).f3) from be ul281_3 ge281_3)
 clear hva_ hvn_ hvc_ ge281_3 ul281_3
 clear hcc281 hce281
 have qi281 : (0 < l0.length) = True := eq_true J29
 (try rw [show ((0 : Int)).toNat = 0 from rfl] at hx281_0)
 (try rw [show 0 * 4 = 0 from rfl] at hx281_0)
 (try rw [Addr.add_zero'] at hx281_0)
 (try rw [show ((0 : Int)).toNat = 0 from rfl] at hx281_1)
 (try rw [show 0 * 4 = 0 from rfl] at hx281_1)
 (try rw [Addr.add_zero'] at hx281_1)
 (try rw [show ((0 : Int)).toNat = 0 from rfl] at hx281_2)
 (try rw [show 0 * 4 = 0 from rfl] at hx281_2)
 (try rw [Addr.add_zero'] at hx281_2)
 (try rw [show ((0 : Int)).toNat = 0 from rfl] at hx281_3)
 (try rw [show 0 * 4 = 0 from rfl] at hx281_3)
 (try rw [Addr.add_zero'] at hx281_3)
 have HR281_1 := zq hi281_1
 have HW281_1 := HR281_1
 have HC281_1 := zq hl281_1
 clear hi281_1 hl281_1
 have HR281_2 := zq hi281_2
 have HW281_2 := HR281_2
 have HC281_2 := zq hl281_2
 clear hi281_2 hl281_2
 have HR281_3 := zq hi281_3
 have HW281_3 := HR281_3
 have HC281_3 := zq hl281_3
 clear hi281_3 hl281_3
 replace p281 := eq_true p281
 replace q281 := eq_true q281
 go_enter Try.func27, Try.ntmps27
 try go_wp2_with (first | ((with_reducible refine Xj (N := 3) rfl ?_); refine bxw 3 30 #[.int .i64 0, .slice none 0 0, .slice none 0 0, .slice none 0 0] ?_; intro gb282 hg w59 hbox hb; replace HO0 := zq (ax (aE (zv HO0.out) gb282 (Nat.le_of_eq hg.symm)) hb); replace HL281_1 := zq (ax (aE (zv HL281_1.out) gb282 (Nat.le_of_eq hg.symm)) hb); replace HL281_2 := zq (ax (aE (zv HL281_2.out) gb282 (Nat.le_of_eq hg.symm)) hb); replace HL281_3 := zq (ax (aE (zv HL281_3.out) gb282 (Nat.le_of_eq hg.symm)) hb); have BK282 := zq (hbox); have GE282 := zq ((J22 : w.heap.size ≤ gb282)); replace HB := zq (Xe J0 hb); clear hb hbox hg; have Z60 := cz4 BK282.out))
 have n0_ : Aside0 (Kd.V k30 30 ((((w59.setCell ⟨gb282, 0, none⟩ (.int .i64 ((Xa l0 0).f0))).setCell ⟨gb282, 1, none⟩ (.slice A281_1 ((Xa l0 0).f1).length c281_1)).setCell ⟨gb282, 2, none⟩ (.slice A281_2 ((Xa l0 0).f2).length c281_2)).setCell ⟨gb282, 3, none⟩ (.slice A281_3 ((Xa l0 0).f3).length c281_3)) w.heap.size (fun k_ => (P0_ k_ ∨ w.heap.size ≤ k_) ∧ k_ ≠ gb282) (.slice (some ad281) l0.length c0) l0) := ⟨by (with_reducible repeat (first | apply Kd.V_alloc | apply Kd.V_drewN | apply aA)); exact aj (fV4 (aj HO0.out (fun k_ hk => (⟨hk, hk.2⟩ : _ ∧ k_ ≠ gb282)))) (fun _ hk => ⟨hk.1.1, hk.1.2⟩)⟩
 have n1_ : Aside0 (Kd.V (Kd.int .i64) 3 ((((w59.setCell ⟨gb282, 0, none⟩ (.int .i64 ((Xa l0 0).f0))).setCell ⟨gb282, 1, none⟩ (.slice A281_1 ((Xa l0 0).f1).length c281_1)).setCell ⟨gb282, 2, none⟩ (.slice A281_2 ((Xa l0 0).f2).length c281_2)).setCell ⟨gb282, 3, none⟩ (.slice A281_3 ((Xa l0 0).f3).length c281_3)) w.heap.size (fun k_ => (P0_ k_ ∨ w.heap.size ≤ k_) ∧ k_ ≠ gb282) (.slice A281_1 ((Xa l0 0).f1).length c281_1) ((Xa l0 0).f1)) := ⟨by (with_reducible repeat (first | apply Kd.V_alloc | apply Kd.V_drewN | apply aA)); exact aj (fV4 (aj HL281_1.out (fun k_ hk => (⟨hk, hk.2⟩ : _ ∧ k_ ≠ gb282)))) (fun _ hk => ⟨hk.1.1, hk.1.2⟩)⟩
 have n2_ : Aside0 (Kd.V (Kd.int .i64) 3 ((((w59.setCell ⟨gb282, 0, none⟩ (.int .i64 ((Xa l0 0).f0))).setCell ⟨gb282, 1, none⟩ (.slice A281_1 ((Xa l0 0).f1).length c281_1)).setCell ⟨gb282, 2, none⟩ (.slice A281_2 ((Xa l0 0).f2).length c281_2)).setCell ⟨gb282, 3, none⟩ (.slice A281_3 ((Xa l0 0).f3).length c281_3)) w.heap.size (fun k_ => (P0_ k_ ∨ w.heap.size ≤ k_) ∧ k_ ≠ gb282) (.slice A281_2 ((Xa l0 0).f2).length c281_2) ((Xa l0 0).f2)) := ⟨by (with_reducible repeat (first | apply Kd.V_alloc | apply Kd.V_drewN | apply aA)); exact aj (fV4 (aj HL281_2.out (fun k_ hk => (⟨hk, hk.2⟩ : _ ∧ k_ ≠ gb282)))) (fun _ hk => ⟨hk.1.1, hk.1.2⟩)⟩
 have n3_ : Aside0 (Kd.V k38 38 ((((w59.setCell ⟨gb282, 0, none⟩ (.int .i64 ((Xa l0 0).f0))).setCell ⟨gb282, 1, none⟩ (.slice A281_1 ((Xa l0 0).f1).length c281_1)).setCell ⟨gb282, 2, none⟩ (.slice A281_2 ((Xa l0 0).f2).length c281_2)).setCell ⟨gb282, 3, none⟩ (.slice A281_3 ((Xa l0 0).f3).length c281_3)) w.heap.size (fun k_ => (P0_ k_ ∨ w.heap.size ≤ k_) ∧ k_ ≠ gb282) (.slice A281_3 ((Xa l0 0).f3).length c281_3) ((Xa l0 0).f3)) := ⟨by (with_reducible repeat (first | apply Kd.V_alloc | apply Kd.V_drewN | apply aA)); exact aj (fV4 (aj HL281_3.out (fun k_ hk => (⟨hk, hk.2⟩ : _ ∧ k_ ≠ gb282)))) (fun _ hk => ⟨hk.1.1, hk.1.2⟩)⟩
 have n4_ : Aside0 (((((w59.setCell ⟨gb282, 0, none⟩ (.int .i64 ((Xa l0 0).f0))).setCell ⟨gb282, 1, none⟩ (.slice A281_1 ((Xa l0 0).f1).length c281_1)).setCell ⟨gb282, 2, none⟩ (.slice A281_2 ((Xa l0 0).f2).length c281_2)).setCell ⟨gb282, 3, none⟩ (.slice A281_3 ((Xa l0 0).f3).length c281_3)).heap[gb282]? = some (.cells #[.int .i64 ((Xa l0 0).f0), .slice A281_1 ((Xa l0 0).f1).length c281_1, .slice A281_2 ((Xa l0 0).f2).length c281_2, .slice A281_3 ((Xa l0 0).f3).length c281_3] 30 (0, 0))) := ⟨J15⟩
 have n5_ : Aside0 (Below w.heap.size w ((((w59.setCell ⟨gb282, 0, none⟩ (.int .i64 ((Xa l0 0).f0))).setCell ⟨gb282, 1, none⟩ (.slice A281_1 ((Xa l0 0).f1).length c281_1)).setCell ⟨gb282, 2, none⟩ (.slice A281_2 ((Xa l0 0).f2).length c281_2)).setCell ⟨gb282, 3, none⟩ (.slice A281_3 ((Xa l0 0).f3).length c281_3))) := ⟨J70⟩
 (try clear HO0)
 (try clear HL281_1)
 (try clear HL281_2)
 (try clear HL281_3)
 (try clear BK282)
 (try clear HB)
 generalize ((((w59.setCell ⟨gb282, 0, none⟩ (.int .i64 ((Xa l0 0).f0))).setCell ⟨gb282, 1, none⟩ (.slice A281_1 ((Xa l0 0).f1).length c281_1)).setCell ⟨gb282, 2, none⟩ (.slice A281_2 ((Xa l0 0).f2).length c281_2)).setCell ⟨gb282, 3, none⟩ (.slice A281_3 ((Xa l0 0).f3).length c281_3)) = w61 at n0_ n1_ n2_ n3_ n4_ n5_ ⊢
 have HO0 := n0_
 have HL281_1 := n1_
 have HL281_2 := n2_
 have HL281_3 := n3_
 have BK282 := n4_
 have HB := n5_
 clear n0_ n1_ n2_ n3_ n4_ n5_
 replace HO0 := zq (aA HO0.out)
 replace HL281_1 := zq (aA HL281_1.out)
 replace HL281_2 := zq (aA HL281_2.out)
 replace HL281_3 := zq (aA HL281_3.out)
 replace BK282 := zq (Xf BK282.out)
 replace HB := zq (X9 HB.out)
 refine Xdb (n := 11) (S := fun w' => hdBN w' gb282 (Xa l0 0) A281_1 c281_1 A281_2 c281_2 A281_3 c281_3) (ds := []) #[Z,Z,Z,Z,Z,Z,Z,Z,Z,Z,Z] J17 rfl rfl (Xcp BK282.out) (fun hHeld => ?_); refine Xb9 tight_form.tab16 tight_form.bits16 (fun HT_ HW_ => ?_)
 generalize w61.drew = w62 at HO0 HL281_1 HL281_2 HL281_3 BK282 HB hHeld ⊢
 refine Xax 0 56 #[Y,Z,Z,Z,Z,Z,Z,Z,Z,Z,Z] HT_ ?_
 refine Xcq (i := 1) (N := some 57) (v := ?_) (a' := ?_) #[Y,Y,Z,Z,Z,Z,Z,Z,Z,Z,Z] rfl rfl (Xbw HT_.out HW_.out J17) (fun _ _ _ h => h) (Or.inl ⟨J63, ?_⟩) hHeld ?_ ?_
 rotate_left
 ·rintro w' ⟨s0, s1, s2, s3⟩
  go_simp
  with_reducible rfl
 rotate_left
 ·exact pz1
 refine Xcq (i := 2) (N := some 58) (v := ?_) (a' := ?_) #[Y,Y,Y,Z,Z,Z,Z,Z,Z,Z,Z] rfl rfl (Xbw HT_.out HW_.out J17) (fun _ _ _ h => h) (Or.inl ⟨J63, ?_⟩) hHeld ?_ ?_
 rotate_left
 ·rintro w' ⟨s0, s1, s2, s3⟩
  go_simp
  with_reducible rfl
 rotate_left
 ·exact pz1
 refine Xc2 (σ := Value × Value × Value × Value × Nat) 2 #[Y,Y,Y,Y,Y,Y,Y,Y,Y,Z,Z] (fun s_ => [(59, s_.1), (60, .tuple #[.agg #[.int .i64 t324, s_.2.1, s_.2.2.1, s_.2.2.2.1], .bool t334]), (8, .pointer (some ⟨s_.2.2.2.2, 0, none⟩)), (55, .tuple #[.agg #[.int .i64 t324, s_.2.1, s_.2.2.1, s_.2.2.2.1], .bool t334]), (61, .agg #[.int .i64 t324, s_.2.1, s_.2.2.1, s_.2.2.2.1]), (62, .bool t334)]) (fun s_ w' => (hdBN w' gb282 (Xa l0 0) A281_1 c281_1 A281_2 c281_2 A281_3 c281_3) ∧ (Kd.V (Kd.int .i64) 3 w' w.heap.size (fun k_ => (P0_ k_ ∨ w.heap.size ≤ k_) ∧ some k_ ≠ (s_.2.1 : Value).ownBlock ∧ some k_ ≠ (s_.2.2.1 : Value).ownBlock ∧ some k_ ≠ (s_.2.2.2.1 : Value).ownBlock ∧ k_ ≠ gb282 ∧ k_ ≠ s_.2.2.2.2) (.slice A281_1 ((Xa l0 0).f1).length c281_1) ((Xa l0 0).f1)) ∧ (Kd.V (Kd.int .i64) 3 w' w.heap.size (fun k_ => (P0_ k_ ∨ w.heap.size ≤ k_) ∧ some k_ ≠ (s_.2.1 : Value).ownBlock ∧ some k_ ≠ (s_.2.2.1 : Value).ownBlock ∧ some k_ ≠ (s_.2.2.2.1 : Value).ownBlock ∧ k_ ≠ gb282 ∧ k_ ≠ s_.2.2.2.2) (.slice A281_2 ((Xa l0 0).f2).length c281_2) ((Xa l0 0).f2)) ∧ (Kd.V k38 38 w' w.heap.size (fun k_ => (P0_ k_ ∨ w.heap.size ≤ k_) ∧ some k_ ≠ (s_.2.1 : Value).ownBlock ∧ some k_ ≠ (s_.2.2.1 : Value).ownBlock ∧ some k_ ≠ (s_.2.2.2.1 : Value).ownBlock ∧ k_ ≠ gb282 ∧ k_ ≠ s_.2.2.2.2) (.slice A281_3 ((Xa l0 0).f3).length c281_3) ((Xa l0 0).f3)) ∧ (Kd.V k30 30 w' w.heap.size (fun k_ => (P0_ k_ ∨ w.heap.size ≤ k_) ∧ some k_ ≠ (s_.2.1 : Value).ownBlock ∧ some k_ ≠ (s_.2.2.1 : Value).ownBlock ∧ some k_ ≠ (s_.2.2.2.1 : Value).ownBlock ∧ k_ ≠ gb282 ∧ k_ ≠ s_.2.2.2.2) (.slice (some ad281) l0.length c0) l0) ∧ (Kd.V k38 38 w' w.heap.size (fun k_ => (P0_ k_ ∨ w.heap.size ≤ k_) ∧ some k_ ≠ (s_.2.1 : Value).ownBlock ∧ some k_ ≠ (s_.2.2.1 : Value).ownBlock ∧ some k_ ≠ (s_.2.2.2.1 : Value).ownBlock ∧ k_ ≠ gb282 ∧ k_ ≠ s_.2.2.2.2) s_.1 t321) ∧ (Kd.R (Kd.int .i64) 3 w' w.heap.size (fun k_ => (w.heap.size ≤ k_) ∧ some k_ ≠ (s_.2.2.1 : Value).ownBlock) s_.2.1 t325) ∧ (Kd.R (Kd.int .i64) 3 w' w.heap.size (fun k_ => (w.heap.size ≤ k_) ∧ some k_ ≠ (s_.2.1 : Value).ownBlock) s_.2.2.1 t328) ∧ (Kd.R k38 38 w' w.heap.size (fun k_ => (w.heap.size ≤ k_)) s_.2.2.2.1 t331) ∧ (w'.heap[gb282]? = some (.cells #[.int .i64 ((Xa l0 0).f0), .slice A281_1 ((Xa l0 0).f1).length c281_1, .slice A281_2 ((Xa l0 0).f2).length c281_2, .slice A281_3 ((Xa l0 0).f3).length c281_3] 30 (0, 0))) ∧ (w'.heap[s_.2.2.2.2]? = some (.cells #[.int .i64 0, .slice none 0 0, .slice none 0 0, .slice none 0 0] 30 (0, 0))) ∧ (w.heap.size ≤ s_.2.2.2.2) ∧ (w.heap.size ≤ s_.2.2.2.2) ∧ (gb282 ≠ s_.2.2.2.2) ∧ (s_.2.2.2.2 ≠ gb282) ∧ (Below w.heap.size w w')) ?_ ?_
 rotate_left
 ·intro hCont
  refine two_ (i := 3) (j := 8) (Ni := some 59) (Nj := some 8) #[Y,Y,Y,Y,Z,Z,Z,Z,Z,Z,Z] #[Y,Y,Y,Z,Z,Z,Z,Z,Y,Z,Z] rfl rfl rfl rfl (Xda HT_.out J17) J14 J14 (fun K hK => ?_) (fun K hK => ?_)
  ·skip
   refine Xcx Try.func51 J17 rfl #[.agg #[.int .i64 ((Xa l0 0).f0), .slice A281_1 ((Xa l0 0).f1).length c281_1, .slice A281_2 ((Xa l0 0).f2).length c281_2, .slice A281_3 ((Xa l0 0).f3).length c281_3]] J63 rfl rfl J3 ?_
   with_reducible refine (Xad.calls k ((Xa l0 0).f0) _ _ ((Xa l0 0).f1) _ _ ((Xa l0 0).f2) (fun k_ => ((P0_ k_ ∨ w.heap.size ≤ k_) ∧ k_ ≠ gb282)) _ _ ((Xa l0 0).f3) t321 _ ?side1 ?side2 ?side3 ?side4 ?side5 A57.out).mono ?_
   (case side1 => repeat (first | exact ((av (zv HL281_1.out)).2.2) | (with_reducible refine Kd.C_alloc ?_ _) | (with_reducible refine au ?_ _) | (with_reducible refine Kd.C_drew ?_)))
   (case side2 => exact HC281_1.out)
   (case side3 => repeat (first | exact ((av (zv HL281_2.out)).2.2) | (with_reducible refine Kd.C_alloc ?_ _) | (with_reducible refine au ?_ _) | (with_reducible refine Kd.C_drew ?_)))
   (case side4 => exact HC281_2.out)
   (case side5 => exact HL281_3.out)
   rintro e w63 ⟨v322, rfl, ho0, hb⟩
   refine ⟨_, rfl, ?_⟩
   replace HO0 := zq (ax (zv HO0.out) hb)
   replace HL281_1 := zq (ax (zv HL281_1.out) hb)
   replace HL281_2 := zq (ax (zv HL281_2.out) hb)
   replace HL281_3 := zq (ax (zv HL281_3.out) hb)
   have HO323 := zq (bD (aj (ok' := fun k_ => (P0_ k_ ∨ w.heap.size ≤ k_) ∧ k_ ≠ gb282) ho0 (fun k_ hk_ => ⟨Or.elim hk_ (fun hs_ => hs_.1) (fun hn_ => (.inr (Nat.le_trans (Xc (zs1 GE282.out)) hn_))), Or.elim hk_ (fun hs_ => hs_.2) (fun hn_ => (Kd.freshB (g := gb282) (o := .cells #[.int .i64 ((Xa l0 0).f0), .slice A281_1 ((Xa l0 0).f1).length c281_1, .slice A281_2 ((Xa l0 0).f2).length c281_2, .slice A281_3 ((Xa l0 0).f3).length c281_3] 30 (0, 0)) (zk BK282.out) k_ hn_))⟩)) (Xc (zs1 GE282.out)))
   replace BK282 := zq (Xg (zk BK282.out) hb)
   replace HB := zq (Xe (zs1 GE282.out) hb)
   (try clear hb)
   (try clear hb2)
   (try clear hk)
   (try clear hi)
   (try clear ho0)
   obtain ⟨Ao64, co64, eo64⟩ := bn HO323.out
   (first | subst eo64 | (injection eo64 with f1_ f2_ f3_; have f4_ := f1_.symm; have f5_ := f3_.symm; clear f1_ f2_ f3_; subst f4_; subst f5_))
   refine hK.out _ _ (Xcp BK282.out) (fun hHeld => ?_)
   clear hK K
   refine Xap (a' := ?_) ?_ ?_
   rotate_left
   ·show Act.put _ (some 59) _ = _
    simp only [Act.put, List.setIfInBounds_toArray, List.set_cons_zero, List.set_cons_succ, Xan, Xaq]
    rfl
   refine two_ (i := 4) (j := 8) (Ni := some 60) (Nj := some 8) #[Y,Y,Y,Y,Y,Z,Z,Z,Z,Z,Z] #[Y,Y,Y,Y,Z,Z,Z,Z,Y,Z,Z] rfl rfl rfl rfl (Xda HT_.out J17) J14 J14 (fun K hK => ?_) (fun K hK => ?_)
   ·skip
    refine Xcx Try.func13 J17 rfl #[.slice A281_1 ((Xa l0 0).f1).length c281_1, .slice Ao64 t321.length co64] J63 rfl rfl J3 ?_
    with_reducible refine (X2.calls k _ _ ((Xa l0 0).f1) _ _ t321 t324 t325 t328 t331 t334 _ ?side1 ?side2 ?side3 ?side4 A58.out).mono ?_
    (case side1 => repeat (first | exact ((av (zv HL281_1.out)).2.2) | (with_reducible refine Kd.C_alloc ?_ _) | (with_reducible refine au ?_ _) | (with_reducible refine Kd.C_drew ?_)))
    (case side2 => exact HC281_1.out)
    (case side3 => exact zc ((av HO323.out).2.2))
    (case side4 => exact (av HO323.out).2.1)
    rintro e w65 ⟨v326, v329, v332, rfl, ho0, ho1, ho2, hb⟩
    refine ⟨_, rfl, ?_⟩
    replace HO0 := zq (aj (aq (aq (aq (bc (zv HO0.out) hb) (aa ho0)) (aa ho1)) (aa ho2)) (fun _ h_ => h_.1))
    replace HL281_1 := zq (aj (aq (aq (aq (bc (zv HL281_1.out) hb) (aa ho0)) (aa ho1)) (aa ho2)) (fun _ h_ => h_.1))
    replace HL281_2 := zq (aj (aq (aq (aq (bc (zv HL281_2.out) hb) (aa ho0)) (aa ho1)) (aa ho2)) (fun _ h_ => h_.1))
    replace HL281_3 := zq (aj (aq (aq (aq (bc (zv HL281_3.out) hb) (aa ho0)) (aa ho1)) (aa ho2)) (fun _ h_ => h_.1))
    replace HO323 := zq (aj (aq (aq (aq (bc (zv HO323.out) hb) (aa ho0)) (aa ho1)) (aa ho2)) (fun _ h_ => h_.1))
    have HO327 := zq (ag (aT (M := fun k_ => (w.heap.size ≤ k_)) ho0 (Xc (zs1 GE282.out)) (fun k_ h_ => h_)) (Xc (zs1 GE282.out)))
    have HO330 := zq (ag (aT (M := fun k_ => (w.heap.size ≤ k_)) ho1 (Xc (zs1 GE282.out)) (fun k_ h_ => h_)) (Xc (zs1 GE282.out)))
    have HO333 := zq (ag (aT (M := fun k_ => (w.heap.size ≤ k_)) ho2 (Xc (zs1 GE282.out)) (fun k_ h_ => h_)) (Xc (zs1 GE282.out)))
    replace BK282 := zq (Xg (zk BK282.out) hb)
    replace HB := zq (Xe (zs1 GE282.out) hb)
    (try clear hb)
    (try clear hb2)
    (try clear hk)
    (try clear hi)
    (try clear ho0)
    (try clear ho1)
    (try clear ho2)
    refine hK.out _ _ (Xcp BK282.out) (fun hHeld => ?_)
    clear hK K
    refine Xap (a' := ?_) ?_ ?_
    rotate_left
    ·show Act.put _ (some 60) _ = _
     simp only [Act.put, List.setIfInBounds_toArray, List.set_cons_zero, List.set_cons_succ, Xan, Xaq]
     rfl
    refine Xax 5 55 #[Y,Y,Y,Y,Y,Y,Z,Z,Z,Z,Z] HT_ ?_
    refine Xax 6 61 #[Y,Y,Y,Y,Y,Y,Y,Z,Z,Z,Z] HT_ ?_
    refine Xax 7 62 #[Y,Y,Y,Y,Y,Y,Y,Y,Z,Z,Z] HT_ ?_
    refine Xcb (i := 8) (N := some 8) #[Y,Y,Y,Y,Y,Y,Y,Y,Y,Z,Z] rfl rfl (Xbl HT_.out J17) J14 (fun K hK => ?_)
    refine Xdk ?hg (N := 8) ?hd (cs := #[.int .i64 0, .slice none 0 0, .slice none 0 0, .slice none 0 0]) (t := 30) ?hr ?_; (case hd => rfl); (case hg => rfl); (case hr => first | (go_simp; done) | (go_simp; rfl))
    intro gb335 hg w66 hbox hb
    replace HO0 := zq (ax (aE (zv HO0.out) gb335 (Nat.le_of_eq hg.symm)) hb)
    replace HL281_1 := zq (ax (aE (zv HL281_1.out) gb335 (Nat.le_of_eq hg.symm)) hb)
    replace HL281_2 := zq (ax (aE (zv HL281_2.out) gb335 (Nat.le_of_eq hg.symm)) hb)
    replace HL281_3 := zq (ax (aE (zv HL281_3.out) gb335 (Nat.le_of_eq hg.symm)) hb)
    replace HO323 := zq (ax (aE (zv HO323.out) gb335 (Nat.le_of_eq hg.symm)) hb)
    replace HO327 := zq (ab (zr HO327.out) hb)
    replace HO330 := zq (ab (zr HO330.out) hb)
    replace HO333 := zq (ab (zr HO333.out) hb)
    have BK335 := zq (hbox)
    have GW335 := zq ((J104 : w.heap.size ≤ gb335))
    have GE335 := zq ((J104 : w.heap.size ≤ gb335))
    replace HB := zq (Xe (zs1 GE282.out) hb)
    have NB282_335 := zq ((J33 : gb282 ≠ gb335))
    have NB335_282 := zq ((J34 : gb335 ≠ gb282))
    replace BK282 := zq (Xg (zk BK282.out) hb)
    clear hb hbox hg
    refine hK.out _ _ (Xcp BK282.out) (fun hHeld => ?_)
    clear hK K
    refine Xap (a' := ?_) ?_ ?_
    rotate_left
    ·show Act.put _ (some 8) _ = _
     simp only [Act.put, List.setIfInBounds_toArray, List.set_cons_zero, List.set_cons_succ, Xan, Xaq]
     rfl
    exact Xap J74 (hCont (.slice Ao64 t321.length co64, v326, v329, v332, gb335) _ ⟨hHeld, (by (with_reducible repeat (first | apply Kd.V_alloc | apply Kd.V_drewN | apply aA)); exact aj HL281_1.out (fun _ hk => ⟨hk.1.1.1.1.1, ⟨hk.1.1.1.2, ⟨hk.1.1.2, ⟨hk.1.2, ⟨hk.1.1.1.1.2, hk.2⟩⟩⟩⟩⟩)), (by (with_reducible repeat (first | apply Kd.V_alloc | apply Kd.V_drewN | apply aA)); exact aj HL281_2.out (fun _ hk => ⟨hk.1.1.1.1.1, ⟨hk.1.1.1.2, ⟨hk.1.1.2, ⟨hk.1.2, ⟨hk.1.1.1.1.2, hk.2⟩⟩⟩⟩⟩)), (by (with_reducible repeat (first | apply Kd.V_alloc | apply Kd.V_drewN | apply aA)); exact aj HL281_3.out (fun _ hk => ⟨hk.1.1.1.1.1, ⟨hk.1.1.1.2, ⟨hk.1.1.2, ⟨hk.1.2, ⟨hk.1.1.1.1.2, hk.2⟩⟩⟩⟩⟩)), (by (with_reducible repeat (first | apply Kd.V_alloc | apply Kd.V_drewN | apply aA)); exact aj HO0.out (fun _ hk => ⟨hk.1.1.1.1.1, ⟨hk.1.1.1.2, ⟨hk.1.1.2, ⟨hk.1.2, ⟨hk.1.1.1.1.2, hk.2⟩⟩⟩⟩⟩)), (by (with_reducible repeat (first | apply Kd.V_alloc | apply Kd.V_drewN | apply aA)); exact aj HO323.out (fun _ hk => ⟨hk.1.1.1.1.1, ⟨hk.1.1.1.2, ⟨hk.1.1.2, ⟨hk.1.2, ⟨hk.1.1.1.1.2, hk.2⟩⟩⟩⟩⟩)), (zr HO327.out), (zr HO330.out), J107, (zk BK282.out), (zk BK335.out), GW335.out, GE335.out, NB282_335.out, NB335_282.out, (zs2 GE282.out GE335.out)⟩)
   ·skip
    refine Xdk ?hg (N := 8) ?hd (cs := #[.int .i64 0, .slice none 0 0, .slice none 0 0, .slice none 0 0]) (t := 30) ?hr ?_; (case hd => rfl); (case hg => rfl); (case hr => first | (go_simp; done) | (go_simp; rfl))
    intro gb335 hg w64 hbox hb
    replace HO0 := zq (ax (aE (zv HO0.out) gb335 (Nat.le_of_eq hg.symm)) hb)
    replace HL281_1 := zq (ax (aE (zv HL281_1.out) gb335 (Nat.le_of_eq hg.symm)) hb)
    replace HL281_2 := zq (ax (aE (zv HL281_2.out) gb335 (Nat.le_of_eq hg.symm)) hb)
    replace HL281_3 := zq (ax (aE (zv HL281_3.out) gb335 (Nat.le_of_eq hg.symm)) hb)
    replace HO323 := zq (ax (aE (zv HO323.out) gb335 (Nat.le_of_eq hg.symm)) hb)
    have BK335 := zq (hbox)
    have GW335 := zq ((J104 : w.heap.size ≤ gb335))
    have GE335 := zq ((J104 : w.heap.size ≤ gb335))
    replace HB := zq (Xe (zs1 GE282.out) hb)
    have NB282_335 := zq ((J33 : gb282 ≠ gb335))
    have NB335_282 := zq ((J34 : gb335 ≠ gb282))
    replace BK282 := zq (Xg (zk BK282.out) hb)
    clear hb hbox hg
    obtain ⟨Ao65, co65, eo65⟩ := bn HO323.out
    (first | subst eo65 | (injection eo65 with f1_ f2_ f3_; have f4_ := f1_.symm; have f5_ := f3_.symm; clear f1_ f2_ f3_; subst f4_; subst f5_))
    refine hK.out _ _ (Xcp BK282.out) (fun hHeld => ?_)
    clear hK K
    refine Xap (a' := ?_) ?_ ?_
    rotate_left
    ·show Act.put _ (some 8) _ = _
     simp only [Act.put, List.setIfInBounds_toArray, List.set_cons_zero, List.set_cons_succ, Xan, Xaq]
     rfl
    refine Xcb (i := 4) (N := some 60) #[Y,Y,Y,Y,Y,Z,Z,Z,Y,Z,Z] rfl rfl (Xbl HT_.out J17) J14 (fun K hK => ?_)
    refine Xcx Try.func13 J17 rfl #[.slice A281_1 ((Xa l0 0).f1).length c281_1, .slice Ao65 t321.length co65] J63 rfl rfl J3 ?_
    with_reducible refine (X2.calls k _ _ ((Xa l0 0).f1) _ _ t321 t324 t325 t328 t331 t334 _ ?side1 ?side2 ?side3 ?side4 A58.out).mono ?_
    (case side1 => repeat (first | exact ((av (zv HL281_1.out)).2.2) | (with_reducible refine Kd.C_alloc ?_ _) | (with_reducible refine au ?_ _) | (with_reducible refine Kd.C_drew ?_)))
    (case side2 => exact HC281_1.out)
    (case side3 => exact zc ((av HO323.out).2.2))
    (case side4 => exact (av HO323.out).2.1)
    rintro e w66 ⟨v326, v329, v332, rfl, ho0, ho1, ho2, hb⟩
    refine ⟨_, rfl, ?_⟩
    replace HO0 := zq (aj (aq (aq (aq (bc (zv HO0.out) hb) (aa ho0)) (aa ho1)) (aa ho2)) (fun _ h_ => h_.1))
    replace HL281_1 := zq (aj (aq (aq (aq (bc (zv HL281_1.out) hb) (aa ho0)) (aa ho1)) (aa ho2)) (fun _ h_ => h_.1))
    replace HL281_2 := zq (aj (aq (aq (aq (bc (zv HL281_2.out) hb) (aa ho0)) (aa ho1)) (aa ho2)) (fun _ h_ => h_.1))
    replace HL281_3 := zq (aj (aq (aq (aq (bc (zv HL281_3.out) hb) (aa ho0)) (aa ho1)) (aa ho2)) (fun _ h_ => h_.1))
    replace HO323 := zq (aj (aq (aq (aq (bc (zv HO323.out) hb) (aa ho0)) (aa ho1)) (aa ho2)) (fun _ h_ => h_.1))
    have HO327 := zq (ag (aT (M := fun k_ => (w.heap.size ≤ k_)) ho0 (Xc (zs2 GE282.out GE335.out)) (fun k_ h_ => h_)) (Xc (zs2 GE282.out GE335.out)))
    have HO330 := zq (ag (aT (M := fun k_ => (w.heap.size ≤ k_)) ho1 (Xc (zs2 GE282.out GE335.out)) (fun k_ h_ => h_)) (Xc (zs2 GE282.out GE335.out)))
    have HO333 := zq (ag (aT (M := fun k_ => (w.heap.size ≤ k_)) ho2 (Xc (zs2 GE282.out GE335.out)) (fun k_ h_ => h_)) (Xc (zs2 GE282.out GE335.out)))
    replace BK282 := zq (Xg (zk BK282.out) hb)
    replace BK335 := zq (Xg (zk BK335.out) hb)
    replace HB := zq (Xe (zs2 GE282.out GE335.out) hb)
    (try clear hb)
    (try clear hb2)
    (try clear hk)
    (try clear hi)
    (try clear ho0)
    (try clear ho1)
    (try clear ho2)
    refine hK.out _ _ (Xcp BK282.out) (fun hHeld => ?_)
    clear hK K
    refine Xap (a' := ?_) ?_ ?_
    rotate_left
    ·show Act.put _ (some 60) _ = _
     simp only [Act.put, List.setIfInBounds_toArray, List.set_cons_zero, List.set_cons_succ, Xan, Xaq]
     rfl
    refine Xax 5 55 #[Y,Y,Y,Y,Y,Y,Z,Z,Y,Z,Z] HT_ ?_
    refine Xax 6 61 #[Y,Y,Y,Y,Y,Y,Y,Z,Y,Z,Z] HT_ ?_
    refine Xax 7 62 #[Y,Y,Y,Y,Y,Y,Y,Y,Y,Z,Z] HT_ ?_
    exact Xap J74 (hCont (.slice Ao65 t321.length co65, v326, v329, v332, gb335) _ ⟨hHeld, J114, J115, J116, J119, (by (with_reducible repeat (first | apply Kd.V_alloc | apply Kd.V_drewN | apply aA)); exact aj HO323.out (fun _ hk => ⟨hk.1.1.1.1.1, ⟨hk.1.1.2, ⟨hk.1.2, ⟨hk.2, ⟨hk.1.1.1.1.2, hk.1.1.1.2⟩⟩⟩⟩⟩)), (zr HO327.out), (zr HO330.out), J107, (zk BK282.out), (zk BK335.out), GW335.out, GE335.out, NB282_335.out, NB335_282.out, (zs2 GE282.out GE335.out)⟩)
  ·skip
   refine Xdk ?hg (N := 8) ?hd (cs := #[.int .i64 0, .slice none 0 0, .slice none 0 0, .slice none 0 0]) (t := 30) ?hr ?_; (case hd => rfl); (case hg => rfl); (case hr => first | (go_simp; done) | (go_simp; rfl))
   intro gb335 hg w63 hbox hb
   replace HO0 := zq (ax (aE (zv HO0.out) gb335 (Nat.le_of_eq hg.symm)) hb)
   replace HL281_1 := zq (ax (aE (zv HL281_1.out) gb335 (Nat.le_of_eq hg.symm)) hb)
   replace HL281_2 := zq (ax (aE (zv HL281_2.out) gb335 (Nat.le_of_eq hg.symm)) hb)
   replace HL281_3 := zq (ax (aE (zv HL281_3.out) gb335 (Nat.le_of_eq hg.symm)) hb)
   have BK335 := zq (hbox)
   have GW335 := zq ((J104 : w.heap.size ≤ gb335))
   have GE335 := zq ((J104 : w.heap.size ≤ gb335))
   replace HB := zq (Xe (zs1 GE282.out) hb)
   have NB282_335 := zq ((J33 : gb282 ≠ gb335))
   have NB335_282 := zq ((J34 : gb335 ≠ gb282))
   replace BK282 := zq (Xg (zk BK282.out) hb)
   clear hb hbox hg
   refine hK.out _ _ (Xcp BK282.out) (fun hHeld => ?_)
   clear hK K
   refine Xap (a' := ?_) ?_ ?_
   rotate_left
   ·show Act.put _ (some 8) _ = _
    simp only [Act.put, List.setIfInBounds_toArray, List.set_cons_zero, List.set_cons_succ, Xan, Xaq]
    rfl
   refine Xcb (i := 3) (N := some 59) #[Y,Y,Y,Y,Z,Z,Z,Z,Y,Z,Z] rfl rfl (Xbl HT_.out J17) J14 (fun K hK => ?_)
   refine Xcx Try.func51 J17 rfl #[.agg #[.int .i64 ((Xa l0 0).f0), .slice A281_1 ((Xa l0 0).f1).length c281_1, .slice A281_2 ((Xa l0 0).f2).length c281_2, .slice A281_3 ((Xa l0 0).f3).length c281_3]] J63 rfl rfl J3 ?_
   with_reducible refine (Xad.calls k ((Xa l0 0).f0) _ _ ((Xa l0 0).f1) _ _ ((Xa l0 0).f2) (fun k_ => (((P0_ k_ ∨ w.heap.size ≤ k_) ∧ k_ ≠ gb282) ∧ k_ ≠ gb335)) _ _ ((Xa l0 0).f3) t321 _ ?side1 ?side2 ?side3 ?side4 ?side5 A57.out).mono ?_
   (case side1 => repeat (first | exact ((av (zv HL281_1.out)).2.2) | (with_reducible refine Kd.C_alloc ?_ _) | (with_reducible refine au ?_ _) | (with_reducible refine Kd.C_drew ?_)))
   (case side2 => exact HC281_1.out)
   (case side3 => repeat (first | exact ((av (zv HL281_2.out)).2.2) | (with_reducible refine Kd.C_alloc ?_ _) | (with_reducible refine au ?_ _) | (with_reducible refine Kd.C_drew ?_)))
   (case side4 => exact HC281_2.out)
   (case side5 => exact HL281_3.out)
   rintro e w64 ⟨v322, rfl, ho0, hb⟩
   refine ⟨_, rfl, ?_⟩
   replace HO0 := zq (ax (zv HO0.out) hb)
   replace HL281_1 := zq (ax (zv HL281_1.out) hb)
   replace HL281_2 := zq (ax (zv HL281_2.out) hb)
   replace HL281_3 := zq (ax (zv HL281_3.out) hb)
   have HO323 := zq (bD (aj (ok' := fun k_ => (P0_ k_ ∨ w.heap.size ≤ k_) ∧ k_ ≠ gb282 ∧ k_ ≠ gb335) ho0 (fun k_ hk_ => ⟨Or.elim hk_ (fun hs_ => hs_.1.1) (fun hn_ => (.inr (Nat.le_trans (Xc (zs2 GE282.out GE335.out)) hn_))), Or.elim hk_ (fun hs_ => hs_.1.2) (fun hn_ => (Kd.freshB (g := gb282) (o := .cells #[.int .i64 ((Xa l0 0).f0), .slice A281_1 ((Xa l0 0).f1).length c281_1, .slice A281_2 ((Xa l0 0).f2).length c281_2, .slice A281_3 ((Xa l0 0).f3).length c281_3] 30 (0, 0)) (zk BK282.out) k_ hn_)), Or.elim hk_ (fun hs_ => hs_.2) (fun hn_ => (Kd.freshB (g := gb335) (o := .cells #[.int .i64 0, .slice none 0 0, .slice none 0 0, .slice none 0 0] 30 (0, 0)) (zk BK335.out) k_ hn_))⟩)) (Xc (zs2 GE282.out GE335.out)))
   replace BK282 := zq (Xg (zk BK282.out) hb)
   replace BK335 := zq (Xg (zk BK335.out) hb)
   replace HB := zq (Xe (zs2 GE282.out GE335.out) hb)
   (try clear hb)
   (try clear hb2)
   (try clear hk)
   (try clear hi)
   (try clear ho0)
   obtain ⟨Ao65, co65, eo65⟩ := bn HO323.out
   (first | subst eo65 | (injection eo65 with f1_ f2_ f3_; have f4_ := f1_.symm; have f5_ := f3_.symm; clear f1_ f2_ f3_; subst f4_; subst f5_))
   refine hK.out _ _ (Xcp BK282.out) (fun hHeld => ?_)
   clear hK K
   refine Xap (a' := ?_) ?_ ?_
   rotate_left
   ·show Act.put _ (some 59) _ = _
    simp only [Act.put, List.setIfInBounds_toArray, List.set_cons_zero, List.set_cons_succ, Xan, Xaq]
    rfl
   refine Xcb (i := 4) (N := some 60) #[Y,Y,Y,Y,Y,Z,Z,Z,Y,Z,Z] rfl rfl (Xbl HT_.out J17) J14 (fun K hK => ?_)
   refine Xcx Try.func13 J17 rfl #[.slice A281_1 ((Xa l0 0).f1).length c281_1, .slice Ao65 t321.length co65] J63 rfl rfl J3 ?_
   with_reducible refine (X2.calls k _ _ ((Xa l0 0).f1) _ _ t321 t324 t325 t328 t331 t334 _ ?side1 ?side2 ?side3 ?side4 A58.out).mono ?_
   (case side1 => repeat (first | exact ((av (zv HL281_1.out)).2.2) | (with_reducible refine Kd.C_alloc ?_ _) | (with_reducible refine au ?_ _) | (with_reducible refine Kd.C_drew ?_)))
   (case side2 => exact HC281_1.out)
   (case side3 => exact zc ((av HO323.out).2.2))
   (case side4 => exact (av HO323.out).2.1)
   rintro e w66 ⟨v326, v329, v332, rfl, ho0, ho1, ho2, hb⟩
   refine ⟨_, rfl, ?_⟩
   replace HO0 := zq (aj (aq (aq (aq (bc (zv HO0.out) hb) (aa ho0)) (aa ho1)) (aa ho2)) (fun _ h_ => h_.1))
   replace HL281_1 := zq (aj (aq (aq (aq (bc (zv HL281_1.out) hb) (aa ho0)) (aa ho1)) (aa ho2)) (fun _ h_ => h_.1))
   replace HL281_2 := zq (aj (aq (aq (aq (bc (zv HL281_2.out) hb) (aa ho0)) (aa ho1)) (aa ho2)) (fun _ h_ => h_.1))
   replace HL281_3 := zq (aj (aq (aq (aq (bc (zv HL281_3.out) hb) (aa ho0)) (aa ho1)) (aa ho2)) (fun _ h_ => h_.1))
   replace HO323 := zq (aj (aq (aq (aq (bc (zv HO323.out) hb) (aa ho0)) (aa ho1)) (aa ho2)) (fun _ h_ => h_.1))
   have HO327 := zq (ag (aT (M := fun k_ => (w.heap.size ≤ k_)) ho0 (Xc (zs2 GE282.out GE335.out)) (fun k_ h_ => h_)) (Xc (zs2 GE282.out GE335.out)))
   have HO330 := zq (ag (aT (M := fun k_ => (w.heap.size ≤ k_)) ho1 (Xc (zs2 GE282.out GE335.out)) (fun k_ h_ => h_)) (Xc (zs2 GE282.out GE335.out)))
   have HO333 := zq (ag (aT (M := fun k_ => (w.heap.size ≤ k_)) ho2 (Xc (zs2 GE282.out GE335.out)) (fun k_ h_ => h_)) (Xc (zs2 GE282.out GE335.out)))
   replace BK282 := zq (Xg (zk BK282.out) hb)
   replace BK335 := zq (Xg (zk BK335.out) hb)
   replace HB := zq (Xe (zs2 GE282.out GE335.out) hb)
   (try clear hb)
   (try clear hb2)
   (try clear hk)
   (try clear hi)
   (try clear ho0)
   (try clear ho1)
   (try clear ho2)
   refine hK.out _ _ (Xcp BK282.out) (fun hHeld => ?_)
   clear hK K
   refine Xap (a' := ?_) ?_ ?_
   rotate_left
   ·show Act.put _ (some 60) _ = _
    simp only [Act.put, List.setIfInBounds_toArray, List.set_cons_zero, List.set_cons_succ, Xan, Xaq]
    rfl
   refine Xax 5 55 #[Y,Y,Y,Y,Y,Y,Z,Z,Y,Z,Z] HT_ ?_
   refine Xax 6 61 #[Y,Y,Y,Y,Y,Y,Y,Z,Y,Z,Z] HT_ ?_
   refine Xax 7 62 #[Y,Y,Y,Y,Y,Y,Y,Y,Y,Z,Z] HT_ ?_
   exact Xap J74 (hCont (.slice Ao65 t321.length co65, v326, v329, v332, gb335) _ ⟨hHeld, J114, J115, J116, J119, (by (with_reducible repeat (first | apply Kd.V_alloc | apply Kd.V_drewN | apply aA)); exact aj HO323.out (fun _ hk => ⟨hk.1.1.1.1, ⟨hk.1.1.2, ⟨hk.1.2, ⟨hk.2, ⟨hk.1.1.1.2.1, hk.1.1.1.2.2⟩⟩⟩⟩⟩)), (zr HO327.out), (zr HO330.out), J107, (zk BK282.out), (zk BK335.out), GW335.out, GE335.out, NB282_335.out, NB335_282.out, (zs2 GE282.out GE335.out)⟩)
 clear HO0 HL281_1 HL281_2 HL281_3 BK282 HB
 rintro ⟨v322, v326, v329, v332, gb335⟩ w67 ⟨hHeld, HL281_1, HL281_2, HL281_3, HO0, HO323, HO327, HO330, HO333, BK282, BK335, GW335, GE335, NB282_335, NB335_282, HB⟩
 try dsimp only at hHeld HL281_1 HL281_2 HL281_3 HO0 HO323 HO327 HO330 HO333 BK282 BK335 GW335 GE335 NB282_335 NB335_282 HB
 replace HL281_1 := zq HL281_1
 replace HL281_2 := zq HL281_2
 replace HL281_3 := zq HL281_3
 replace HO0 := zq HO0
 replace HO323 := zq HO323
 replace HO327 := zq HO327
 replace HO330 := zq HO330
 replace HO333 := zq HO333
 replace BK282 := zq BK282
 replace BK335 := zq BK335
 replace GW335 := zq GW335
 replace GE335 := zq GE335
 replace NB282_335 := zq NB282_335
 replace NB335_282 := zq NB335_282
 replace HB := zq HB
 obtain ⟨Ao69, co69, eo69⟩ := ah HO327.out
 (first | subst eo69 | (injection eo69 with f1_ f2_ f3_; have f4_ := f1_.symm; have f5_ := f3_.symm; clear f1_ f2_ f3_; subst f4_; subst f5_))
 obtain ⟨Ao71, co71, eo71⟩ := ah HO330.out
 (first | subst eo71 | (injection eo71 with f1_ f2_ f3_; have f4_ := f1_.symm; have f5_ := f3_.symm; clear f1_ f2_ f3_; subst f4_; subst f5_))
 obtain ⟨Ao73, co73, eo73⟩ := ah HO333.out
 (first | subst eo73 | (injection eo73 with f1_ f2_ f3_; have f4_ := f1_.symm; have f5_ := f3_.symm; clear f1_ f2_ f3_; subst f4_; subst f5_))
 refine Xap (a' := ?_) ?_ ?_
 rotate_left
 ·simp only [Xb6, Act.put, List.setIfInBounds_toArray, List.set_cons_zero, List.set_cons_succ]
  rfl
 refine Xcb (i := 9) (N := none) #[Y,Y,Y,Y,Y,Y,Y,Y,Y,Y,Z] rfl rfl (Xbl HT_.out J17) J14 (fun K hK => ?_)
 have hs68 : w67.cell? ⟨gb335, 0, none⟩ = some (.int .i64 0) := (Xx BK335.out 0).trans rfl
 have hfs68 := Xa3 BK335.out 0
 have hns68_0 := NB282_335.out
 have hms68_0 := NB335_282.out
 have hs70 : w67.cell? ⟨gb335, 1, none⟩ = some (.slice none 0 0) := (Xx BK335.out 1).trans rfl
 have hfs70 := Xa3 BK335.out 1
 have hns70_0 := NB282_335.out
 have hms70_0 := NB335_282.out
 have hs72 : w67.cell? ⟨gb335, 2, none⟩ = some (.slice none 0 0) := (Xx BK335.out 2).trans rfl
 have hfs72 := Xa3 BK335.out 2
 have hns72_0 := NB282_335.out
 have hms72_0 := NB335_282.out
 have hs74 : w67.cell? ⟨gb335, 3, none⟩ = some (.slice none 0 0) := (Xx BK335.out 3).trans rfl
 have hfs74 := Xa3 BK335.out 3
 have hns74_0 := NB282_335.out
 have hms74_0 := NB335_282.out
 refine skip_ (w1 := ?_) J63 rfl ?_ ?_
 rotate_left
 ·go_simp
  rfl
 refine hK.out _ _ ⟨((Xai (p := ⟨gb335, _, none⟩) NB282_335.out _).trans (((Xai (p := ⟨gb335, _, none⟩) NB282_335.out _).trans (((Xai (p := ⟨gb335, _, none⟩) NB282_335.out _).trans (((Xai (p := ⟨gb335, _, none⟩) NB282_335.out _).trans (hHeld.1)))))))), ((Xai (p := ⟨gb335, _, none⟩) NB282_335.out _).trans (((Xai (p := ⟨gb335, _, none⟩) NB282_335.out _).trans (((Xai (p := ⟨gb335, _, none⟩) NB282_335.out _).trans (((Xai (p := ⟨gb335, _, none⟩) NB282_335.out _).trans (hHeld.2.1)))))))), ((Xai (p := ⟨gb335, _, none⟩) NB282_335.out _).trans (((Xai (p := ⟨gb335, _, none⟩) NB282_335.out _).trans (((Xai (p := ⟨gb335, _, none⟩) NB282_335.out _).trans (((Xai (p := ⟨gb335, _, none⟩) NB282_335.out _).trans (hHeld.2.2.1)))))))), ((Xai (p := ⟨gb335, _, none⟩) NB282_335.out _).trans (((Xai (p := ⟨gb335, _, none⟩) NB282_335.out _).trans (((Xai (p := ⟨gb335, _, none⟩) NB282_335.out _).trans (((Xai (p := ⟨gb335, _, none⟩) NB282_335.out _).trans (hHeld.2.2.2))))))))⟩ (fun hHeld => ?_)
 clear hK K
 refine Xax 10 9 #[Y,Y,Y,Y,Y,Y,Y,Y,Y,Y,Y] HT_ ?_
 refine Xd3 (Xcw HT_.out J17) ?_
 have n0_ : Aside0 (Kd.V k30 30 ((((w67.setCell ⟨gb335, 0, none⟩ (.int .i64 t324)).setCell ⟨gb335, 1, none⟩ (.slice Ao69 t325.length co69)).setCell ⟨gb335, 2, none⟩ (.slice Ao71 t328.length co71)).setCell ⟨gb335, 3, none⟩ (.slice Ao73 t331.length co73)) w.heap.size (fun k_ => (P0_ k_ ∨ w.heap.size ≤ k_) ∧ some k_ ≠ (.slice Ao69 t325.length co69 : Value).ownBlock ∧ some k_ ≠ (.slice Ao71 t328.length co71 : Value).ownBlock ∧ some k_ ≠ (.slice Ao73 t331.length co73 : Value).ownBlock ∧ k_ ≠ gb282 ∧ k_ ≠ gb335) (.slice (some ad281) l0.length c0) l0) := ⟨by (with_reducible repeat (first | apply Kd.V_alloc | apply Kd.V_drewN | apply aA)); exact aj (fV4 (aj HO0.out (fun k_ hk => (⟨hk, hk.2.2.2.2.2⟩ : _ ∧ k_ ≠ gb335)))) (fun _ hk => ⟨hk.1.1, ⟨hk.1.2.1, ⟨hk.1.2.2.1, ⟨hk.1.2.2.2.1, ⟨hk.1.2.2.2.2.1, hk.1.2.2.2.2.2⟩⟩⟩⟩⟩)⟩
 have n1_ : Aside0 (Kd.V (Kd.int .i64) 3 ((((w67.setCell ⟨gb335, 0, none⟩ (.int .i64 t324)).setCell ⟨gb335, 1, none⟩ (.slice Ao69 t325.length co69)).setCell ⟨gb335, 2, none⟩ (.slice Ao71 t328.length co71)).setCell ⟨gb335, 3, none⟩ (.slice Ao73 t331.length co73)) w.heap.size (fun k_ => (P0_ k_ ∨ w.heap.size ≤ k_) ∧ some k_ ≠ (.slice Ao69 t325.length co69 : Value).ownBlock ∧ some k_ ≠ (.slice Ao71 t328.length co71 : Value).ownBlock ∧ some k_ ≠ (.slice Ao73 t331.length co73 : Value).ownBlock ∧ k_ ≠ gb282 ∧ k_ ≠ gb335) (.slice A281_1 ((Xa l0 0).f1).length c281_1) ((Xa l0 0).f1)) := ⟨by (with_reducible repeat (first | apply Kd.V_alloc | apply Kd.V_drewN | apply aA)); exact aj (fV4 (aj HL281_1.out (fun k_ hk => (⟨hk, hk.2.2.2.2.2⟩ : _ ∧ k_ ≠ gb335)))) (fun _ hk => ⟨hk.1.1, ⟨hk.1.2.1, ⟨hk.1.2.2.1, ⟨hk.1.2.2.2.1, ⟨hk.1.2.2.2.2.1, hk.1.2.2.2.2.2⟩⟩⟩⟩⟩)⟩
 have n2_ : Aside0 (Kd.V (Kd.int .i64) 3 ((((w67.setCell ⟨gb335, 0, none⟩ (.int .i64 t324)).setCell ⟨gb335, 1, none⟩ (.slice Ao69 t325.length co69)).setCell ⟨gb335, 2, none⟩ (.slice Ao71 t328.length co71)).setCell ⟨gb335, 3, none⟩ (.slice Ao73 t331.length co73)) w.heap.size (fun k_ => (P0_ k_ ∨ w.heap.size ≤ k_) ∧ some k_ ≠ (.slice Ao69 t325.length co69 : Value).ownBlock ∧ some k_ ≠ (.slice Ao71 t328.length co71 : Value).ownBlock ∧ some k_ ≠ (.slice Ao73 t331.length co73 : Value).ownBlock ∧ k_ ≠ gb282 ∧ k_ ≠ gb335) (.slice A281_2 ((Xa l0 0).f2).length c281_2) ((Xa l0 0).f2)) := ⟨by (with_reducible repeat (first | apply Kd.V_alloc | apply Kd.V_drewN | apply aA)); exact aj (fV4 (aj HL281_2.out (fun k_ hk => (⟨hk, hk.2.2.2.2.2⟩ : _ ∧ k_ ≠ gb335)))) (fun _ hk => ⟨hk.1.1, ⟨hk.1.2.1, ⟨hk.1.2.2.1, ⟨hk.1.2.2.2.1, ⟨hk.1.2.2.2.2.1, hk.1.2.2.2.2.2⟩⟩⟩⟩⟩)⟩
 have n3_ : Aside0 (Kd.V k38 38 ((((w67.setCell ⟨gb335, 0, none⟩ (.int .i64 t324)).setCell ⟨gb335, 1, none⟩ (.slice Ao69 t325.length co69)).setCell ⟨gb335, 2, none⟩ (.slice Ao71 t328.length co71)).setCell ⟨gb335, 3, none⟩ (.slice Ao73 t331.length co73)) w.heap.size (fun k_ => (P0_ k_ ∨ w.heap.size ≤ k_) ∧ some k_ ≠ (.slice Ao69 t325.length co69 : Value).ownBlock ∧ some k_ ≠ (.slice Ao71 t328.length co71 : Value).ownBlock ∧ some k_ ≠ (.slice Ao73 t331.length co73 : Value).ownBlock ∧ k_ ≠ gb282 ∧ k_ ≠ gb335) (.slice A281_3 ((Xa l0 0).f3).length c281_3) ((Xa l0 0).f3)) := ⟨by (with_reducible repeat (first | apply Kd.V_alloc | apply Kd.V_drewN | apply aA)); exact aj (fV4 (aj HL281_3.out (fun k_ hk => (⟨hk, hk.2.2.2.2.2⟩ : _ ∧ k_ ≠ gb335)))) (fun _ hk => ⟨hk.1.1, ⟨hk.1.2.1, ⟨hk.1.2.2.1, ⟨hk.1.2.2.2.1, ⟨hk.1.2.2.2.2.1, hk.1.2.2.2.2.2⟩⟩⟩⟩⟩)⟩
 have n4_ : Aside0 (Kd.V k38 38 ((((w67.setCell ⟨gb335, 0, none⟩ (.int .i64 t324)).setCell ⟨gb335, 1, none⟩ (.slice Ao69 t325.length co69)).setCell ⟨gb335, 2, none⟩ (.slice Ao71 t328.length co71)).setCell ⟨gb335, 3, none⟩ (.slice Ao73 t331.length co73)) w.heap.size (fun k_ => (P0_ k_ ∨ w.heap.size ≤ k_) ∧ some k_ ≠ (.slice Ao69 t325.length co69 : Value).ownBlock ∧ some k_ ≠ (.slice Ao71 t328.length co71 : Value).ownBlock ∧ some k_ ≠ (.slice Ao73 t331.length co73 : Value).ownBlock ∧ k_ ≠ gb282 ∧ k_ ≠ gb335) v322 t321) := ⟨by (with_reducible repeat (first | apply Kd.V_alloc | apply Kd.V_drewN | apply aA)); exact aj (fV4 (aj HO323.out (fun k_ hk => (⟨hk, hk.2.2.2.2.2⟩ : _ ∧ k_ ≠ gb335)))) (fun _ hk => ⟨hk.1.1, ⟨hk.1.2.1, ⟨hk.1.2.2.1, ⟨hk.1.2.2.2.1, ⟨hk.1.2.2.2.2.1, hk.1.2.2.2.2.2⟩⟩⟩⟩⟩)⟩
 have n5_ : Aside0 (Kd.R (Kd.int .i64) 3 ((((w67.setCell ⟨gb335, 0, none⟩ (.int .i64 t324)).setCell ⟨gb335, 1, none⟩ (.slice Ao69 t325.length co69)).setCell ⟨gb335, 2, none⟩ (.slice Ao71 t328.length co71)).setCell ⟨gb335, 3, none⟩ (.slice Ao73 t331.length co73)) w.heap.size (fun k_ => (w.heap.size ≤ k_) ∧ some k_ ≠ (.slice Ao71 t328.length co71 : Value).ownBlock) (.slice Ao69 t325.length co69) t325) := ⟨by (with_reducible repeat (first | apply Kd.R_alloc | apply ai | apply ak)); exact af (fR4 (al HO327.out BK335.out J14)) (fun _ hk => ⟨hk.1.1, hk.1.2⟩)⟩
 have n6_ : Aside0 (Kd.R (Kd.int .i64) 3 ((((w67.setCell ⟨gb335, 0, none⟩ (.int .i64 t324)).setCell ⟨gb335, 1, none⟩ (.slice Ao69 t325.length co69)).setCell ⟨gb335, 2, none⟩ (.slice Ao71 t328.length co71)).setCell ⟨gb335, 3, none⟩ (.slice Ao73 t331.length co73)) w.heap.size (fun k_ => (w.heap.size ≤ k_) ∧ some k_ ≠ (.slice Ao69 t325.length co69 : Value).ownBlock) (.slice Ao71 t328.length co71) t328) := ⟨by (with_reducible repeat (first | apply Kd.R_alloc | apply ai | apply ak)); exact af (fR4 (al HO330.out BK335.out J14)) (fun _ hk => ⟨hk.1.1, hk.1.2⟩)⟩
 have n7_ : Aside0 (Kd.R k38 38 ((((w67.setCell ⟨gb335, 0, none⟩ (.int .i64 t324)).setCell ⟨gb335, 1, none⟩ (.slice Ao69 t325.length co69)).setCell ⟨gb335, 2, none⟩ (.slice Ao71 t328.length co71)).setCell ⟨gb335, 3, none⟩ (.slice Ao73 t331.length co73)) w.heap.size (fun k_ => (w.heap.size ≤ k_)) (.slice Ao73 t331.length co73) t331) := ⟨by (with_reducible repeat (first | apply Kd.R_alloc | apply ai | apply ak)); exact af (fR4 (al HO333.out BK335.out J14)) (fun _ hk => hk.1)⟩
 have n8_ : Aside0 (((((w67.setCell ⟨gb335, 0, none⟩ (.int .i64 t324)).setCell ⟨gb335, 1, none⟩ (.slice Ao69 t325.length co69)).setCell ⟨gb335, 2, none⟩ (.slice Ao71 t328.length co71)).setCell ⟨gb335, 3, none⟩ (.slice Ao73 t331.length co73)).heap[gb282]? = some (.cells #[.int .i64 ((Xa l0 0).f0), .slice A281_1 ((Xa l0 0).f1).length c281_1, .slice A281_2 ((Xa l0 0).f2).length c281_2, .slice A281_3 ((Xa l0 0).f3).length c281_3] 30 (0, 0))) := ⟨by (with_reducible repeat (first | refine Xd ?_ _ | refine Xf ?_ | refine Xb ?_ _)); refine Xab ?_ NB282_335.out _; (with_reducible repeat (first | refine Xd ?_ _ | refine Xf ?_ | refine Xb ?_ _)); refine Xab ?_ NB282_335.out _; (with_reducible repeat (first | refine Xd ?_ _ | refine Xf ?_ | refine Xb ?_ _)); refine Xab ?_ NB282_335.out _; (with_reducible repeat (first | refine Xd ?_ _ | refine Xf ?_ | refine Xb ?_ _)); refine Xab ?_ NB282_335.out _; (with_reducible repeat (first | refine Xd ?_ _ | refine Xf ?_ | refine Xb ?_ _)); exact BK282.out⟩
 have n9_ : Aside0 (((((w67.setCell ⟨gb335, 0, none⟩ (.int .i64 t324)).setCell ⟨gb335, 1, none⟩ (.slice Ao69 t325.length co69)).setCell ⟨gb335, 2, none⟩ (.slice Ao71 t328.length co71)).setCell ⟨gb335, 3, none⟩ (.slice Ao73 t331.length co73)).heap[gb335]? = some (.cells #[.int .i64 t324, .slice Ao69 t325.length co69, .slice Ao71 t328.length co71, .slice Ao73 t331.length co73] 30 (0, 0))) := ⟨by (with_reducible repeat (first | refine Xd ?_ _ | refine Xf ?_ | refine Xb ?_ _)); refine Xk (cs := #[.int .i64 t324, .slice Ao69 t325.length co69, .slice Ao71 t328.length co71, .slice none 0 0]) ?_ 3 _ rfl; (with_reducible repeat (first | refine Xd ?_ _ | refine Xf ?_ | refine Xb ?_ _)); refine Xk (cs := #[.int .i64 t324, .slice Ao69 t325.length co69, .slice none 0 0, .slice none 0 0]) ?_ 2 _ rfl; (with_reducible repeat (first | refine Xd ?_ _ | refine Xf ?_ | refine Xb ?_ _)); refine Xk (cs := #[.int .i64 t324, .slice none 0 0, .slice none 0 0, .slice none 0 0]) ?_ 1 _ rfl; (with_reducible repeat (first | refine Xd ?_ _ | refine Xf ?_ | refine Xb ?_ _)); refine Xk (cs := #[.int .i64 0, .slice none 0 0, .slice none 0 0, .slice none 0 0]) ?_ 0 _ rfl; (with_reducible repeat (first | refine Xd ?_ _ | refine Xf ?_ | refine Xb ?_ _)); exact BK335.out⟩
 have n10_ : Aside0 (Below w.heap.size w ((((w67.setCell ⟨gb335, 0, none⟩ (.int .i64 t324)).setCell ⟨gb335, 1, none⟩ (.slice Ao69 t325.length co69)).setCell ⟨gb335, 2, none⟩ (.slice Ao71 t328.length co71)).setCell ⟨gb335, 3, none⟩ (.slice Ao73 t331.length co73))) := ⟨J127⟩
 (try clear HO0)
 (try clear HL281_1)
 (try clear HL281_2)
 (try clear HL281_3)
 (try clear HO323)
 (try clear HO327)
 (try clear HO330)
 (try clear HO333)
 (try clear BK282)
 (try clear BK335)
 (try clear HB)
 generalize ((((w67.setCell ⟨gb335, 0, none⟩ (.int .i64 t324)).setCell ⟨gb335, 1, none⟩ (.slice Ao69 t325.length co69)).setCell ⟨gb335, 2, none⟩ (.slice Ao71 t328.length co71)).setCell ⟨gb335, 3, none⟩ (.slice Ao73 t331.length co73)) = w75 at n0_ n1_ n2_ n3_ n4_ n5_ n6_ n7_ n8_ n9_ n10_ ⊢
 have HO0 := n0_
 have HL281_1 := n1_
 have HL281_2 := n2_
 have HL281_3 := n3_
 have HO323 := n4_
 have HO327 := n5_
 have HO330 := n6_
 have HO333 := n7_
 have BK282 := n8_
 have BK335 := n9_
 have HB := n10_
 clear n0_ n1_ n2_ n3_ n4_ n5_ n6_ n7_ n8_ n9_ n10_
 have hnb76 := NB335_282.out
 have hnc76 := NB282_335.out
 have Z77 := cz4 BK335.out
 try go_wp2_with (first | ((with_reducible refine Xj (N := 64) rfl ?_); refine bF (kW w.heap.size) _ 30 ?hg (N' := 64) ?hd (xs := ([(⟨t324, t325, t328, t331⟩ : S30)] : List (S30))) (inner := [.int .i64 t324, .slice Ao69 t325.length co69, .slice Ao71 t328.length co71, .slice Ao73 t331.length co73]) (ok := (fun k_ => (P0_ k_ ∨ w.heap.size ≤ k_) ∧ k_ ≠ gb282 ∧ k_ ≠ gb335)) (okp := (fun k_ => (P0_ k_ ∨ w.heap.size ≤ k_) ∧ k_ ≠ gb282 ∧ k_ ≠ gb335)) ?hr ?hp (fun _ hk => hk) ((show ∀ k_, w75.heap.size ≤ k_ → (fun k_ => (P0_ k_ ∨ w.heap.size ≤ k_) ∧ k_ ≠ gb282 ∧ k_ ≠ gb335) k_ from fun k_ hk => ⟨(.inr (Nat.le_trans (Xc (zs2 GE282.out GE335.out)) hk)), Kd.freshB (g := gb282) (o := .cells #[.int .i64 ((Xa l0 0).f0), .slice A281_1 ((Xa l0 0).f1).length c281_1, .slice A281_2 ((Xa l0 0).f2).length c281_2, .slice A281_3 ((Xa l0 0).f3).length c281_3] 30 (0, 0)) (zk BK282.out) k_ hk, Kd.freshB (g := gb335) (o := .cells #[.int .i64 t324, .slice Ao69 t325.length co69, .slice Ao71 t328.length co71, .slice Ao73 t331.length co73] 30 (0, 0)) (zk BK335.out) k_ hk⟩) _ (Nat.le_refl _)) (Below.refl _ _) (Nat.le_refl _) J83 ?_; (case hd => rfl); (case hg => rfl); (case hr => first | (go_simp; done) | (go_simp; rfl)); (case hp => exact (Reps.c4 (show Kd.FK (kW w.heap.size) _ _ (⟨t324, t325, t328, t331⟩ : S30) [.int .i64 t324, .slice Ao69 t325.length co69, .slice Ao71 t328.length co71, .slice Ao73 t331.length co73] from (kW_mkF _ _ (⟨t324, t325, t328, t331⟩ : S30) ((af (ok' := (fun k_ => (P0_ k_ ∨ w.heap.size ≤ k_) ∧ k_ ≠ gb282 ∧ k_ ≠ gb335)) (al (al (HO327.out) BK282.out J14) BK335.out J14) (fun k_ hk => ⟨(.inr (hk.1.1.1)), ⟨hk.1.2, hk.2⟩⟩))) ((af (ok' := (fun k_ => (P0_ k_ ∨ w.heap.size ≤ k_) ∧ k_ ≠ gb282 ∧ k_ ≠ gb335)) (al (al (HO330.out) BK282.out J14) BK335.out J14) (fun k_ hk => ⟨(.inr (hk.1.1.1)), ⟨hk.1.2, hk.2⟩⟩))) (an (af (ok' := (fun k_ => (P0_ k_ ∨ w.heap.size ≤ k_) ∧ k_ ≠ gb282 ∧ k_ ≠ gb335)) (al (al (HO333.out) BK282.out J14) BK335.out J14) (fun k_ hk => ⟨(.inr (hk.1.1)), ⟨hk.1.2, hk.2⟩⟩))).2.1 (Kd.R_F (af (ok' := (fun k_ => (P0_ k_ ∨ w.heap.size ≤ k_) ∧ k_ ≠ gb282 ∧ k_ ≠ gb335)) (al (al (HO333.out) BK282.out J14) BK335.out J14) (fun k_ hk => ⟨(.inr (hk.1.1)), ⟨hk.1.2, hk.2⟩⟩))) (Nat.le_refl _))) (Reps.none _ _))); intro v337 w78 ho79 hb hg_ hnew_; clear hg_ hnew_; (first | rw [← Ny336.out] at ho79 | (simp only [Int.reduceToNat] at ho79; rw [← Ny336.out] at ho79)); have HO338 := zq (aH ho79 (Xc (zs2 GE282.out GE335.out))); replace HB := zq (Xe (zs2 GE282.out GE335.out) hb); clear HO327 HO330 HO333; clear hb ho79))
 go_ret
 exact ⟨_, J1, by (with_reducible repeat (first | apply Kd.N_alloc | apply Kd.N_drewN | apply aC)); exact ap HO338.out (fun _ hk => hk.1), J127⟩
end Go.Proofs.Ytecdklheppcihaa.HTightTells
