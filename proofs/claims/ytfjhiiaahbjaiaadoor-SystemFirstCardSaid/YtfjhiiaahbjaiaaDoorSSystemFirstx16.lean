/- What the Go functions of this claim answer, told as functions of numbers and lists, and that other memory stays as it was: words and walks, shortened by a program. -/
import Derived.Test.YtfjhiiaahbjaiaaDoorSSystemFirstx0
import Derived.Test.YtfjhiiaahbjaiaaDoorSSystemFirstx12
import Derived.Test.YtfjhiiaahbjaiaaDoorSSystemFirstx13
import Derived.Test.YtfjhiiaahbjaiaaDoorSSystemFirstx14
import Derived.Test.YtfjhiiaahbjaiaaDoorSSystemFirstx15
namespace Go.Proofs.YtfjhiiaahbjaiaaDoor.HSystemFirst
open Go.RowKit Go.Proofs.YtfjhiiaahbjaiaaDoorW.PrintWords Go.Proofs.YtfjhiiaahbjaiaaDoorW.PrintLast Go.Proofs.YtfjhiiaahbjaiaaDoorW.PrintMore
attribute [local go_sem] Xby Xbw Xcb Xca Xbp Xbo Xbx Xbv
set_option linter.unusedVariables false
set_option linter.unusedSimpArgs false
mutual
def tight_form.l0 : Nat → List (List (S32)) → Int → Int → Int → List Int → List Int → List (S40) → Option ((List (S32)))
 | 0, _, _, _, _, _, _, _ => none
 | k + 1, x4, x24, x25, x395000, x395001, x395002, x395003 => if x25 < x24 then (if 0 ≤ x25 then (if x25 < (x4.length : Int) then ((tight_form.f k (Xa3 x4 x25)).bind fun t402 => (tight_form.l0 k (x4.set (x25 : Int).toNat t402) x24 (wrap64 (x25 + 1)) x395000 x395001 x395002 x395003)) else (none)) else (none)) else ((Xaa.f k x395001 x4).bind fun bt406 => (if bt406.2.2.2.2 = true then (some (([(⟨bt406.1, bt406.2.1, bt406.2.2.1, bt406.2.2.2.1⟩ : S32)] : List (S32)))) else ((Xam.f x395001).bind fun t421 => ((some (([(⟨5, t421, ([] : List Int), ([] : List (S40))⟩ : S32)] : List (S32)) : List (S32))).bind fun y424 => ((Xan.f k x4).bind fun t427 => (if y424.length + t427.length < 1759218604441 then (some (y424 ++ t427)) else (none)))))))
def tight_form.f : Nat → List (S32) → Option ((List (S32)))
 | 0, _ => none
 | k + 1, l0 => if 0 < (l0.length : Int) then (if ((Xa l0 0).f0) = 3 then ((Xco.f l0).bind fun t395 => (some t395)) else (if ((Xa l0 0).f0) = 5 then ((array_Kids.f k l0).bind fun t398 => (tight_form.l0 k t398 (t398.length : Int) 0 ((Xa l0 0).f0) ((Xa l0 0).f1) ((Xa l0 0).f2) ((Xa l0 0).f3))) else ((Xak.f k ((Xa l0 0).f0) ((Xa l0 0).f1) ((Xa l0 0).f2) ((Xa l0 0).f3)).bind fun t433 => ((Xz.f k ((Xa l0 0).f1) t433).bind fun bt436 => (some (([(⟨bt436.1, bt436.2.1, bt436.2.2.1, bt436.2.2.2.1⟩ : S32)] : List (S32)))))))) else (none)
end
theorem tight_form.mono_l : ∀ k, (∀ y0, LeO (tight_form.f k y0) (tight_form.f (k + 1) y0)) ∧ (∀ y0 y1 y2 y3 y4 y5 y6, LeO (tight_form.l0 k y0 y1 y2 y3 y4 y5 y6) (tight_form.l0 (k + 1) y0 y1 y2 y3 y4 y5 y6))
 | 0 => ⟨fun _ r h => by simp [tight_form.f] at h, fun _ _ _ _ _ _ _ r h => by simp [tight_form.l0] at h⟩
 | k + 1 => by
  obtain ⟨ih0, ih1⟩ := tight_form.mono_l k
  refine ⟨?_, ?_⟩
  ·intro y0
   unfold tight_form.f
   have im0 := @Xan.mono
   have im1 := @array_Kids.mono
   have im2 := @Xz.mono
   have im3 := @Xaa.mono
   have im4 := @Xak.mono
   exact mz5
  ·intro y0 y1 y2 y3 y4 y5 y6
   unfold tight_form.l0
   have im0 := @Xan.mono
   have im1 := @array_Kids.mono
   have im2 := @Xz.mono
   have im3 := @Xaa.mono
   have im4 := @Xak.mono
   exact mz5
theorem tight_form.mono : ∀ a0 k, LeO (tight_form.f k a0) (tight_form.f (k + 1) a0) := by
 intro a0 k
 obtain ⟨ih0, ih1⟩ := tight_form.mono_l k
 exact ih0 a0
def tight_form.T16 : Bool × List (List Nat × List Nat) := (true, [([], []), ([0], [0]), ([], []), ([2], [2]), ([1, 3, 3], [1, 3]), ([4], [4]), ([5], [5]), ([5], [5]), ([], []), ([8, 6, 4, 0, 1, 2, 3, 4, 5, 6, 8], [6, 8]), ([7, 9, 0, 1, 2, 3, 4, 5, 6, 7, 8, 9], [7])])
def tight_form.B16 : List Nat := [0, 1, 0, 4, 15, 31, 63, 63, 0, 383, 1023]
theorem tight_form.tab16 : Xc8 .any (opsOf Tryd.f33 16) = tight_form.T16 := J8
theorem tight_form.bits16 : Xdc tight_form.T16.2 tight_form.B16 = true := J8
set_option maxHeartbeats 8000000 in
set_option maxRecDepth 100000 in
theorem tight_form.calls (k : Nat) : ∀ (P0_ : Nat → Prop) (A0 : Option Addr) (c0 : Nat) (l0 : List (S32)) (r : List (S32)) (w : World) (hs0 : Kd.V k32 32 w w.heap.size (fun k_ => P0_ k_) (.slice A0 l0.length c0) l0) (h : tight_form.f k l0 = some r),
  Calls Tryd.prog 33 #[.slice A0 l0.length c0] w fun e w' => ∃ v0_ : Value, e = .returned (v0_) ∧ Kd.N k32 32 w' w.heap.size (fun k_ => (P0_ k_ ∨ w.heap.size ≤ k_)) v0_ r ∧ Below w.heap.size w w' := by
 induction k using Nat.strongRecOn with
 | _ k ih =>
 intro P0_ A0 c0 l0 r w hs0 h
 cases k with
 | zero => exact absurd h (by simp [tight_form.f])
 | succ k =>
 simp only [tight_form.f] at h
 have hu32 := Tryd.underlying32
 have HO0 := zq (show Kd.V k32 32 w w.heap.size (fun k_ => (P0_ k_ ∨ w.heap.size ≤ k_)) (.slice A0 l0.length c0) l0 from Kd.V_mono hs0 (fun k_ hk => .inl hk))
 have HB := zq (Below.refl w.heap.size w)
 have H : (if 0 < (l0.length : Int) then (if ((Xa l0 0).f0) = 3 then ((Xco.f l0).bind fun t395 => (some t395)) else (if ((Xa l0 0).f0) = 5 then ((array_Kids.f k l0).bind fun t398 => (tight_form.l0 k t398 (t398.length : Int) 0 ((Xa l0 0).f0) ((Xa l0 0).f1) ((Xa l0 0).f2) ((Xa l0 0).f3))) else ((Xak.f k ((Xa l0 0).f0) ((Xa l0 0).f1) ((Xa l0 0).f2) ((Xa l0 0).f3)).bind fun t433 => ((Xz.f k ((Xa l0 0).f1) t433).bind fun bt436 => (some (([(⟨bt436.1, bt436.2.1, bt436.2.2.1, bt436.2.2.2.1⟩ : S32)] : List (S32)))))))) else (none)) = some r := h
 clear h
 refine yi H ?_; clear H; intro c2 H
 have c2b0 := decide_eq_true c2
 have c2b1 : decide (0 < l0.length) = true := decide_eq_true J35
 clear c2
 refine yF H ?_ ?_ <;> clear H <;> rintro ⟨c3b0, c3b1, c3⟩ H
 ·clear c3
  refine yv H ?_; clear H; rintro t395 A4 H
  obtain rfl := yo H
  have p393 : 0 ≤ (0 : Int) := J35
  have q393 : 0 < (l0.length : Int) := of_decide_eq_true J3
  obtain ⟨ad393, A393_1, c393_1, A393_2, c393_2, A393_3, c393_3, e393, hx393_0, hx393_1, hx393_2, hx393_3, hl393_1, hi393_1, hl393_2, hi393_2, hl393_3, hi393_3⟩ := Xbz (Kd.V_reads' HO0.out).2.2 0 p393 q393
  cases e393
  obtain ⟨ce393, hce393, hMe393, hcc393⟩ := Kd.V_get HO0.out z32 0 p393 J126
  obtain ⟨ua393_1, uc393_1, ua393_2, uc393_2, ua393_3, uc393_3, rfl, ul393_1, ge393_1, ul393_2, ge393_2, ul393_3, ge393_3⟩ := Xeb hMe393
  have hv393_1 := hcc393 1 _ rfl
  rw [Xch _ _ 1 J35] at hv393_1
  replace hv393_1 := Option.some.inj (hv393_1.symm.trans hx393_1)
  injection hv393_1 with hva_ hvn_ hvc_
  rw [hva_] at ge393_1
  rw [hvc_] at ul393_1
  have HL393_1 := zq (show Kd.V (Kd.int .i64) 3 _ w.heap.size _ _ ((Xa l0 0).f1) from Kd.V_mk ul393_1 ge393_1)
  clear hva_ hvn_ hvc_ ge393_1 ul393_1
  have hv393_2 := hcc393 2 _ rfl
  rw [Xch _ _ 2 J35] at hv393_2
  replace hv393_2 := Option.some.inj (hv393_2.symm.trans hx393_2)
  injection hv393_2 with hva_ hvn_ hvc_
  rw [hva_] at ge393_2
  rw [hvc_] at ul393_2
  have HL393_2 := zq (show Kd.V (Kd.int .i64) 3 _ w.heap.size _ _ ((Xa l0 0).f2) from Kd.V_mk ul393_2 ge393_2)
  clear hva_ hvn_ hvc_ ge393_2 ul393_2
  have hv393_3 := hcc393 3 _ rfl
  rw [Xch _ _ 3 J35] at hv393_3
  replace hv393_3 := Option.some.inj (hv393_3.symm.trans hx393_3)
  injection hv393_3 with hva_ hvn_ hvc_
  rw [hva_] at ge393_3
  rw [hvc_] at ul393_3
  have HL393_3 := zq (show Kd.V k40 40 _ w.heap.size _ _ ((Xa l0 0).f3) from Kd.V_mk ul393_3 ge393_3)
  clear hva_ hvn_ hvc_ ge393_3 ul393_3
  clear hcc393 hce393
  have qi393 : (0 < l0.length) = True := eq_true J35
  (try rw [show ((0 : Int)).toNat = 0 from rfl] at hx393_0)
  (try rw [show 0 * 4 = 0 from rfl] at hx393_0)
  (try rw [Addr.add_zero'] at hx393_0)
  (try rw [show ((0 : Int)).toNat = 0 from rfl] at hx393_1)
  (try rw [show 0 * 4 = 0 from rfl] at hx393_1)
  (try rw [Addr.add_zero'] at hx393_1)
  (try rw [show ((0 : Int)).toNat = 0 from rfl] at hx393_2)
  (try rw [show 0 * 4 = 0 from rfl] at hx393_2)
  (try rw [Addr.add_zero'] at hx393_2)
  (try rw [show ((0 : Int)).toNat = 0 from rfl] at hx393_3)
  (try rw [show 0 * 4 = 0 from rfl] at hx393_3)
  (try rw [Addr.add_zero'] at hx393_3)
  have HR393_1 := zq hi393_1
  have HW393_1 := HR393_1
  have HC393_1 := zq hl393_1
  clear hi393_1 hl393_1
  have HR393_2 := zq hi393_2
  have HW393_2 := HR393_2
  have HC393_2 := zq hl393_2
  clear hi393_2 hl393_2
  have HR393_3 := zq hi393_3
  have HW393_3 := HR393_3
  have HC393_3 := zq hl393_3
  clear hi393_3 hl393_3
  replace p393 := eq_true p393
  replace q393 := eq_true q393
  go_enter Tryd.func33, Tryd.ntmps33
  go_wp2_with (first | ((with_reducible refine Xk (N := 3) rfl ?_); refine bxw 3 32 #[.int .i64 0, .slice none 0 0, .slice none 0 0, .slice none 0 0] ?_; intro gb394 hg w5 hbox hb; replace HO0 := zq (Kd.V_below (Kd.V_elderB (zv HO0.out) gb394 (Nat.le_of_eq hg.symm)) hb); replace HR393_1 := zq (Kd.C_below J69 hb); replace HL393_1 := zq (Kd.V_below (Kd.V_elderB (zv HL393_1.out) gb394 (Nat.le_of_eq hg.symm)) hb); replace HR393_2 := zq (Kd.C_below J70 hb); replace HL393_2 := zq (Kd.V_below (Kd.V_elderB (zv HL393_2.out) gb394 (Nat.le_of_eq hg.symm)) hb); replace HR393_3 := zq (Kd.C_below J71 hb); replace HL393_3 := zq (Kd.V_below (Kd.V_elderB (zv HL393_3.out) gb394 (Nat.le_of_eq hg.symm)) hb); have BK394 := zq (hbox); have GE394 := zq ((J12 : w.heap.size ≤ gb394)); replace HB := zq (Xd J0 hb); clear hb hbox hg; obtain ⟨hcz6_0, hcz6_1, hcz6_2, hcz6_3, hfz6_0, hfz6_1, hfz6_2, hfz6_3⟩ := cz4 BK394.out) | ((first | ((with_reducible refine Xg (f := 59) rfl ?_); refine Xt (some 18) rfl rfl Tryd.func59 J8 rfl #[.slice (some ad393) l0.length c0] rfl J1 ?_) | go_at_call 59); (with_reducible refine (Xco.calls _ _ l0 t395 _ ?side1 ?side2 A4.out).mono ?_); (case side1 => refine (Kd.V_reads' (e := 32) (base := w.heap.size) (ok := fun k_ => ((P0_ k_ ∨ w.heap.size ≤ k_) ∧ k_ ≠ gb394)) (n := l0.length) (c := c0) ?_).2.2; exact J54); (case side2 => exact (Kd.V_reads' HO0.out).2.1); rintro e w7 ⟨v396, rfl, ho0, hb⟩; (try refine ⟨_, rfl, ?_⟩); replace HO0 := zq (Kd.V_elder' J54 (Kd.N_base (Kd.S_N (Kd.S_bound ho0))) hb); have HO397 := zq (Kd.N_lower (Kd.N_mono (ok' := fun k_ => (P0_ k_ ∨ w.heap.size ≤ k_) ∧ k_ ≠ gb394) (Kd.S_N (Kd.S_bound ho0)) (fun k_ hk_ => ⟨(.inr (Nat.le_trans (Xf (zs1 GE394.out)) hk_.2.1)), (Kd.freshB (g := gb394) (o := .cells #[.int .i64 ((Xa l0 0).f0), .slice A393_1 ((Xa l0 0).f1).length c393_1, .slice A393_2 ((Xa l0 0).f2).length c393_2, .slice A393_3 ((Xa l0 0).f3).length c393_3] 32 (0, 0)) J14 k_ hk_.2.1)⟩)) (Xf (zs1 GE394.out))); replace HR393_1 := zq (Kd.C_below ((Kd.V_reads' J51).2.2) hb); replace HL393_1 := zq (Kd.V_elder' J51 (Kd.N_base (Kd.S_N (Kd.S_bound ho0))) hb); replace HR393_2 := zq (Kd.C_below ((Kd.V_reads' J52).2.2) hb); replace HL393_2 := zq (Kd.V_elder' J52 (Kd.N_base (Kd.S_N (Kd.S_bound ho0))) hb); replace HR393_3 := zq (Kd.C_below ((Kd.V_reads' J53).2.2) hb); replace HL393_3 := zq (Kd.V_elder' J53 (Kd.N_base (Kd.S_N (Kd.S_bound ho0))) hb); replace BK394 := zq (Xh (g := gb394) (o := .cells #[.int .i64 ((Xa l0 0).f0), .slice A393_1 ((Xa l0 0).f1).length c393_1, .slice A393_2 ((Xa l0 0).f2).length c393_2, .slice A393_3 ((Xa l0 0).f3).length c393_3] 32 (0, 0)) J14 hb); replace HB := zq (Xd (zs1 GE394.out) hb); (try clear hb); (try clear hk); (try clear ho0)))
  go_ret
  exact ⟨_, J2, by (with_reducible repeat (first | apply Kd.N_alloc | apply Kd.N_drewN | apply Kd.N_drew)); exact Kd.N_mono HO397.out (fun _ hk => hk.1), J67⟩
 refine yF H ?_ ?_ <;> clear H <;> rintro ⟨c8b0, c8b1, c8⟩ H
 ·clear c8
  refine yv H ?_; clear H; rintro t398 A9 H
  have H' := zq H
  clear H
  have p393 : 0 ≤ (0 : Int) := J35
  have q393 : 0 < (l0.length : Int) := of_decide_eq_true J3
  obtain ⟨ad393, A393_1, c393_1, A393_2, c393_2, A393_3, c393_3, e393, hx393_0, hx393_1, hx393_2, hx393_3, hl393_1, hi393_1, hl393_2, hi393_2, hl393_3, hi393_3⟩ := Xbz (Kd.V_reads' HO0.out).2.2 0 p393 q393
  cases e393
  obtain ⟨ce393, hce393, hMe393, hcc393⟩ := Kd.V_get HO0.out z32 0 p393 J126
  obtain ⟨ua393_1, uc393_1, ua393_2, uc393_2, ua393_3, uc393_3, rfl, ul393_1, ge393_1, ul393_2, ge393_2, ul393_3, ge393_3⟩ := Xeb hMe393
  have hv393_1 := hcc393 1 _ rfl
  rw [Xch _ _ 1 J35] at hv393_1
  replace hv393_1 := Option.some.inj (hv393_1.symm.trans hx393_1)
  injection hv393_1 with hva_ hvn_ hvc_
  rw [hva_] at ge393_1
  rw [hvc_] at ul393_1
  have HL393_1 := zq (show Kd.V (Kd.int .i64) 3 _ w.heap.size _ _ ((Xa l0 0).f1) from Kd.V_mk ul393_1 ge393_1)
  clear hva_ hvn_ hvc_ ge393_1 ul393_1
  have hv393_2 := hcc393 2 _ rfl
  rw [Xch _ _ 2 J35] at hv393_2
  replace hv393_2 := Option.some.inj (hv393_2.symm.trans hx393_2)
  injection hv393_2 with hva_ hvn_ hvc_
  rw [hva_] at ge393_2
  rw [hvc_] at ul393_2
  have HL393_2 := zq (show Kd.V (Kd.int .i64) 3 _ w.heap.size _ _ ((Xa l0 0).f2) from Kd.V_mk ul393_2 ge393_2)
  clear hva_ hvn_ hvc_ ge393_2 ul393_2
  have hv393_3 := hcc393 3 _ rfl
  rw [Xch _ _ 3 J35] at hv393_3
  replace hv393_3 := Option.some.inj (hv393_3.symm.trans hx393_3)
  injection hv393_3 with hva_ hvn_ hvc_
  rw [hva_] at ge393_3
  rw [hvc_] at ul393_3
  have HL393_3 := zq (show Kd.V k40 40 _ w.heap.size _ _ ((Xa l0 0).f3) from Kd.V_mk ul393_3 ge393_3)
  clear hva_ hvn_ hvc_ ge393_3 ul393_3
  clear hcc393 hce393
  have qi393 : (0 < l0.length) = True := eq_true J35
  (try rw [show ((0 : Int)).toNat = 0 from rfl] at hx393_0)
  (try rw [show 0 * 4 = 0 from rfl] at hx393_0)
  (try rw [Addr.add_zero'] at hx393_0)
  (try rw [show ((0 : Int)).toNat = 0 from rfl] at hx393_1)
  (try rw [show 0 * 4 = 0 from rfl] at hx393_1)
  (try rw [Addr.add_zero'] at hx393_1)
  (try rw [show ((0 : Int)).toNat = 0 from rfl] at hx393_2)
  (try rw [show 0 * 4 = 0 from rfl] at hx393_2)
  (try rw [Addr.add_zero'] at hx393_2)
  (try rw [show ((0 : Int)).toNat = 0 from rfl] at hx393_3)
  (try rw [show 0 * 4 = 0 from rfl] at hx393_3)
  (try rw [Addr.add_zero'] at hx393_3)
  have HR393_1 := zq hi393_1
  have HW393_1 := HR393_1
  have HC393_1 := zq hl393_1
  clear hi393_1 hl393_1
  have HR393_2 := zq hi393_2
  have HW393_2 := HR393_2
  have HC393_2 := zq hl393_2
  clear hi393_2 hl393_2
  have HR393_3 := zq hi393_3
  have HW393_3 := HR393_3
  have HC393_3 := zq hl393_3
  clear hi393_3 hl393_3
  replace p393 := eq_true p393
  replace q393 := eq_true q393
  go_enter Tryd.func33, Tryd.ntmps33
  go_wp2_with (first | ((with_reducible refine Xk (N := 3) rfl ?_); refine bxw 3 32 #[.int .i64 0, .slice none 0 0, .slice none 0 0, .slice none 0 0] ?_; intro gb394 hg w10 hbox hb; replace HO0 := zq (Kd.V_below (Kd.V_elderB (zv HO0.out) gb394 (Nat.le_of_eq hg.symm)) hb); replace HR393_1 := zq (Kd.C_below J69 hb); replace HL393_1 := zq (Kd.V_below (Kd.V_elderB (zv HL393_1.out) gb394 (Nat.le_of_eq hg.symm)) hb); replace HR393_2 := zq (Kd.C_below J70 hb); replace HL393_2 := zq (Kd.V_below (Kd.V_elderB (zv HL393_2.out) gb394 (Nat.le_of_eq hg.symm)) hb); replace HR393_3 := zq (Kd.C_below J71 hb); replace HL393_3 := zq (Kd.V_below (Kd.V_elderB (zv HL393_3.out) gb394 (Nat.le_of_eq hg.symm)) hb); have BK394 := zq (hbox); have GE394 := zq ((J12 : w.heap.size ≤ gb394)); replace HB := zq (Xd J0 hb); clear hb hbox hg; obtain ⟨hcz11_0, hcz11_1, hcz11_2, hcz11_3, hfz11_0, hfz11_1, hfz11_2, hfz11_3⟩ := cz4 BK394.out) | ((with_reducible refine Xce (t := 32) (p := 3) rfl ?_); refine Xb3 (t := 32) (p := 3) (v := ?vo_w12) (w1 := ((((w10.setCell ⟨gb394, 0, none⟩ (.int .i64 ((Xa l0 0).f0))).setCell ⟨gb394, 1, none⟩ (.slice A393_1 ((Xa l0 0).f1).length c393_1)).setCell ⟨gb394, 2, none⟩ (.slice A393_2 ((Xa l0 0).f2).length c393_2)).setCell ⟨gb394, 3, none⟩ (.slice A393_3 ((Xa l0 0).f3).length c393_3))) ?hg ?ho ?hn ?hr ?_; (case ho => rfl); (case hg => rfl); (case hn => rfl); (case hr => first | (go_simp; done) | (go_simp; rfl)); intro w12 hw; have n0_ : Aside0 (Kd.V k32 32 w12 w.heap.size (fun k_ => (P0_ k_ ∨ w.heap.size ≤ k_) ∧ k_ ≠ gb394) (.slice (some ad393) l0.length c0) l0) := ⟨(by rw [hw]; exact (by (with_reducible repeat (first | apply Kd.V_alloc | apply Kd.V_drewN | apply Kd.V_drew)); exact Kd.V_mono (Kd.V_far (p := ⟨gb394, 3, none⟩) (Kd.V_far (p := ⟨gb394, 2, none⟩) (Kd.V_far (p := ⟨gb394, 1, none⟩) (Kd.V_far (p := ⟨gb394, 0, none⟩) (Kd.V_mono HO0.out (fun k_ hk => (⟨hk, hk.2⟩ : _ ∧ k_ ≠ gb394))) (fun _ hk => hk.2) (.int .i64 ((Xa l0 0).f0))) (fun _ hk => hk.2) (.slice A393_1 ((Xa l0 0).f1).length c393_1)) (fun _ hk => hk.2) (.slice A393_2 ((Xa l0 0).f2).length c393_2)) (fun _ hk => hk.2) (.slice A393_3 ((Xa l0 0).f3).length c393_3)) (fun _ hk => ⟨hk.1.1, hk.1.2⟩)))⟩; have n1_ : Aside0 (Kd.V (Kd.int .i64) 3 w12 w.heap.size (fun k_ => (P0_ k_ ∨ w.heap.size ≤ k_) ∧ k_ ≠ gb394) (.slice A393_1 ((Xa l0 0).f1).length c393_1) ((Xa l0 0).f1)) := ⟨(by rw [hw]; exact (by (with_reducible repeat (first | apply Kd.V_alloc | apply Kd.V_drewN | apply Kd.V_drew)); exact Kd.V_mono (Kd.V_far (p := ⟨gb394, 3, none⟩) (Kd.V_far (p := ⟨gb394, 2, none⟩) (Kd.V_far (p := ⟨gb394, 1, none⟩) (Kd.V_far (p := ⟨gb394, 0, none⟩) (Kd.V_mono HL393_1.out (fun k_ hk => (⟨hk, hk.2⟩ : _ ∧ k_ ≠ gb394))) (fun _ hk => hk.2) (.int .i64 ((Xa l0 0).f0))) (fun _ hk => hk.2) (.slice A393_1 ((Xa l0 0).f1).length c393_1)) (fun _ hk => hk.2) (.slice A393_2 ((Xa l0 0).f2).length c393_2)) (fun _ hk => hk.2) (.slice A393_3 ((Xa l0 0).f3).length c393_3)) (fun _ hk => ⟨hk.1.1, hk.1.2⟩)))⟩; have n2_ : Aside0 (Kd.V (Kd.int .i64) 3 w12 w.heap.size (fun k_ => (P0_ k_ ∨ w.heap.size ≤ k_) ∧ k_ ≠ gb394) (.slice A393_2 ((Xa l0 0).f2).length c393_2) ((Xa l0 0).f2)) := ⟨(by rw [hw]; exact (by (with_reducible repeat (first | apply Kd.V_alloc | apply Kd.V_drewN | apply Kd.V_drew)); exact Kd.V_mono (Kd.V_far (p := ⟨gb394, 3, none⟩) (Kd.V_far (p := ⟨gb394, 2, none⟩) (Kd.V_far (p := ⟨gb394, 1, none⟩) (Kd.V_far (p := ⟨gb394, 0, none⟩) (Kd.V_mono HL393_2.out (fun k_ hk => (⟨hk, hk.2⟩ : _ ∧ k_ ≠ gb394))) (fun _ hk => hk.2) (.int .i64 ((Xa l0 0).f0))) (fun _ hk => hk.2) (.slice A393_1 ((Xa l0 0).f1).length c393_1)) (fun _ hk => hk.2) (.slice A393_2 ((Xa l0 0).f2).length c393_2)) (fun _ hk => hk.2) (.slice A393_3 ((Xa l0 0).f3).length c393_3)) (fun _ hk => ⟨hk.1.1, hk.1.2⟩)))⟩; have n3_ : Aside0 (Kd.V k40 40 w12 w.heap.size (fun k_ => (P0_ k_ ∨ w.heap.size ≤ k_) ∧ k_ ≠ gb394) (.slice A393_3 ((Xa l0 0).f3).length c393_3) ((Xa l0 0).f3)) := ⟨(by rw [hw]; exact (by (with_reducible repeat (first | apply Kd.V_alloc | apply Kd.V_drewN | apply Kd.V_drew)); exact Kd.V_mono (Kd.V_far (p := ⟨gb394, 3, none⟩) (Kd.V_far (p := ⟨gb394, 2, none⟩) (Kd.V_far (p := ⟨gb394, 1, none⟩) (Kd.V_far (p := ⟨gb394, 0, none⟩) (Kd.V_mono HL393_3.out (fun k_ hk => (⟨hk, hk.2⟩ : _ ∧ k_ ≠ gb394))) (fun _ hk => hk.2) (.int .i64 ((Xa l0 0).f0))) (fun _ hk => hk.2) (.slice A393_1 ((Xa l0 0).f1).length c393_1)) (fun _ hk => hk.2) (.slice A393_2 ((Xa l0 0).f2).length c393_2)) (fun _ hk => hk.2) (.slice A393_3 ((Xa l0 0).f3).length c393_3)) (fun _ hk => ⟨hk.1.1, hk.1.2⟩)))⟩; have n4_ : Aside0 (w12.heap[gb394]? = some (.cells #[.int .i64 ((Xa l0 0).f0), .slice A393_1 ((Xa l0 0).f1).length c393_1, .slice A393_2 ((Xa l0 0).f2).length c393_2, .slice A393_3 ((Xa l0 0).f3).length c393_3] 32 (0, 0))) := ⟨(by rw [hw]; exact J14)⟩; have n5_ : Aside0 (Below w.heap.size w w12) := ⟨(by rw [hw]; exact (zs1 GE394.out))⟩; clear hw; clear HO0; clear HL393_1; clear HL393_2; clear HL393_3; clear BK394; clear HB; have HO0 := n0_; have HL393_1 := n1_; have HL393_2 := n2_; have HL393_3 := n3_; have BK394 := n4_; have HB := n5_; clear n0_ n1_ n2_ n3_ n4_ n5_; obtain ⟨hcz13_0, hcz13_1, hcz13_2, hcz13_3, hfz13_0, hfz13_1, hfz13_2, hfz13_3⟩ := cz4 BK394.out) | ((first | ((with_reducible refine Xg (f := 60) rfl ?_); refine Xt (some 22) rfl rfl Tryd.func60 J8 rfl #[.slice (some ad393) l0.length c0] rfl J1 ?_) | go_at_call 60); (with_reducible refine (array_Kids.calls k (fun k_ => ((P0_ k_ ∨ w.heap.size ≤ k_) ∧ k_ ≠ gb394)) _ _ l0 t398 _ ?side1 A9.out).mono ?_); (case side1 => exact HO0.out); rintro e w14 ⟨v399, rfl, ho0, hb⟩; (try refine ⟨_, rfl, ?_⟩); replace HO0 := zq (Kd.V_elder' (zv HO0.out) (Kd.N_base ho0) hb); have HO400 := zq (Kd.N_lower (Kd.N_mono (ok' := fun k_ => (P0_ k_ ∨ w.heap.size ≤ k_) ∧ k_ ≠ gb394) ho0 (fun k_ hk_ => ⟨(.inr (Nat.le_trans (Xf (zs1 GE394.out)) hk_)), (Kd.freshB (g := gb394) (o := .cells #[.int .i64 ((Xa l0 0).f0), .slice A393_1 ((Xa l0 0).f1).length c393_1, .slice A393_2 ((Xa l0 0).f2).length c393_2, .slice A393_3 ((Xa l0 0).f3).length c393_3] 32 (0, 0)) (zk BK394.out) k_ hk_)⟩)) (Xf (zs1 GE394.out))); replace HR393_1 := zq (Kd.C_below J69 hb); replace HL393_1 := zq (Kd.V_elder' (zv HL393_1.out) (Kd.N_base ho0) hb); replace HR393_2 := zq (Kd.C_below J70 hb); replace HL393_2 := zq (Kd.V_elder' (zv HL393_2.out) (Kd.N_base ho0) hb); replace HR393_3 := zq (Kd.C_below J71 hb); replace HL393_3 := zq (Kd.V_elder' (zv HL393_3.out) (Kd.N_base ho0) hb); replace BK394 := zq (Xh (zk BK394.out) hb); replace HB := zq (Xd (zs1 GE394.out) hb); (try clear hb); (try clear hk); (try clear ho0); obtain ⟨Ao15, co15, eo15⟩ := Kd.N_slice HO400.out; subst eo15))
  go_loopg [25] k (fun kq v25 w' => ∃ (x4_1 : List (List (S32))) (x25_1 : Int), v25 = .int .i64 x25_1 ∧ Aside0 (tight_form.l0 kq x4_1 (t398.length : Int) x25_1 ((Xa l0 0).f0) ((Xa l0 0).f1) ((Xa l0 0).f2) ((Xa l0 0).f3) = some r) ∧ Aside0 (kq ≤ k) ∧ Aside0 (Kd.N (Kd.slice 32 k32) 23 w' w.heap.size (fun k_ => (P0_ k_ ∨ w.heap.size ≤ k_) ∧ k_ ≠ gb394) (.slice Ao15 t398.length co15) x4_1) ∧ Aside0 (w'.heap[gb394]? = some (.cells #[.int .i64 ((Xa l0 0).f0), (.slice A393_1 ((Xa l0 0).f1).length c393_1), (.slice A393_2 ((Xa l0 0).f2).length c393_2), (.slice A393_3 ((Xa l0 0).f3).length c393_3)] 32 (0, 0))) ∧ Aside0 (Below w.heap.size w w'))
  case atStart => exact ⟨(t398), (0), J4, H', ⟨Nat.le_refl _⟩, ⟨by (with_reducible repeat (first | apply Kd.N_alloc | apply Kd.N_drewN | apply Kd.N_drew)); exact HO400.out⟩, ⟨by (with_reducible repeat (first | refine Xc ?_ _ | refine Xe ?_ | refine Xb ?_ _)); exact BK394.out⟩, ⟨J67⟩⟩
  case round =>
   clear H'
   try clear c2
   try clear c2b0
   try clear c2b1
   try clear c3
   try clear c3b0
   try clear c3b1
   try clear c8
   try clear c8b0
   try clear c8b1
   try clear hcz11_0
   try clear hcz11_1
   try clear hcz11_2
   try clear hcz11_3
   try clear hcz13_0
   try clear hcz13_1
   try clear hcz13_2
   try clear hcz13_3
   try clear hfz11_0
   try clear hfz11_1
   try clear hfz11_2
   try clear hfz11_3
   try clear hfz13_0
   try clear hfz13_1
   try clear hfz13_2
   try clear hfz13_3
   try clear hx393_0
   try clear hx393_1
   try clear hx393_2
   try clear hx393_3
   try clear p393
   try clear q393
   obtain ⟨x4_1, x25_1, rfl, HA, HK1, HO_4, BK394, HB⟩ := hrel
   have hl4_1 := (Kd.N_reads' HO_4.out).1
   rw [hl4_1] at HO_4
   (try simp only [hl4_1])
   (try simp only [hl4_1] at BK394)
   cases gk with
   | zero => exact absurd HA.out (by simp [tight_form.l0])
   | succ k1 =>
    have H := HA.out
    clear HA
    simp only [tight_form.l0] at H
    refine yu H ?_ ?_ <;> clear H <;> rintro c16 H
    ·have c16b0 : decide (x25_1 < (t398.length : Int)) = true := decide_eq_true c16
     clear c16
     refine yu H ?_ ?_ <;> clear H <;> rintro c17 H
     ·have c17b0 : decide (0 ≤ x25_1) = true := decide_eq_true c17
      clear c17
      refine yu H ?_ ?_ <;> clear H <;> rintro c18 H
      ·have c18b0 : decide (x25_1 < (x4_1.length : Int)) = true := decide_eq_true c18
       clear c18
       refine yv H ?_; clear H; rintro t402 A19 H
       obtain ⟨y405, hy405⟩ : ∃ y_ : List (List (S32)), y_ = (x4_1.set (x25_1 : Int).toNat t402) := ⟨_, rfl⟩
       rw (occs := .pos [1]) [← hy405] at H
       have Ny405 := zq hy405
       clear hy405
       have H' := zq H
       clear H
       have p401 : 0 ≤ (x25_1 : Int) := of_decide_eq_true J3
       have q401 : x25_1 < (x4_1.length : Int) := of_decide_eq_true J3
       obtain ⟨ad401, A401_0, c401_0, e401, hx401_0, hl401_0, hi401_0⟩ := at_L5 (Kd.N_reads' HO_4.out).2.2 x25_1 p401 q401
       cases e401
       obtain ⟨ce401, hce401, hMe401, hcc401⟩ := Kd.N_get HO_4.out [] x25_1 p401 (by first | exact q401 | exact of_decide_eq_true J3 | (have e_ := (Kd.N_reads' HO_4.out).1; omega))
       obtain ⟨ua401_0, uc401_0, rfl, ul401_0, ge401_0⟩ := Kd.FK_slice_open hMe401
       have hv401_0 := hcc401 0 _ rfl
       rw [Nat.add_zero, show ((Kd.slice 32 k32)).sz = 1 from rfl, Nat.mul_one] at hv401_0
       replace hv401_0 := Option.some.inj (hv401_0.symm.trans hx401_0)
       injection hv401_0 with hva_ hvn_ hvc_
       rw [hva_] at ge401_0
       rw [hvc_] at ul401_0
       have HL401_0 := zq (show Kd.V k32 32 _ w.heap.size _ _ (Xa3 x4_1 x25_1) from Kd.V_mk ul401_0 ge401_0)
       clear hva_ hvn_ hvc_ ge401_0 ul401_0
       clear hcc401 hce401
       have HR401_0 := zq hi401_0
       have HW401_0 := HR401_0
       have HC401_0 := zq hl401_0
       clear hi401_0 hl401_0
       replace p401 := eq_true p401
       replace q401 := eq_true q401
       go_wp2_with (first | ((first | ((with_reducible refine Xg (f := 33) rfl ?_); refine Xt (some 34) rfl rfl Tryd.func33 J8 rfl #[.slice A401_0 (Xa3 x4_1 x25_1).length c401_0] rfl J1 ?_) | go_at_call 33); (with_reducible refine (ih k1 J86 (fun k_ => (((P0_ k_ ∨ w.heap.size ≤ k_) ∧ k_ ≠ gb394) ∧ some k_ ≠ (.slice (some ad401) x4_1.length co15 : Value).ownBlock)) _ _ (Xa3 x4_1 x25_1) t402 _ ?side1 A19.out).mono ?_); (case side1 => exact HL401_0.out); rintro e w21 ⟨v403, rfl, ho0, hb⟩; obtain ⟨Az_, cz_, ez_⟩ := Kd.N_slice ho0; subst ez_; (try refine ⟨_, rfl, ?_⟩); have HO404 := zq (Kd.N_lower (Kd.N_mono (ok' := fun k_ => (P0_ k_ ∨ w.heap.size ≤ k_) ∧ some k_ ≠ (.slice (some ad401) x4_1.length co15 : Value).ownBlock ∧ k_ ≠ gb394) ho0 (fun k_ hk_ => ⟨Or.elim hk_ (fun hs_ => hs_.1.1) (fun hn_ => (.inr (Nat.le_trans (Xf (zs1 GE394.out)) hn_))), Or.elim hk_ (fun hs_ => hs_.2) (fun hn_ => (Kd.fresh' (Kd.N_lt (zn HO_4.out)) k_ hn_)), Or.elim hk_ (fun hs_ => hs_.1.2) (fun hn_ => (Kd.freshB (g := gb394) (o := .cells #[.int .i64 ((Xa l0 0).f0), .slice A393_1 ((Xa l0 0).f1).length c393_1, .slice A393_2 ((Xa l0 0).f2).length c393_2, .slice A393_3 ((Xa l0 0).f3).length c393_3] 32 (0, 0)) (zk BK394.out) k_ hn_))⟩)) (Xf (zs1 GE394.out))); replace HO_4 := zq (Kd.N_elder' (zn HO_4.out) (Kd.N_base ho0) hb); replace BK394 := zq (Xh (zk BK394.out) hb); replace HB := zq (Xd (zs1 GE394.out) hb); (try clear hb); (try clear hk); (try clear ho0); have p20 : 0 ≤ (x25_1 : Int) := of_decide_eq_true J3; have q20 : (x25_1 : Int) < ((x4_1.length : Int) : Int) := of_decide_eq_true J3; obtain ⟨go20, co20, eo20, gb20, gl20, cl20, HG20⟩ := Kd.N_form HO_4.out J35; (first | cases eo20 | (injection eo20 with ea_ en_ ec_; (first | subst ea_ | (injection ea_ with ea_; subst ea_)); subst ec_; clear en_)); have GB20 := zq gb20; have GG20 := zq HG20; clear gb20 gl20 HG20; (first | simp only [Xdb] at hx401_0 | skip); obtain ⟨ce20, hcl20, hM20, hcc20, hfr20⟩ := Kd.N_elem HO_4.out [] (x25_1 : Int) p20 q20; obtain ⟨ua20_0, uc20_0, rfl, ul20_0, ge20_0⟩ := Kd.FK_slice_open hM20; have hx20_0 := hcc20 0 _ rfl; have hf20_0 := hfr20 0; (try simp only [show ((Kd.slice 32 k32)).sz = 1 from rfl, Nat.mul_one, Nat.add_zero] at hx20_0); (try simp only [show ((Kd.slice 32 k32)).sz = 1 from rfl, Nat.mul_one, Nat.add_zero] at hf20_0); clear hcl20 hcc20 hfr20 hM20; replace p20 := eq_true p20; replace q20 := eq_true q20; have n_ := zq (Kd.N_mono (ok' := (fun k_ => (P0_ k_ ∨ w.heap.size ≤ k_) ∧ some k_ ≠ ((Value.slice Az_ t402.length cz_) : Value).ownBlock ∧ k_ ≠ gb394)) HO_4.out (fun k_ hk => ⟨hk.1.1, ⟨hk.2, hk.1.2⟩⟩)); clear HO_4; have HO_4 := n_; clear n_; have HX22 := zq (show Kd.N (Kd.slice 32 k32) 23 w21 w.heap.size (fun k_ => (P0_ k_ ∨ w.heap.size ≤ k_) ∧ k_ ≠ gb394) (.slice (some ⟨go20, 0, none⟩) x4_1.length co15) x4_1 from (by (with_reducible repeat (first | apply Kd.N_alloc | apply Kd.N_drewN | apply Kd.N_drew)); exact Kd.N_mono HO_4.out (fun _ hk => ⟨hk.1, hk.2.2⟩))); obtain ⟨ce22, hcl22, hM22, hcc22, hfr22⟩ := Kd.N_elem HX22.out [] (x25_1 : Int) (of_decide_eq_true J3) J134; obtain ⟨ua22_0, uc22_0, rfl, ul22_0, ge22_0⟩ := Kd.FK_slice_open hM22; have HP22 := Kd.N_seg HX22.out (x25_1 : Int) (of_decide_eq_true J3) J134 (seg := [(Value.slice Az_ t402.length cz_)]) (j := 0) hcl22 hcc22 (show 1 ≤ 1 from by decide) (x' := t402) (Kd.FK_slice_mk (Kd.N_reads' (Kd.N_mono (ok' := (fun k_ => ((fun k_ => (P0_ k_ ∨ w.heap.size ≤ k_) ∧ k_ ≠ gb394)) k_ ∧ k_ ≠ go20)) (HO404.out) (fun k_ hk => ⟨⟨hk.1, hk.2.2⟩, fun e_ => (hk.2.1) (by rw [e_]; rfl)⟩))).2.1 (Kd.N_F (Kd.N_mono (ok' := (fun k_ => ((fun k_ => (P0_ k_ ∨ w.heap.size ≤ k_) ∧ k_ ≠ gb394)) k_ ∧ k_ ≠ go20)) (HO404.out) (fun k_ hk => ⟨⟨hk.1, hk.2.2⟩, fun e_ => (hk.2.1) (by rw [e_]; rfl)⟩)))) (fun _ hk => hk); have hx22_0 := hcc22 0 _ rfl; (try simp only [show ((Kd.slice 32 k32)).sz = 1 from rfl, Nat.mul_one, Nat.add_zero] at hx22_0); have hf22_0 := hfr22 0; (try simp only [show ((Kd.slice 32 k32)).sz = 1 from rfl, Nat.mul_one, Nat.add_zero] at hf22_0); clear hcl22 hcc22 hfr22 hM22; (try simp only [show ((Kd.slice 32 k32)).sz = 1 from rfl, Nat.mul_one, Nat.add_zero] at HP22); (try simp only [show ((Kd.slice 32 k32)).sz = 1 from rfl, Nat.mul_one, Nat.add_zero] at HP22)) | ((with_reducible refine Xce (t := 23) (p := 35) rfl ?_); refine Xb3 (t := 23) (p := 35) (v := ?vo_w23) (w1 := (w21.setCell ⟨go20, (x25_1 : Int).toNat, none⟩ ((Value.slice Az_ t402.length cz_)))) ?hg ?ho ?hn ?hr ?_; (case ho => rfl); (case hg => rfl); (case hn => rfl); (case hr => first | (go_simp; done) | (go_simp; rfl)); intro w23 hw; have hg : w21.grownBy w23 (some go20) := (by rw [hw]; exact HP22.2); have hp_ : Kd.N (Kd.slice 32 k32) 23 w23 w.heap.size (fun k_ => (P0_ k_ ∨ w.heap.size ≤ k_) ∧ k_ ≠ gb394) (.slice (some ⟨go20, 0, none⟩) x4_1.length co15) y405 := (by rw [hw, Ny405.out]; exact HP22.1); clear HP22; replace BK394 := zq (Xb7 (g := gb394) (o := .cells #[.int .i64 ((Xa l0 0).f0), .slice A393_1 ((Xa l0 0).f1).length c393_1, .slice A393_2 ((Xa l0 0).f2).length c393_2, .slice A393_3 ((Xa l0 0).f3).length c393_3] 32 (0, 0)) (zk BK394.out) hg (Kd.N_ne HO_4.out BK394.out J11)); replace HO_4 := zq (hp_); replace HB := zq ((by rw [hw]; exact X2 (HB.out) GB20.out : Below w.heap.size w w23)); clear HO404; clear hg hw hp_))
       (try simp only [← hl4_1])
       go_roundg k1
       case measure => have := HK1.out; omega
       case rel => exact ⟨(y405), (wrap64 (x25_1 + 1)), J4, H', ⟨J86⟩, ⟨by (try simp only [hl4_1]); (with_reducible repeat (first | apply Kd.N_alloc | apply Kd.N_drewN | apply Kd.N_drew)); exact HO_4.out⟩, ⟨by (try simp only [hl4_1]); (with_reducible repeat (first | refine Xc ?_ _ | refine Xe ?_ | refine Xb ?_ _)); exact BK394.out⟩, ⟨J67⟩⟩
      ·exact absurd H J88
     ·exact absurd H J88
    ·have c16b0 : decide (x25_1 < (t398.length : Int)) = false := decide_eq_false c16
     have c16b0x : decide (x25_1 < (x4_1.length : Int)) = false := by rw [← hl4_1]; exact c16b0
     clear c16
     refine yv H ?_; clear H; rintro ⟨t406, t407, t410, t413, t416⟩ A24 H
     dsimp only at H
     refine yC H ?_ ?_ <;> clear H <;> rintro rfl H
     ·obtain ⟨y418, hy418⟩ : ∃ y_ : List (S32), y_ = (([(⟨t406, t407, t410, t413⟩ : S32)] : List (S32))) := ⟨_, rfl⟩
      rw (occs := .pos [1]) [← hy418] at H
      have Ny418 := zq hy418
      clear hy418
      obtain rfl := yo H
      obtain ⟨hcz26_0, hcz26_1, hcz26_2, hcz26_3, hfz26_0, hfz26_1, hfz26_2, hfz26_3⟩ := cz4 BK394.out
      go_wp2_with (first | ((first | ((with_reducible refine Xg (f := 61) rfl ?_); refine Xt (some 41) rfl rfl Tryd.func61 J8 rfl #[.slice A393_1 ((Xa l0 0).f1).length c393_1, .slice Ao15 x4_1.length co15] rfl J1 ?_) | go_at_call 61); (with_reducible refine (Xaa.calls k1 _ _ ((Xa l0 0).f1) _ _ x4_1 t406 t407 t410 t413 true _ ?side1 ?side2 ?side3 ?side4 A24.out).mono ?_); (case side1 => repeat (first | exact (Kd.C_below HW393_1.out HB.out) | exact (Kd.C_below HR393_1.out HB.out) | (with_reducible refine Kd.C_alloc ?_ _) | (with_reducible refine Kd.C_drewN ?_ _) | (with_reducible refine Kd.C_drew ?_))); (case side2 => exact HC393_1.out); (case side3 => exact zc ((Kd.N_reads' HO_4.out).2.2)); (case side4 => exact (Kd.N_reads' HO_4.out).2.1); rintro e w27 ⟨v408, v411, v414, rfl, ho0, ho1, ho2, hb⟩; (try refine ⟨_, rfl, ?_⟩); replace HO_4 := zq (Kd.N_mono (Kd.N_told (Kd.N_told (Kd.N_told (Kd.N_old (zn HO_4.out) hb) (Kd.R_base ho0)) (Kd.R_base ho1)) (Kd.R_base ho2)) (fun _ h_ => h_.1)); have HO409 := zq (Kd.R_lower (Kd.R_newM (M := fun k_ => (w.heap.size ≤ k_)) ho0 (Xf (zs1 GE394.out)) (fun k_ h_ => h_)) (Xf (zs1 GE394.out))); have HO412 := zq (Kd.R_lower (Kd.R_newM (M := fun k_ => (w.heap.size ≤ k_)) ho1 (Xf (zs1 GE394.out)) (fun k_ h_ => h_)) (Xf (zs1 GE394.out))); have HO415 := zq (Kd.R_lower (Kd.R_newM (M := fun k_ => (w.heap.size ≤ k_)) ho2 (Xf (zs1 GE394.out)) (fun k_ h_ => h_)) (Xf (zs1 GE394.out))); replace BK394 := zq (Xh (zk BK394.out) hb); replace HB := zq (Xd (zs1 GE394.out) hb); (try clear hb); (try clear hk); (try clear ho0); (try clear ho1); (try clear ho2)) | ((with_reducible refine Xk (N := 6) rfl ?_); refine bxw 6 32 #[.int .i64 0, .slice none 0 0, .slice none 0 0, .slice none 0 0] ?_; intro gb417 hg w28 hbox hb; replace HO_4 := zq (Kd.N_below (Kd.N_elderB (zn HO_4.out) gb417 (Nat.le_of_eq hg.symm)) hb); replace HO409 := zq (Kd.R_below (zr HO409.out) hb); replace HO412 := zq (Kd.R_below (zr HO412.out) hb); replace HO415 := zq (Kd.R_below (zr HO415.out) hb); have BK417 := zq (hbox); have GE417 := zq ((J96 : w.heap.size ≤ gb417)); replace HB := zq (Xd (zs1 GE394.out) hb); have NB394_417 := zq ((J29 : gb394 ≠ gb417)); have NB417_394 := zq ((J30 : gb417 ≠ gb394)); replace BK394 := zq (Xh (zk BK394.out) hb); clear hb hbox hg; have hnb29 := NB417_394.out; have hnc29 := NB394_417.out; obtain ⟨hcz30_0, hcz30_1, hcz30_2, hcz30_3, hfz30_0, hfz30_1, hfz30_2, hfz30_3⟩ := cz4 BK417.out; obtain ⟨Ao31, co31, eo31⟩ := Kd.R_slice HO409.out; subst eo31; obtain ⟨Ao32, co32, eo32⟩ := Kd.R_slice HO412.out; subst eo32; obtain ⟨Ao33, co33, eo33⟩ := Kd.R_slice HO415.out; subst eo33) | ((with_reducible refine Xce (t := 32) (p := 6) rfl ?_); refine Xb3 (t := 32) (p := 6) (v := ?vo_w34) (w1 := ((((w28.setCell ⟨gb417, 0, none⟩ (.int .i64 t406)).setCell ⟨gb417, 1, none⟩ (.slice Ao31 t407.length co31)).setCell ⟨gb417, 2, none⟩ (.slice Ao32 t410.length co32)).setCell ⟨gb417, 3, none⟩ (.slice Ao33 t413.length co33))) ?hg ?ho ?hn ?hr ?_; (case ho => rfl); (case hg => rfl); (case hn => rfl); (case hr => first | (go_simp; done) | (go_simp; rfl)); intro w34 hw; have n0_ : Aside0 (Kd.N (Kd.slice 32 k32) 23 w34 w.heap.size (fun k_ => (P0_ k_ ∨ w.heap.size ≤ k_) ∧ some k_ ≠ (.slice Ao31 t407.length co31 : Value).ownBlock ∧ some k_ ≠ (.slice Ao32 t410.length co32 : Value).ownBlock ∧ some k_ ≠ (.slice Ao33 t413.length co33 : Value).ownBlock ∧ k_ ≠ gb394 ∧ k_ ≠ gb417) (.slice Ao15 x4_1.length co15) x4_1) := ⟨(by rw [hw]; exact (by (with_reducible repeat (first | apply Kd.N_alloc | apply Kd.N_drewN | apply Kd.N_drew)); exact Kd.N_mono (Kd.N_far (p := ⟨gb417, 3, none⟩) (Kd.N_far (p := ⟨gb417, 2, none⟩) (Kd.N_far (p := ⟨gb417, 1, none⟩) (Kd.N_far (p := ⟨gb417, 0, none⟩) (Kd.N_mono HO_4.out (fun k_ hk => (⟨hk, hk.2⟩ : _ ∧ k_ ≠ gb417))) (fun _ hk => hk.2) (.int .i64 t406)) (fun _ hk => hk.2) (.slice Ao31 t407.length co31)) (fun _ hk => hk.2) (.slice Ao32 t410.length co32)) (fun _ hk => hk.2) (.slice Ao33 t413.length co33)) (fun _ hk => ⟨hk.1.1.1.1.1.1, ⟨hk.1.1.1.1.2, ⟨hk.1.1.1.2, ⟨hk.1.1.2, ⟨hk.1.1.1.1.1.2, hk.1.2⟩⟩⟩⟩⟩)))⟩; have n1_ : Aside0 (Kd.R (Kd.int .i64) 3 w34 w.heap.size (fun k_ => (w.heap.size ≤ k_) ∧ some k_ ≠ (.slice Ao32 t410.length co32 : Value).ownBlock) (.slice Ao31 t407.length co31) t407) := ⟨(by rw [hw]; exact (by (with_reducible repeat (first | apply Kd.R_alloc | apply Kd.R_drewN | apply Kd.R_drew)); exact Kd.R_mono (Kd.R_far (p := ⟨gb417, 3, none⟩) (Kd.R_far (p := ⟨gb417, 2, none⟩) (Kd.R_far (p := ⟨gb417, 1, none⟩) (Kd.R_far (p := ⟨gb417, 0, none⟩) (Kd.R_types HO409.out BK417.out J11) (fun _ hk => hk.2) (.int .i64 t406)) (fun _ hk => hk.2) (.slice Ao31 t407.length co31)) (fun _ hk => hk.2) (.slice Ao32 t410.length co32)) (fun _ hk => hk.2) (.slice Ao33 t413.length co33)) (fun _ hk => ⟨hk.1.1, hk.1.2⟩)))⟩; have n2_ : Aside0 (Kd.R (Kd.int .i64) 3 w34 w.heap.size (fun k_ => (w.heap.size ≤ k_) ∧ some k_ ≠ (.slice Ao31 t407.length co31 : Value).ownBlock) (.slice Ao32 t410.length co32) t410) := ⟨(by rw [hw]; exact (by (with_reducible repeat (first | apply Kd.R_alloc | apply Kd.R_drewN | apply Kd.R_drew)); exact Kd.R_mono (Kd.R_far (p := ⟨gb417, 3, none⟩) (Kd.R_far (p := ⟨gb417, 2, none⟩) (Kd.R_far (p := ⟨gb417, 1, none⟩) (Kd.R_far (p := ⟨gb417, 0, none⟩) (Kd.R_types HO412.out BK417.out J11) (fun _ hk => hk.2) (.int .i64 t406)) (fun _ hk => hk.2) (.slice Ao31 t407.length co31)) (fun _ hk => hk.2) (.slice Ao32 t410.length co32)) (fun _ hk => hk.2) (.slice Ao33 t413.length co33)) (fun _ hk => ⟨hk.1.1, hk.1.2⟩)))⟩; have n3_ : Aside0 (Kd.R k40 40 w34 w.heap.size (fun k_ => (w.heap.size ≤ k_)) (.slice Ao33 t413.length co33) t413) := ⟨(by rw [hw]; exact (by (with_reducible repeat (first | apply Kd.R_alloc | apply Kd.R_drewN | apply Kd.R_drew)); exact Kd.R_mono (Kd.R_far (p := ⟨gb417, 3, none⟩) (Kd.R_far (p := ⟨gb417, 2, none⟩) (Kd.R_far (p := ⟨gb417, 1, none⟩) (Kd.R_far (p := ⟨gb417, 0, none⟩) (Kd.R_types HO415.out BK417.out J11) (fun _ hk => hk.2) (.int .i64 t406)) (fun _ hk => hk.2) (.slice Ao31 t407.length co31)) (fun _ hk => hk.2) (.slice Ao32 t410.length co32)) (fun _ hk => hk.2) (.slice Ao33 t413.length co33)) (fun _ hk => hk.1.1)))⟩; have n4_ : Aside0 (w34.heap[gb394]? = some (.cells #[.int .i64 ((Xa l0 0).f0), .slice A393_1 ((Xa l0 0).f1).length c393_1, .slice A393_2 ((Xa l0 0).f2).length c393_2, .slice A393_3 ((Xa l0 0).f3).length c393_3] 32 (0, 0))) := ⟨(by rw [hw]; exact J43)⟩; have n5_ : Aside0 (w34.heap[gb417]? = some (.cells #[.int .i64 t406, .slice Ao31 t407.length co31, .slice Ao32 t410.length co32, .slice Ao33 t413.length co33] 32 (0, 0))) := ⟨(by rw [hw]; exact (by (with_reducible repeat (first | refine Xc ?_ _ | refine Xe ?_ | refine Xb ?_ _)); refine Xj (cs := #[.int .i64 t406, .slice Ao31 t407.length co31, .slice Ao32 t410.length co32, .slice none 0 0]) ?_ 3 _ rfl; (with_reducible repeat (first | refine Xc ?_ _ | refine Xe ?_ | refine Xb ?_ _)); refine Xj (cs := #[.int .i64 t406, .slice Ao31 t407.length co31, .slice none 0 0, .slice none 0 0]) ?_ 2 _ rfl; (with_reducible repeat (first | refine Xc ?_ _ | refine Xe ?_ | refine Xb ?_ _)); refine Xj (cs := #[.int .i64 t406, .slice none 0 0, .slice none 0 0, .slice none 0 0]) ?_ 1 _ rfl; (with_reducible repeat (first | refine Xc ?_ _ | refine Xe ?_ | refine Xb ?_ _)); refine Xj (cs := #[.int .i64 0, .slice none 0 0, .slice none 0 0, .slice none 0 0]) ?_ 0 _ rfl; (with_reducible repeat (first | refine Xc ?_ _ | refine Xe ?_ | refine Xb ?_ _)); exact BK417.out))⟩; have n6_ : Aside0 (Below w.heap.size w w34) := ⟨(by rw [hw]; exact (zs2 GE394.out GE417.out))⟩; clear hw; clear HO_4; clear HO409; clear HO412; clear HO415; clear BK394; clear BK417; clear HB; have HO_4 := n0_; have HO409 := n1_; have HO412 := n2_; have HO415 := n3_; have BK394 := n4_; have BK417 := n5_; have HB := n6_; clear n0_ n1_ n2_ n3_ n4_ n5_ n6_; obtain ⟨hcz35_0, hcz35_1, hcz35_2, hcz35_3, hfz35_0, hfz35_1, hfz35_2, hfz35_3⟩ := cz4 BK417.out) | ((with_reducible refine Xk (N := 46) rfl ?_); refine Kd.N_lit k32 _ 32 ?hg (N' := 46) ?hd (xs := ([(⟨t406, t407, t410, t413⟩ : S32)] : List (S32))) (inner := [.int .i64 t406, .slice Ao31 t407.length co31, .slice Ao32 t410.length co32, .slice Ao33 t413.length co33]) (ok := (fun k_ => (P0_ k_ ∨ w.heap.size ≤ k_) ∧ some k_ ≠ (.slice Ao15 x4_1.length co15 : Value).ownBlock ∧ k_ ≠ gb394 ∧ k_ ≠ gb417)) (okp := (fun k_ => (P0_ k_ ∨ w.heap.size ≤ k_) ∧ some k_ ≠ (.slice Ao15 x4_1.length co15 : Value).ownBlock ∧ k_ ≠ gb394 ∧ k_ ≠ gb417)) ?hr ?hp (fun _ hk => hk) ((show ∀ k_, w34.heap.size ≤ k_ → (fun k_ => (P0_ k_ ∨ w.heap.size ≤ k_) ∧ some k_ ≠ (.slice Ao15 x4_1.length co15 : Value).ownBlock ∧ k_ ≠ gb394 ∧ k_ ≠ gb417) k_ from fun k_ hk => ⟨(.inr (Nat.le_trans (Xf (zs2 GE394.out GE417.out)) hk)), Kd.fresh' (Kd.N_lt (zn HO_4.out)) k_ hk, Kd.freshB (g := gb394) (o := .cells #[.int .i64 ((Xa l0 0).f0), .slice A393_1 ((Xa l0 0).f1).length c393_1, .slice A393_2 ((Xa l0 0).f2).length c393_2, .slice A393_3 ((Xa l0 0).f3).length c393_3] 32 (0, 0)) (zk BK394.out) k_ hk, Kd.freshB (g := gb417) (o := .cells #[.int .i64 t406, .slice Ao31 t407.length co31, .slice Ao32 t410.length co32, .slice Ao33 t413.length co33] 32 (0, 0)) (zk BK417.out) k_ hk⟩) _ (Nat.le_refl _)) (Below.refl _ _) (Nat.le_refl _) J88 ?_; (case hd => rfl); (case hg => rfl); (case hr => first | (go_simp; done) | (go_simp; rfl)); (case hp => exact (Reps.c4 (show Kd.FK k32 _ _ (⟨t406, t407, t410, t413⟩ : S32) [.int .i64 t406, .slice Ao31 t407.length co31, .slice Ao32 t410.length co32, .slice Ao33 t413.length co33] from (Xcx _ _ (⟨t406, t407, t410, t413⟩ : S32) (Kd.R_reads' (Kd.R_mono (ok' := (fun k_ => (P0_ k_ ∨ w.heap.size ≤ k_) ∧ some k_ ≠ (.slice Ao15 x4_1.length co15 : Value).ownBlock ∧ k_ ≠ gb394 ∧ k_ ≠ gb417)) (Kd.R_types (Kd.R_types (Kd.R_apart' (HO409.out) (Kd.N_typed HO_4.out) J11) BK394.out J11) BK417.out J11) (fun k_ hk => ⟨(.inr (hk.1.1.1.1)), ⟨hk.1.1.2, ⟨hk.1.2, hk.2⟩⟩⟩))).2.1 (Kd.R_F (Kd.R_mono (ok' := (fun k_ => (P0_ k_ ∨ w.heap.size ≤ k_) ∧ some k_ ≠ (.slice Ao15 x4_1.length co15 : Value).ownBlock ∧ k_ ≠ gb394 ∧ k_ ≠ gb417)) (Kd.R_types (Kd.R_types (Kd.R_apart' (HO409.out) (Kd.N_typed HO_4.out) J11) BK394.out J11) BK417.out J11) (fun k_ hk => ⟨(.inr (hk.1.1.1.1)), ⟨hk.1.1.2, ⟨hk.1.2, hk.2⟩⟩⟩))) (Kd.R_reads' (Kd.R_mono (ok' := (fun k_ => (P0_ k_ ∨ w.heap.size ≤ k_) ∧ some k_ ≠ (.slice Ao15 x4_1.length co15 : Value).ownBlock ∧ k_ ≠ gb394 ∧ k_ ≠ gb417)) (Kd.R_types (Kd.R_types (Kd.R_apart' (HO412.out) (Kd.N_typed HO_4.out) J11) BK394.out J11) BK417.out J11) (fun k_ hk => ⟨(.inr (hk.1.1.1.1)), ⟨hk.1.1.2, ⟨hk.1.2, hk.2⟩⟩⟩))).2.1 (Kd.R_F (Kd.R_mono (ok' := (fun k_ => (P0_ k_ ∨ w.heap.size ≤ k_) ∧ some k_ ≠ (.slice Ao15 x4_1.length co15 : Value).ownBlock ∧ k_ ≠ gb394 ∧ k_ ≠ gb417)) (Kd.R_types (Kd.R_types (Kd.R_apart' (HO412.out) (Kd.N_typed HO_4.out) J11) BK394.out J11) BK417.out J11) (fun k_ hk => ⟨(.inr (hk.1.1.1.1)), ⟨hk.1.1.2, ⟨hk.1.2, hk.2⟩⟩⟩))) (Kd.R_reads' (Kd.R_mono (ok' := (fun k_ => (P0_ k_ ∨ w.heap.size ≤ k_) ∧ some k_ ≠ (.slice Ao15 x4_1.length co15 : Value).ownBlock ∧ k_ ≠ gb394 ∧ k_ ≠ gb417)) (Kd.R_types (Kd.R_types (Kd.R_apart' (HO415.out) (Kd.N_typed HO_4.out) J11) BK394.out J11) BK417.out J11) (fun k_ hk => ⟨(.inr (hk.1.1.1)), ⟨hk.1.1.2, ⟨hk.1.2, hk.2⟩⟩⟩))).2.1 (Kd.R_F (Kd.R_mono (ok' := (fun k_ => (P0_ k_ ∨ w.heap.size ≤ k_) ∧ some k_ ≠ (.slice Ao15 x4_1.length co15 : Value).ownBlock ∧ k_ ≠ gb394 ∧ k_ ≠ gb417)) (Kd.R_types (Kd.R_types (Kd.R_apart' (HO415.out) (Kd.N_typed HO_4.out) J11) BK394.out J11) BK417.out J11) (fun k_ hk => ⟨(.inr (hk.1.1.1)), ⟨hk.1.1.2, ⟨hk.1.2, hk.2⟩⟩⟩))))) (Reps.none _ _))); intro v419 w36 ho37 hb hg_ hnew_; clear hg_ hnew_; (first | rw [← Ny418.out] at ho37 | (simp only [Int.reduceToNat] at ho37; rw [← Ny418.out] at ho37)); replace HO_4 := zq (Kd.N_elder' (zn HO_4.out) (Kd.N_base ho37) hb); have HO420 := zq (Kd.N_lower ho37 (Xf (zs2 GE394.out GE417.out))); replace BK394 := zq (Xh (zk BK394.out) hb); replace BK417 := zq (Xh (zk BK417.out) hb); replace HB := zq (Xd (zs2 GE394.out GE417.out) hb); clear HO409 HO412 HO415; clear hb ho37))
      go_ret
      exact ⟨_, J2, by (with_reducible repeat (first | apply Kd.N_alloc | apply Kd.N_drewN | apply Kd.N_drew)); exact Kd.N_mono HO420.out (fun _ hk => hk.1), J123⟩
     ·refine yv H ?_; clear H; rintro t421 A38 H
      obtain ⟨y424, hy424⟩ : ∃ y_ : List (S32), y_ = (([(⟨5, t421, ([] : List Int), ([] : List (S40))⟩ : S32)] : List (S32))) := ⟨_, rfl⟩
      replace H : ((Xan.f k1 x4_1).bind fun t427 => (if y424.length + t427.length < 1759218604441 then (some (y424 ++ t427)) else (none))) = some r := by first | (rw [hy424]; with_reducible exact H) | (have H2_ := (Option.bind_some _ _).symm.trans H; rw [hy424]; with_reducible exact H2_) | (have H2_ := (Option.bind_some _ _).symm.trans H; with_reducible exact H2_) | with_reducible exact H | (rw [hy424]; exact H) | exact H
      have Ny424 := zq hy424
      clear hy424
      refine yv H ?_; clear H; rintro t427 A39 H
      refine yu H ?_ ?_ <;> clear H <;> rintro c40 H
      ·have LMc40 := zq c40
       clear c40
       obtain ⟨y430, hy430⟩ : ∃ y_ : List (S32), y_ = (y424 ++ t427) := ⟨_, rfl⟩
       replace H : (some y430) = some r := by first | (rw [hy430]; with_reducible exact H) | (have H2_ := (Option.bind_some _ _).symm.trans H; rw [hy430]; with_reducible exact H2_) | (have H2_ := (Option.bind_some _ _).symm.trans H; with_reducible exact H2_) | with_reducible exact H | (rw [hy430]; exact H) | exact H
       have Ny430 := zq hy430
       clear hy430
       obtain rfl := yo H
       obtain ⟨hcz41_0, hcz41_1, hcz41_2, hcz41_3, hfz41_0, hfz41_1, hfz41_2, hfz41_3⟩ := cz4 BK394.out
       go_wp2_with (first | ((first | ((with_reducible refine Xg (f := 61) rfl ?_); refine Xt (some 41) rfl rfl Tryd.func61 J8 rfl #[.slice A393_1 ((Xa l0 0).f1).length c393_1, .slice Ao15 x4_1.length co15] rfl J1 ?_) | go_at_call 61); (with_reducible refine (Xaa.calls k1 _ _ ((Xa l0 0).f1) _ _ x4_1 t406 t407 t410 t413 false _ ?side1 ?side2 ?side3 ?side4 A24.out).mono ?_); (case side1 => repeat (first | exact (Kd.C_below HW393_1.out HB.out) | exact (Kd.C_below HR393_1.out HB.out) | (with_reducible refine Kd.C_alloc ?_ _) | (with_reducible refine Kd.C_drewN ?_ _) | (with_reducible refine Kd.C_drew ?_))); (case side2 => exact HC393_1.out); (case side3 => exact zc ((Kd.N_reads' HO_4.out).2.2)); (case side4 => exact (Kd.N_reads' HO_4.out).2.1); rintro e w42 ⟨v408, v411, v414, rfl, ho0, ho1, ho2, hb⟩; (try refine ⟨_, rfl, ?_⟩); replace HO_4 := zq (Kd.N_mono (Kd.N_told (Kd.N_told (Kd.N_told (Kd.N_old (zn HO_4.out) hb) (Kd.R_base ho0)) (Kd.R_base ho1)) (Kd.R_base ho2)) (fun _ h_ => h_.1)); have HO409 := zq (Kd.R_lower (Kd.R_newM (M := fun k_ => (w.heap.size ≤ k_)) ho0 (Xf (zs1 GE394.out)) (fun k_ h_ => h_)) (Xf (zs1 GE394.out))); have HO412 := zq (Kd.R_lower (Kd.R_newM (M := fun k_ => (w.heap.size ≤ k_)) ho1 (Xf (zs1 GE394.out)) (fun k_ h_ => h_)) (Xf (zs1 GE394.out))); have HO415 := zq (Kd.R_lower (Kd.R_newM (M := fun k_ => (w.heap.size ≤ k_)) ho2 (Xf (zs1 GE394.out)) (fun k_ h_ => h_)) (Xf (zs1 GE394.out))); replace BK394 := zq (Xh (zk BK394.out) hb); replace HB := zq (Xd (zs1 GE394.out) hb); (try clear hb); (try clear hk); (try clear ho0); (try clear ho1); (try clear ho2)) | ((with_reducible refine Xk (N := 6) rfl ?_); refine bxw 6 32 #[.int .i64 0, .slice none 0 0, .slice none 0 0, .slice none 0 0] ?_; intro gb417 hg w43 hbox hb; replace HO_4 := zq (Kd.N_below (Kd.N_elderB (zn HO_4.out) gb417 (Nat.le_of_eq hg.symm)) hb); replace HO409 := zq (Kd.R_below (zr HO409.out) hb); replace HO412 := zq (Kd.R_below (zr HO412.out) hb); replace HO415 := zq (Kd.R_below (zr HO415.out) hb); have BK417 := zq (hbox); have GE417 := zq ((J96 : w.heap.size ≤ gb417)); replace HB := zq (Xd (zs1 GE394.out) hb); have NB394_417 := zq ((J29 : gb394 ≠ gb417)); have NB417_394 := zq ((J30 : gb417 ≠ gb394)); replace BK394 := zq (Xh (zk BK394.out) hb); clear hb hbox hg; have hnb44 := NB417_394.out; have hnc44 := NB394_417.out; obtain ⟨hcz45_0, hcz45_1, hcz45_2, hcz45_3, hfz45_0, hfz45_1, hfz45_2, hfz45_3⟩ := cz4 BK417.out; obtain ⟨Ao46, co46, eo46⟩ := Kd.R_slice HO409.out; subst eo46; obtain ⟨Ao47, co47, eo47⟩ := Kd.R_slice HO412.out; subst eo47; obtain ⟨Ao48, co48, eo48⟩ := Kd.R_slice HO415.out; subst eo48; obtain ⟨hcz49_0, hcz49_1, hcz49_2, hcz49_3, hfz49_0, hfz49_1, hfz49_2, hfz49_3⟩ := cz4 BK394.out) | ((first | ((with_reducible refine Xg (f := 42) rfl ?_); refine Xt (some 49) rfl rfl Tryd.func42 J8 rfl #[.slice A393_1 ((Xa l0 0).f1).length c393_1] rfl J1 ?_) | go_at_call 42); (with_reducible refine (Xam.calls _ _ ((Xa l0 0).f1) t421 _ ?side1 ?side2 A38.out).mono ?_); (case side1 => exact Kd.C_below HW393_1.out (zs2 GE394.out GE417.out)); (case side2 => exact HC393_1.out); rintro e w50 ⟨v422, rfl, ho0, hb⟩; (try refine ⟨_, rfl, ?_⟩); replace HO_4 := zq (Kd.N_elder' (by (with_reducible repeat (first | apply Kd.N_alloc | apply Kd.N_drewN | apply Kd.N_drew)); exact (Kd.N_mono (Kd.N_far (p := ⟨gb417, 3, none⟩) (Kd.N_far (p := ⟨gb417, 2, none⟩) (Kd.N_far (p := ⟨gb417, 1, none⟩) (Kd.N_far (p := ⟨gb417, 0, none⟩) (Kd.N_mono HO_4.out (fun k_ hk => (⟨hk, hk.2⟩ : _ ∧ k_ ≠ gb417))) (fun _ hk => hk.2) (.int .i64 t406)) (fun _ hk => hk.2) (.slice Ao46 t407.length co46)) (fun _ hk => hk.2) (.slice Ao47 t410.length co47)) (fun _ hk => hk.2) (.slice Ao48 t413.length co48)) (fun _ h_ => h_.1))) (Kd.R_base ho0) hb); replace HO415 := zq (Kd.R_below (by (with_reducible repeat (first | apply Kd.R_alloc | apply Kd.R_drewN | apply Kd.R_drew)); exact (Kd.R_mono (Kd.R_far (p := ⟨gb417, 3, none⟩) (Kd.R_far (p := ⟨gb417, 2, none⟩) (Kd.R_far (p := ⟨gb417, 1, none⟩) (Kd.R_far (p := ⟨gb417, 0, none⟩) (Kd.R_types HO415.out BK417.out J11) (fun _ hk => hk.2) (.int .i64 t406)) (fun _ hk => hk.2) (.slice Ao46 t407.length co46)) (fun _ hk => hk.2) (.slice Ao47 t410.length co47)) (fun _ hk => hk.2) (.slice Ao48 t413.length co48)) (fun _ h_ => h_.1))) hb); have HO423 := zq (Kd.R_lower (Kd.R_new' (Kd.R_new' (Kd.R_newM (M := fun k_ => (w.heap.size ≤ k_)) ho0 (Xf (zs2 GE394.out GE417.out)) (fun k_ h_ => h_)) (Kd.R_lt J63)) (Kd.R_lt J64)) (Xf (zs2 GE394.out GE417.out))); replace HO409 := zq (Kd.R_elder' J63 (Kd.R_base ho0) hb); replace HO412 := zq (Kd.R_elder' J64 (Kd.R_base ho0) hb); replace BK394 := zq (Xh (g := gb394) (o := .cells #[.int .i64 ((Xa l0 0).f0), .slice A393_1 ((Xa l0 0).f1).length c393_1, .slice A393_2 ((Xa l0 0).f2).length c393_2, .slice A393_3 ((Xa l0 0).f3).length c393_3] 32 (0, 0)) J43 hb); replace BK417 := zq (Xh (g := gb417) (o := .cells #[.int .i64 t406, .slice Ao46 t407.length co46, .slice Ao47 t410.length co47, .slice Ao48 t413.length co48] 32 (0, 0)) (by (with_reducible repeat (first | refine Xc ?_ _ | refine Xe ?_ | refine Xb ?_ _)); refine Xj (cs := #[.int .i64 t406, .slice Ao46 t407.length co46, .slice Ao47 t410.length co47, .slice none 0 0]) ?_ 3 _ rfl; (with_reducible repeat (first | refine Xc ?_ _ | refine Xe ?_ | refine Xb ?_ _)); refine Xj (cs := #[.int .i64 t406, .slice Ao46 t407.length co46, .slice none 0 0, .slice none 0 0]) ?_ 2 _ rfl; (with_reducible repeat (first | refine Xc ?_ _ | refine Xe ?_ | refine Xb ?_ _)); refine Xj (cs := #[.int .i64 t406, .slice none 0 0, .slice none 0 0, .slice none 0 0]) ?_ 1 _ rfl; (with_reducible repeat (first | refine Xc ?_ _ | refine Xe ?_ | refine Xb ?_ _)); refine Xj (cs := #[.int .i64 0, .slice none 0 0, .slice none 0 0, .slice none 0 0]) ?_ 0 _ rfl; (with_reducible repeat (first | refine Xc ?_ _ | refine Xe ?_ | refine Xb ?_ _)); exact BK417.out) hb); replace HB := zq (Xd (zs2 GE394.out GE417.out) hb); (try clear hb); (try clear hk); (try clear ho0); obtain ⟨Ao51, co51, eo51⟩ := Kd.R_slice HO423.out; subst eo51) | ((with_reducible refine Xk (N := 51) rfl ?_); refine Kd.N_lit k32 _ 32 ?hg (N' := 51) ?hd (xs := ([(⟨5, t421, ([] : List Int), ([] : List (S40))⟩ : S32)] : List (S32))) (inner := [.int .i64 5, .slice Ao51 t421.length co51, .slice none 0 0, .slice none 0 0]) (ok := (fun k_ => (P0_ k_ ∨ w.heap.size ≤ k_) ∧ some k_ ≠ (.slice Ao15 x4_1.length co15 : Value).ownBlock ∧ some k_ ≠ (.slice Ao46 t407.length co46 : Value).ownBlock ∧ some k_ ≠ (.slice Ao47 t410.length co47 : Value).ownBlock ∧ some k_ ≠ (.slice Ao48 t413.length co48 : Value).ownBlock ∧ k_ ≠ gb394 ∧ k_ ≠ gb417)) (okp := (fun k_ => (P0_ k_ ∨ w.heap.size ≤ k_) ∧ some k_ ≠ (.slice Ao15 x4_1.length co15 : Value).ownBlock ∧ some k_ ≠ (.slice Ao46 t407.length co46 : Value).ownBlock ∧ some k_ ≠ (.slice Ao47 t410.length co47 : Value).ownBlock ∧ some k_ ≠ (.slice Ao48 t413.length co48 : Value).ownBlock ∧ k_ ≠ gb394 ∧ k_ ≠ gb417)) ?hr ?hp (fun _ hk => hk) ((show ∀ k_, w50.heap.size ≤ k_ → (fun k_ => (P0_ k_ ∨ w.heap.size ≤ k_) ∧ some k_ ≠ (.slice Ao15 x4_1.length co15 : Value).ownBlock ∧ some k_ ≠ (.slice Ao46 t407.length co46 : Value).ownBlock ∧ some k_ ≠ (.slice Ao47 t410.length co47 : Value).ownBlock ∧ some k_ ≠ (.slice Ao48 t413.length co48 : Value).ownBlock ∧ k_ ≠ gb394 ∧ k_ ≠ gb417) k_ from fun k_ hk => ⟨(.inr (Nat.le_trans (Xf (zs2 GE394.out GE417.out)) hk)), Kd.fresh' (Kd.N_lt (zn HO_4.out)) k_ hk, Kd.fresh' (Kd.R_lt (zr HO409.out)) k_ hk, Kd.fresh' (Kd.R_lt (zr HO412.out)) k_ hk, Kd.fresh' (Kd.R_lt (zr HO415.out)) k_ hk, Kd.freshB (g := gb394) (o := .cells #[.int .i64 ((Xa l0 0).f0), .slice A393_1 ((Xa l0 0).f1).length c393_1, .slice A393_2 ((Xa l0 0).f2).length c393_2, .slice A393_3 ((Xa l0 0).f3).length c393_3] 32 (0, 0)) (zk BK394.out) k_ hk, Kd.freshB (g := gb417) (o := .cells #[.int .i64 t406, .slice Ao46 t407.length co46, .slice Ao47 t410.length co47, .slice Ao48 t413.length co48] 32 (0, 0)) (zk BK417.out) k_ hk⟩) _ (Nat.le_refl _)) (Below.refl _ _) (Nat.le_refl _) J88 ?_; (case hd => rfl); (case hg => rfl); (case hr => first | (go_simp; done) | (go_simp; rfl)); (case hp => exact (Reps.c4 (show Kd.FK k32 _ _ (⟨5, t421, ([] : List Int), ([] : List (S40))⟩ : S32) [.int .i64 5, .slice Ao51 t421.length co51, .slice none 0 0, .slice none 0 0] from (Xcx _ _ (⟨5, t421, ([] : List Int), ([] : List (S40))⟩ : S32) (Kd.R_reads' (Kd.R_mono (ok' := (fun k_ => (P0_ k_ ∨ w.heap.size ≤ k_) ∧ some k_ ≠ (.slice Ao15 x4_1.length co15 : Value).ownBlock ∧ some k_ ≠ (.slice Ao46 t407.length co46 : Value).ownBlock ∧ some k_ ≠ (.slice Ao47 t410.length co47 : Value).ownBlock ∧ some k_ ≠ (.slice Ao48 t413.length co48 : Value).ownBlock ∧ k_ ≠ gb394 ∧ k_ ≠ gb417)) (Kd.R_types (Kd.R_types (Kd.R_apart' (Kd.R_apart' (HO423.out) (Kd.N_typed HO_4.out) J11) (Kd.R_typed HO415.out) J11) BK394.out J11) BK417.out J11) (fun k_ hk => ⟨(.inr (hk.1.1.1.1.1.1.1)), ⟨hk.1.1.1.2, ⟨hk.1.1.1.1.1.2, ⟨hk.1.1.1.1.2, ⟨hk.1.1.2, ⟨hk.1.2, hk.2⟩⟩⟩⟩⟩⟩))).2.1 (Kd.R_F (Kd.R_mono (ok' := (fun k_ => (P0_ k_ ∨ w.heap.size ≤ k_) ∧ some k_ ≠ (.slice Ao15 x4_1.length co15 : Value).ownBlock ∧ some k_ ≠ (.slice Ao46 t407.length co46 : Value).ownBlock ∧ some k_ ≠ (.slice Ao47 t410.length co47 : Value).ownBlock ∧ some k_ ≠ (.slice Ao48 t413.length co48 : Value).ownBlock ∧ k_ ≠ gb394 ∧ k_ ≠ gb417)) (Kd.R_types (Kd.R_types (Kd.R_apart' (Kd.R_apart' (HO423.out) (Kd.N_typed HO_4.out) J11) (Kd.R_typed HO415.out) J11) BK394.out J11) BK417.out J11) (fun k_ hk => ⟨(.inr (hk.1.1.1.1.1.1.1)), ⟨hk.1.1.1.2, ⟨hk.1.1.1.1.1.2, ⟨hk.1.1.1.1.2, ⟨hk.1.1.2, ⟨hk.1.2, hk.2⟩⟩⟩⟩⟩⟩))) (Nat.le_refl _) (Kd.F_nil _ _ _) (Nat.le_refl _) (Kd.F_nil _ _ _))) (Reps.none _ _))); intro v425 w52 ho53 hb hg_ hnew_; clear hg_ hnew_; (first | rw [← Ny424.out] at ho53 | (simp only [Int.reduceToNat] at ho53; rw [← Ny424.out] at ho53)); replace HO_4 := zq (Kd.N_elder' (zn HO_4.out) (Kd.N_base ho53) hb); replace HO409 := zq (Kd.R_below (zr HO409.out) hb); replace HO412 := zq (Kd.R_below (zr HO412.out) hb); replace HO415 := zq (Kd.R_below (zr HO415.out) hb); have HO426 := zq (Kd.N_lower ho53 (Xf (zs2 GE394.out GE417.out))); replace BK394 := zq (Xh (zk BK394.out) hb); replace BK417 := zq (Xh (zk BK417.out) hb); replace HB := zq (Xd (zs2 GE394.out GE417.out) hb); clear HO423; clear hb ho53) | ((first | ((with_reducible refine Xg (f := 62) rfl ?_); refine Xt (some 53) rfl rfl Tryd.func62 J8 rfl #[.slice Ao15 x4_1.length co15] rfl J1 ?_) | go_at_call 62); (with_reducible refine (Xan.calls k1 (fun k_ => ((((((((P0_ k_ ∨ w.heap.size ≤ k_) ∧ k_ ≠ gb394) ∧ some k_ ≠ (.slice Ao46 t407.length co46 : Value).ownBlock) ∧ some k_ ≠ (.slice Ao47 t410.length co47 : Value).ownBlock) ∧ some k_ ≠ (.slice Ao48 t413.length co48 : Value).ownBlock) ∧ k_ ≠ gb417) ∧ some k_ ≠ (.slice Ao51 t421.length co51 : Value).ownBlock) ∧ some k_ ≠ (v425 : Value).ownBlock)) _ _ x4_1 t427 _ ?side1 A39.out).mono ?_); (case side1 => exact Kd.N_V (HO_4.out)); rintro e w54 ⟨v428, rfl, ho0, hb⟩; (try refine ⟨_, rfl, ?_⟩); have HO429 := zq (Kd.N_lower (Kd.N_mono (ok' := fun k_ => (P0_ k_ ∨ w.heap.size ≤ k_) ∧ some k_ ≠ (.slice Ao46 t407.length co46 : Value).ownBlock ∧ some k_ ≠ (.slice Ao47 t410.length co47 : Value).ownBlock ∧ some k_ ≠ (.slice Ao48 t413.length co48 : Value).ownBlock ∧ some k_ ≠ (v425 : Value).ownBlock ∧ k_ ≠ gb394 ∧ k_ ≠ gb417) ho0 (fun k_ hk_ => ⟨Or.elim hk_ (fun hs_ => hs_.1.1.1.1.1.1.1) (fun hn_ => (.inr (Nat.le_trans (Xf (zs2 GE394.out GE417.out)) hn_))), Or.elim hk_ (fun hs_ => hs_.1.1.1.1.1.2) (fun hn_ => (Kd.fresh' (Kd.R_lt (zr HO409.out)) k_ hn_)), Or.elim hk_ (fun hs_ => hs_.1.1.1.1.2) (fun hn_ => (Kd.fresh' (Kd.R_lt (zr HO412.out)) k_ hn_)), Or.elim hk_ (fun hs_ => hs_.1.1.1.2) (fun hn_ => (Kd.fresh' (Kd.R_lt (zr HO415.out)) k_ hn_)), Or.elim hk_ (fun hs_ => hs_.2) (fun hn_ => (Kd.fresh' (Kd.N_lt (zn HO426.out)) k_ hn_)), Or.elim hk_ (fun hs_ => hs_.1.1.1.1.1.1.2) (fun hn_ => (Kd.freshB (g := gb394) (o := .cells #[.int .i64 ((Xa l0 0).f0), .slice A393_1 ((Xa l0 0).f1).length c393_1, .slice A393_2 ((Xa l0 0).f2).length c393_2, .slice A393_3 ((Xa l0 0).f3).length c393_3] 32 (0, 0)) (zk BK394.out) k_ hn_)), Or.elim hk_ (fun hs_ => hs_.1.1.2) (fun hn_ => (Kd.freshB (g := gb417) (o := .cells #[.int .i64 t406, .slice Ao46 t407.length co46, .slice Ao47 t410.length co47, .slice Ao48 t413.length co48] 32 (0, 0)) (zk BK417.out) k_ hn_))⟩)) (Xf (zs2 GE394.out GE417.out))); replace HO409 := zq (Kd.R_below (zr HO409.out) hb); replace HO412 := zq (Kd.R_below (zr HO412.out) hb); replace HO415 := zq (Kd.R_below (zr HO415.out) hb); replace HO426 := zq (Kd.N_elder' (zn HO426.out) (Kd.N_base ho0) hb); replace BK394 := zq (Xh (zk BK394.out) hb); replace BK417 := zq (Xh (zk BK417.out) hb); replace HB := zq (Xd (zs2 GE394.out GE417.out) hb); (try clear hb); (try clear hk); (try clear ho0); obtain ⟨Ao56, co56, eo56⟩ := Kd.N_slice HO429.out; subst eo56) | ((with_reducible refine Xbt (b := .append) (xs := #[.tmp 51, .tmp 53]) rfl ?_); at_builtin; refine Kd.N_append_rows k32 (w0 := w) w.heap.size rfl (.tmp 51) (.tmp 53) 23 32 (.agg #[(.int .i64 0), (.slice none 0 0), (.slice none 0 0), (.slice none 0 0)]) 80 rfl Tryd.underlying23 Xd5 rfl J11 J35 v425 y424 t427 _ _ _ (fun k_ => (P0_ k_ ∨ w.heap.size ≤ k_) ∧ some k_ ≠ (.slice Ao46 t407.length co46 : Value).ownBlock ∧ some k_ ≠ (.slice Ao47 t410.length co47 : Value).ownBlock ∧ some k_ ≠ (.slice Ao48 t413.length co48 : Value).ownBlock ∧ k_ ≠ gb394 ∧ k_ ≠ gb417) (fun k_ => ((fun k_ => (P0_ k_ ∨ w.heap.size ≤ k_) ∧ some k_ ≠ (.slice Ao46 t407.length co46 : Value).ownBlock ∧ some k_ ≠ (.slice Ao47 t410.length co47 : Value).ownBlock ∧ some k_ ≠ (.slice Ao48 t413.length co48 : Value).ownBlock ∧ k_ ≠ gb394 ∧ k_ ≠ gb417)) k_ ∧ some k_ ≠ (v425 : Value).ownBlock) rfl rfl ?aO ?aR (fun _ hk => hk) ?aF ?aB ?aS ?aL ?_; (case aR => exact (by skip; exact Kd.N_F (Kd.N_mono (ok' := (fun k_ => ((fun k_ => (P0_ k_ ∨ w.heap.size ≤ k_) ∧ some k_ ≠ (.slice Ao46 t407.length co46 : Value).ownBlock ∧ some k_ ≠ (.slice Ao47 t410.length co47 : Value).ownBlock ∧ some k_ ≠ (.slice Ao48 t413.length co48 : Value).ownBlock ∧ k_ ≠ gb394 ∧ k_ ≠ gb417)) k_ ∧ some k_ ≠ (v425 : Value).ownBlock)) (HO429.out) (fun k_ hk => ⟨⟨hk.1, ⟨hk.2.1, ⟨hk.2.2.1, ⟨hk.2.2.2.1, ⟨hk.2.2.2.2.2.1, hk.2.2.2.2.2.2⟩⟩⟩⟩⟩, hk.2.2.2.2.1⟩)))); (case aB => exact (zs2 GE394.out GE417.out)); (case aF => exact (fun k_ hk => ⟨(.inr (Nat.le_trans (Xf (zs2 GE394.out GE417.out)) hk)), Kd.fresh' (Kd.R_lt (zr HO409.out)) k_ hk, Kd.fresh' (Kd.R_lt (zr HO412.out)) k_ hk, Kd.fresh' (Kd.R_lt (zr HO415.out)) k_ hk, Kd.freshB (g := gb394) (o := .cells #[.int .i64 ((Xa l0 0).f0), .slice A393_1 ((Xa l0 0).f1).length c393_1, .slice A393_2 ((Xa l0 0).f2).length c393_2, .slice A393_3 ((Xa l0 0).f3).length c393_3] 32 (0, 0)) (zk BK394.out) k_ hk, Kd.freshB (g := gb417) (o := .cells #[.int .i64 t406, .slice Ao46 t407.length co46, .slice Ao47 t410.length co47, .slice Ao48 t413.length co48] 32 (0, 0)) (zk BK417.out) k_ hk⟩)); (case aO => exact (by (with_reducible repeat (first | apply Kd.N_alloc | apply Kd.N_drewN | apply Kd.N_drew)); exact Kd.N_mono HO426.out (fun _ hk => ⟨hk.1.1, ⟨hk.1.2.2.1, ⟨hk.1.2.2.2.1, ⟨hk.1.2.2.2.2.1, ⟨hk.1.2.2.2.2.2.1, hk.1.2.2.2.2.2.2⟩⟩⟩⟩⟩))); (case aS => exact (Xf (zs2 GE394.out GE417.out))); (case aL => have := LMc40.out; omega); intro v431 w55 ho hb hg hat; rw [← Ny430.out] at ho; replace BK394 := zq (Xb7 (g := gb394) (o := .cells #[.int .i64 ((Xa l0 0).f0), .slice A393_1 ((Xa l0 0).f1).length c393_1, .slice A393_2 ((Xa l0 0).f2).length c393_2, .slice A393_3 ((Xa l0 0).f3).length c393_3] 32 (0, 0)) (zk BK394.out) hg (Kd.N_away HO426.out (fun _ hk => hk.1.2.2.2.2.2.1))); replace HB := zq (hb); have HO432 := zq (ho); clear HO426; clear ho hb hg hat))
       go_ret
       exact ⟨_, J2, by (with_reducible repeat (first | apply Kd.N_alloc | apply Kd.N_drewN | apply Kd.N_drew)); exact Kd.N_mono HO432.out (fun _ hk => hk.1), J123⟩
      ·exact absurd H J88
 refine yv H ?_; clear H; rintro t433 A57 H
 refine yv H ?_; clear H; rintro ⟨t436, t437, t440, t443, t446⟩ A58 H
 dsimp only at H
 obtain ⟨y448, hy448⟩ : ∃ y_ : List (S32), y_ = (([(⟨t436, t437, t440, t443⟩ : S32)] : List (S32))) := ⟨_, rfl⟩
 rw (occs := .pos [1]) [← hy448] at H
 have Ny448 := zq hy448
 clear hy448
 obtain rfl := yo H
 have p393 : 0 ≤ (0 : Int) := J35
 have q393 : 0 < (l0.length : Int) := of_decide_eq_true J3
 obtain ⟨ad393, A393_1, c393_1, A393_2, c393_2, A393_3, c393_3, e393, hx393_0, hx393_1, hx393_2, hx393_3, hl393_1, hi393_1, hl393_2, hi393_2, hl393_3, hi393_3⟩ := Xbz (Kd.V_reads' HO0.out).2.2 0 p393 q393
 cases e393
 obtain ⟨ce393, hce393, hMe393, hcc393⟩ := Kd.V_get HO0.out z32 0 p393 J126
 obtain ⟨ua393_1, uc393_1, ua393_2, uc393_2, ua393_3, uc393_3, rfl, ul393_1, ge393_1, ul393_2, ge393_2, ul393_3, ge393_3⟩ := Xeb hMe393
 have hv393_1 := hcc393 1 _ rfl
 rw [Xch _ _ 1 J35] at hv393_1
 replace hv393_1 := Option.some.inj (hv393_1.symm.trans hx393_1)
 injection hv393_1 with hva_ hvn_ hvc_
 rw [hva_] at ge393_1
 rw [hvc_] at ul393_1
 have HL393_1 := zq (show Kd.V (Kd.int .i64) 3 _ w.heap.size _ _ ((Xa l0 0).f1) from Kd.V_mk ul393_1 ge393_1)
 clear hva_ hvn_ hvc_ ge393_1 ul393_1
 have hv393_2 := hcc393 2 _ rfl
 rw [Xch _ _ 2 J35] at hv393_2
 replace hv393_2 := Option.some.inj (hv393_2.symm.trans hx393_2)
 injection hv393_2 with hva_ hvn_ hvc_
 rw [hva_] at ge393_2
 rw [hvc_] at ul393_2
 have HL393_2 := zq (show Kd.V (Kd.int .i64) 3 _ w.heap.size _ _ ((Xa l0 0).f2) from Kd.V_mk ul393_2 ge393_2)
 clear hva_ hvn_ hvc_ ge393_2 ul393_2
 have hv393_3 := hcc393 3 _ rfl
 rw [Xch _ _ 3 J35] at hv393_3
 replace hv393_3 := Option.some.inj (hv393_3.symm.trans hx393_3)
 injection hv393_3 with hva_ hvn_ hvc_
 rw [hva_] at ge393_3
 rw [hvc_] at ul393_3
 have HL393_3 := zq (show Kd.V k40 40 _ w.heap.size _ _ ((Xa l0 0).f3) from Kd.V_mk ul393_3 ge393_3)
 clear hva_ hvn_ hvc_ ge393_3 ul393_3
 clear hcc393 hce393
 have qi393 : (0 < l0.length) = True := eq_true J35
 (try rw [show ((0 : Int)).toNat = 0 from rfl] at hx393_0)
 (try rw [show 0 * 4 = 0 from rfl] at hx393_0)
 (try rw [Addr.add_zero'] at hx393_0)
 (try rw [show ((0 : Int)).toNat = 0 from rfl] at hx393_1)
 (try rw [show 0 * 4 = 0 from rfl] at hx393_1)
 (try rw [Addr.add_zero'] at hx393_1)
 (try rw [show ((0 : Int)).toNat = 0 from rfl] at hx393_2)
 (try rw [show 0 * 4 = 0 from rfl] at hx393_2)
 (try rw [Addr.add_zero'] at hx393_2)
 (try rw [show ((0 : Int)).toNat = 0 from rfl] at hx393_3)
 (try rw [show 0 * 4 = 0 from rfl] at hx393_3)
 (try rw [Addr.add_zero'] at hx393_3)
 have HR393_1 := zq hi393_1
 have HW393_1 := HR393_1
 have HC393_1 := zq hl393_1
 clear hi393_1 hl393_1
 have HR393_2 := zq hi393_2
 have HW393_2 := HR393_2
 have HC393_2 := zq hl393_2
 clear hi393_2 hl393_2
 have HR393_3 := zq hi393_3
 have HW393_3 := HR393_3
 have HC393_3 := zq hl393_3
 clear hi393_3 hl393_3
 replace p393 := eq_true p393
 replace q393 := eq_true q393
 go_enter Tryd.func33, Tryd.ntmps33
 try go_wp2_with (first | ((with_reducible refine Xk (N := 3) rfl ?_); refine bxw 3 32 #[.int .i64 0, .slice none 0 0, .slice none 0 0, .slice none 0 0] ?_; intro gb394 hg w59 hbox hb; replace HO0 := zq (Kd.V_below (Kd.V_elderB (zv HO0.out) gb394 (Nat.le_of_eq hg.symm)) hb); replace HL393_1 := zq (Kd.V_below (Kd.V_elderB (zv HL393_1.out) gb394 (Nat.le_of_eq hg.symm)) hb); replace HL393_2 := zq (Kd.V_below (Kd.V_elderB (zv HL393_2.out) gb394 (Nat.le_of_eq hg.symm)) hb); replace HL393_3 := zq (Kd.V_below (Kd.V_elderB (zv HL393_3.out) gb394 (Nat.le_of_eq hg.symm)) hb); have BK394 := zq (hbox); have GE394 := zq ((J12 : w.heap.size ≤ gb394)); replace HB := zq (Xd J0 hb); clear hb hbox hg; obtain ⟨hcz60_0, hcz60_1, hcz60_2, hcz60_3, hfz60_0, hfz60_1, hfz60_2, hfz60_3⟩ := cz4 BK394.out))
 have n0_ : Aside0 (Kd.V k32 32 ((((w59.setCell ⟨gb394, 0, none⟩ (.int .i64 ((Xa l0 0).f0))).setCell ⟨gb394, 1, none⟩ (.slice A393_1 ((Xa l0 0).f1).length c393_1)).setCell ⟨gb394, 2, none⟩ (.slice A393_2 ((Xa l0 0).f2).length c393_2)).setCell ⟨gb394, 3, none⟩ (.slice A393_3 ((Xa l0 0).f3).length c393_3)) w.heap.size (fun k_ => (P0_ k_ ∨ w.heap.size ≤ k_) ∧ k_ ≠ gb394) (.slice (some ad393) l0.length c0) l0) := ⟨by (with_reducible repeat (first | apply Kd.V_alloc | apply Kd.V_drewN | apply Kd.V_drew)); exact Kd.V_mono (Kd.V_far (p := ⟨gb394, 3, none⟩) (Kd.V_far (p := ⟨gb394, 2, none⟩) (Kd.V_far (p := ⟨gb394, 1, none⟩) (Kd.V_far (p := ⟨gb394, 0, none⟩) (Kd.V_mono HO0.out (fun k_ hk => (⟨hk, hk.2⟩ : _ ∧ k_ ≠ gb394))) (fun _ hk => hk.2) (.int .i64 ((Xa l0 0).f0))) (fun _ hk => hk.2) (.slice A393_1 ((Xa l0 0).f1).length c393_1)) (fun _ hk => hk.2) (.slice A393_2 ((Xa l0 0).f2).length c393_2)) (fun _ hk => hk.2) (.slice A393_3 ((Xa l0 0).f3).length c393_3)) (fun _ hk => ⟨hk.1.1, hk.1.2⟩)⟩
 have n1_ : Aside0 (Kd.V (Kd.int .i64) 3 ((((w59.setCell ⟨gb394, 0, none⟩ (.int .i64 ((Xa l0 0).f0))).setCell ⟨gb394, 1, none⟩ (.slice A393_1 ((Xa l0 0).f1).length c393_1)).setCell ⟨gb394, 2, none⟩ (.slice A393_2 ((Xa l0 0).f2).length c393_2)).setCell ⟨gb394, 3, none⟩ (.slice A393_3 ((Xa l0 0).f3).length c393_3)) w.heap.size (fun k_ => (P0_ k_ ∨ w.heap.size ≤ k_) ∧ k_ ≠ gb394) (.slice A393_1 ((Xa l0 0).f1).length c393_1) ((Xa l0 0).f1)) := ⟨by (with_reducible repeat (first | apply Kd.V_alloc | apply Kd.V_drewN | apply Kd.V_drew)); exact Kd.V_mono (Kd.V_far (p := ⟨gb394, 3, none⟩) (Kd.V_far (p := ⟨gb394, 2, none⟩) (Kd.V_far (p := ⟨gb394, 1, none⟩) (Kd.V_far (p := ⟨gb394, 0, none⟩) (Kd.V_mono HL393_1.out (fun k_ hk => (⟨hk, hk.2⟩ : _ ∧ k_ ≠ gb394))) (fun _ hk => hk.2) (.int .i64 ((Xa l0 0).f0))) (fun _ hk => hk.2) (.slice A393_1 ((Xa l0 0).f1).length c393_1)) (fun _ hk => hk.2) (.slice A393_2 ((Xa l0 0).f2).length c393_2)) (fun _ hk => hk.2) (.slice A393_3 ((Xa l0 0).f3).length c393_3)) (fun _ hk => ⟨hk.1.1, hk.1.2⟩)⟩
 have n2_ : Aside0 (Kd.V (Kd.int .i64) 3 ((((w59.setCell ⟨gb394, 0, none⟩ (.int .i64 ((Xa l0 0).f0))).setCell ⟨gb394, 1, none⟩ (.slice A393_1 ((Xa l0 0).f1).length c393_1)).setCell ⟨gb394, 2, none⟩ (.slice A393_2 ((Xa l0 0).f2).length c393_2)).setCell ⟨gb394, 3, none⟩ (.slice A393_3 ((Xa l0 0).f3).length c393_3)) w.heap.size (fun k_ => (P0_ k_ ∨ w.heap.size ≤ k_) ∧ k_ ≠ gb394) (.slice A393_2 ((Xa l0 0).f2).length c393_2) ((Xa l0 0).f2)) := ⟨by (with_reducible repeat (first | apply Kd.V_alloc | apply Kd.V_drewN | apply Kd.V_drew)); exact Kd.V_mono (Kd.V_far (p := ⟨gb394, 3, none⟩) (Kd.V_far (p := ⟨gb394, 2, none⟩) (Kd.V_far (p := ⟨gb394, 1, none⟩) (Kd.V_far (p := ⟨gb394, 0, none⟩) (Kd.V_mono HL393_2.out (fun k_ hk => (⟨hk, hk.2⟩ : _ ∧ k_ ≠ gb394))) (fun _ hk => hk.2) (.int .i64 ((Xa l0 0).f0))) (fun _ hk => hk.2) (.slice A393_1 ((Xa l0 0).f1).length c393_1)) (fun _ hk => hk.2) (.slice A393_2 ((Xa l0 0).f2).length c393_2)) (fun _ hk => hk.2) (.slice A393_3 ((Xa l0 0).f3).length c393_3)) (fun _ hk => ⟨hk.1.1, hk.1.2⟩)⟩
 have n3_ : Aside0 (Kd.V k40 40 ((((w59.setCell ⟨gb394, 0, none⟩ (.int .i64 ((Xa l0 0).f0))).setCell ⟨gb394, 1, none⟩ (.slice A393_1 ((Xa l0 0).f1).length c393_1)).setCell ⟨gb394, 2, none⟩ (.slice A393_2 ((Xa l0 0).f2).length c393_2)).setCell ⟨gb394, 3, none⟩ (.slice A393_3 ((Xa l0 0).f3).length c393_3)) w.heap.size (fun k_ => (P0_ k_ ∨ w.heap.size ≤ k_) ∧ k_ ≠ gb394) (.slice A393_3 ((Xa l0 0).f3).length c393_3) ((Xa l0 0).f3)) := ⟨by (with_reducible repeat (first | apply Kd.V_alloc | apply Kd.V_drewN | apply Kd.V_drew)); exact Kd.V_mono (Kd.V_far (p := ⟨gb394, 3, none⟩) (Kd.V_far (p := ⟨gb394, 2, none⟩) (Kd.V_far (p := ⟨gb394, 1, none⟩) (Kd.V_far (p := ⟨gb394, 0, none⟩) (Kd.V_mono HL393_3.out (fun k_ hk => (⟨hk, hk.2⟩ : _ ∧ k_ ≠ gb394))) (fun _ hk => hk.2) (.int .i64 ((Xa l0 0).f0))) (fun _ hk => hk.2) (.slice A393_1 ((Xa l0 0).f1).length c393_1)) (fun _ hk => hk.2) (.slice A393_2 ((Xa l0 0).f2).length c393_2)) (fun _ hk => hk.2) (.slice A393_3 ((Xa l0 0).f3).length c393_3)) (fun _ hk => ⟨hk.1.1, hk.1.2⟩)⟩
 have n4_ : Aside0 (((((w59.setCell ⟨gb394, 0, none⟩ (.int .i64 ((Xa l0 0).f0))).setCell ⟨gb394, 1, none⟩ (.slice A393_1 ((Xa l0 0).f1).length c393_1)).setCell ⟨gb394, 2, none⟩ (.slice A393_2 ((Xa l0 0).f2).length c393_2)).setCell ⟨gb394, 3, none⟩ (.slice A393_3 ((Xa l0 0).f3).length c393_3)).heap[gb394]? = some (.cells #[.int .i64 ((Xa l0 0).f0), .slice A393_1 ((Xa l0 0).f1).length c393_1, .slice A393_2 ((Xa l0 0).f2).length c393_2, .slice A393_3 ((Xa l0 0).f3).length c393_3] 32 (0, 0))) := ⟨J14⟩
 have n5_ : Aside0 (Below w.heap.size w ((((w59.setCell ⟨gb394, 0, none⟩ (.int .i64 ((Xa l0 0).f0))).setCell ⟨gb394, 1, none⟩ (.slice A393_1 ((Xa l0 0).f1).length c393_1)).setCell ⟨gb394, 2, none⟩ (.slice A393_2 ((Xa l0 0).f2).length c393_2)).setCell ⟨gb394, 3, none⟩ (.slice A393_3 ((Xa l0 0).f3).length c393_3))) := ⟨J67⟩
 (try clear HO0)
 (try clear HL393_1)
 (try clear HL393_2)
 (try clear HL393_3)
 (try clear BK394)
 (try clear HB)
 generalize ((((w59.setCell ⟨gb394, 0, none⟩ (.int .i64 ((Xa l0 0).f0))).setCell ⟨gb394, 1, none⟩ (.slice A393_1 ((Xa l0 0).f1).length c393_1)).setCell ⟨gb394, 2, none⟩ (.slice A393_2 ((Xa l0 0).f2).length c393_2)).setCell ⟨gb394, 3, none⟩ (.slice A393_3 ((Xa l0 0).f3).length c393_3)) = w61 at n0_ n1_ n2_ n3_ n4_ n5_ ⊢
 have HO0 := n0_
 have HL393_1 := n1_
 have HL393_2 := n2_
 have HL393_3 := n3_
 have BK394 := n4_
 have HB := n5_
 clear n0_ n1_ n2_ n3_ n4_ n5_
 replace HO0 := zq (Kd.V_drew HO0.out)
 replace HL393_1 := zq (Kd.V_drew HL393_1.out)
 replace HL393_2 := zq (Kd.V_drew HL393_2.out)
 replace HL393_3 := zq (Kd.V_drew HL393_3.out)
 replace BK394 := zq (Xe BK394.out)
 replace HB := zq (X8 HB.out)
 refine Xeh (n := 11) (S := fun w' => w'.cell? ⟨gb394, 0, none⟩ = some (.int .i64 ((Xa l0 0).f0)) ∧ w'.cell? ⟨gb394, 1, none⟩ = some (.slice A393_1 ((Xa l0 0).f1).length c393_1) ∧ w'.cell? ⟨gb394, 2, none⟩ = some (.slice A393_2 ((Xa l0 0).f2).length c393_2) ∧ w'.cell? ⟨gb394, 3, none⟩ = some (.slice A393_3 ((Xa l0 0).f3).length c393_3)) (ds := []) #[Z,Z,Z,Z,Z,Z,Z,Z,Z,Z,Z] J8 rfl rfl ⟨(Xm BK394.out 0).trans rfl, (Xm BK394.out 1).trans rfl, (Xm BK394.out 2).trans rfl, (Xm BK394.out 3).trans rfl⟩ (fun hHeld => ?_); refine Xc7 tight_form.tab16 tight_form.bits16 (fun HT_ HW_ => ?_)
 generalize w61.drew = w62 at HO0 HL393_1 HL393_2 HL393_3 BK394 HB hHeld ⊢
 refine Xbs (i := 0) (N := some 56) (v := ?_) (a' := ?_) #[Y,Z,Z,Z,Z,Z,Z,Z,Z,Z,Z] rfl rfl (Xbc HT_.out J8) (fun _ _ _ h => h) (Or.inl ⟨Xa5, ?_⟩) ?_ ?_
 rotate_left
 ·exact pz0
 rotate_left
 ·exact pz1
 refine Xd1 (i := 1) (N := some 57) (v := ?_) (a' := ?_) #[Y,Y,Z,Z,Z,Z,Z,Z,Z,Z,Z] rfl rfl (Xcw HT_.out HW_.out J8) (fun _ _ _ h => h) (Or.inl ⟨Xa5, ?_⟩) hHeld ?_ ?_
 rotate_left
 ·rintro w' ⟨s0, s1, s2, s3⟩
  go_simp
  with_reducible rfl
 rotate_left
 ·exact pz1
 refine Xd1 (i := 2) (N := some 58) (v := ?_) (a' := ?_) #[Y,Y,Y,Z,Z,Z,Z,Z,Z,Z,Z] rfl rfl (Xcw HT_.out HW_.out J8) (fun _ _ _ h => h) (Or.inl ⟨Xa5, ?_⟩) hHeld ?_ ?_
 rotate_left
 ·rintro w' ⟨s0, s1, s2, s3⟩
  go_simp
  with_reducible rfl
 rotate_left
 ·exact pz1
 refine join_ (σ := Value × Value × Value × Value × Nat) 2 #[Y,Y,Y,Y,Y,Y,Y,Y,Y,Z,Z] (fun s_ => [(59, s_.1), (60, .tuple #[.agg #[.int .i64 t436, s_.2.1, s_.2.2.1, s_.2.2.2.1], .bool t446]), (8, .pointer (some ⟨s_.2.2.2.2, 0, none⟩)), (55, .tuple #[.agg #[.int .i64 t436, s_.2.1, s_.2.2.1, s_.2.2.2.1], .bool t446]), (61, .agg #[.int .i64 t436, s_.2.1, s_.2.2.1, s_.2.2.2.1]), (62, .bool t446)]) (fun s_ w' => (w'.cell? ⟨gb394, 0, none⟩ = some (.int .i64 ((Xa l0 0).f0)) ∧ w'.cell? ⟨gb394, 1, none⟩ = some (.slice A393_1 ((Xa l0 0).f1).length c393_1) ∧ w'.cell? ⟨gb394, 2, none⟩ = some (.slice A393_2 ((Xa l0 0).f2).length c393_2) ∧ w'.cell? ⟨gb394, 3, none⟩ = some (.slice A393_3 ((Xa l0 0).f3).length c393_3)) ∧ (Kd.V (Kd.int .i64) 3 w' w.heap.size (fun k_ => (P0_ k_ ∨ w.heap.size ≤ k_) ∧ some k_ ≠ (s_.2.1 : Value).ownBlock ∧ some k_ ≠ (s_.2.2.1 : Value).ownBlock ∧ some k_ ≠ (s_.2.2.2.1 : Value).ownBlock ∧ k_ ≠ gb394 ∧ k_ ≠ s_.2.2.2.2) (.slice A393_1 ((Xa l0 0).f1).length c393_1) ((Xa l0 0).f1)) ∧ (Kd.V (Kd.int .i64) 3 w' w.heap.size (fun k_ => (P0_ k_ ∨ w.heap.size ≤ k_) ∧ some k_ ≠ (s_.2.1 : Value).ownBlock ∧ some k_ ≠ (s_.2.2.1 : Value).ownBlock ∧ some k_ ≠ (s_.2.2.2.1 : Value).ownBlock ∧ k_ ≠ gb394 ∧ k_ ≠ s_.2.2.2.2) (.slice A393_2 ((Xa l0 0).f2).length c393_2) ((Xa l0 0).f2)) ∧ (Kd.V k40 40 w' w.heap.size (fun k_ => (P0_ k_ ∨ w.heap.size ≤ k_) ∧ some k_ ≠ (s_.2.1 : Value).ownBlock ∧ some k_ ≠ (s_.2.2.1 : Value).ownBlock ∧ some k_ ≠ (s_.2.2.2.1 : Value).ownBlock ∧ k_ ≠ gb394 ∧ k_ ≠ s_.2.2.2.2) (.slice A393_3 ((Xa l0 0).f3).length c393_3) ((Xa l0 0).f3)) ∧ (Kd.V k32 32 w' w.heap.size (fun k_ => (P0_ k_ ∨ w.heap.size ≤ k_) ∧ some k_ ≠ (s_.2.1 : Value).ownBlock ∧ some k_ ≠ (s_.2.2.1 : Value).ownBlock ∧ some k_ ≠ (s_.2.2.2.1 : Value).ownBlock ∧ k_ ≠ gb394 ∧ k_ ≠ s_.2.2.2.2) (.slice (some ad393) l0.length c0) l0) ∧ (Kd.V k40 40 w' w.heap.size (fun k_ => (P0_ k_ ∨ w.heap.size ≤ k_) ∧ some k_ ≠ (s_.2.1 : Value).ownBlock ∧ some k_ ≠ (s_.2.2.1 : Value).ownBlock ∧ some k_ ≠ (s_.2.2.2.1 : Value).ownBlock ∧ k_ ≠ gb394 ∧ k_ ≠ s_.2.2.2.2) s_.1 t433) ∧ (Kd.R (Kd.int .i64) 3 w' w.heap.size (fun k_ => (w.heap.size ≤ k_) ∧ some k_ ≠ (s_.2.2.1 : Value).ownBlock) s_.2.1 t437) ∧ (Kd.R (Kd.int .i64) 3 w' w.heap.size (fun k_ => (w.heap.size ≤ k_) ∧ some k_ ≠ (s_.2.1 : Value).ownBlock) s_.2.2.1 t440) ∧ (Kd.R k40 40 w' w.heap.size (fun k_ => (w.heap.size ≤ k_)) s_.2.2.2.1 t443) ∧ (w'.heap[gb394]? = some (.cells #[.int .i64 ((Xa l0 0).f0), .slice A393_1 ((Xa l0 0).f1).length c393_1, .slice A393_2 ((Xa l0 0).f2).length c393_2, .slice A393_3 ((Xa l0 0).f3).length c393_3] 32 (0, 0))) ∧ (w'.heap[s_.2.2.2.2]? = some (.cells #[.int .i64 0, .slice none 0 0, .slice none 0 0, .slice none 0 0] 32 (0, 0))) ∧ (w.heap.size ≤ s_.2.2.2.2) ∧ (w.heap.size ≤ s_.2.2.2.2) ∧ (gb394 ≠ s_.2.2.2.2) ∧ (s_.2.2.2.2 ≠ gb394) ∧ (Below w.heap.size w w')) ?_ ?_
 rotate_left
 ·intro hCont
  refine two_ (i := 3) (j := 8) (Ni := some 59) (Nj := some 8) #[Y,Y,Y,Y,Z,Z,Z,Z,Z,Z,Z] #[Y,Y,Y,Z,Z,Z,Z,Z,Y,Z,Z] rfl rfl rfl rfl (two_of HT_.out J8) J11 J11 (fun K hK => ?_) (fun K hK => ?_)
  ·skip
   refine Xdj Tryd.func63 J8 rfl #[.agg #[.int .i64 ((Xa l0 0).f0), .slice A393_1 ((Xa l0 0).f1).length c393_1, .slice A393_2 ((Xa l0 0).f2).length c393_2, .slice A393_3 ((Xa l0 0).f3).length c393_3]] Xa5 rfl rfl J1 ?_
   with_reducible refine (Xak.calls k ((Xa l0 0).f0) _ _ ((Xa l0 0).f1) _ _ ((Xa l0 0).f2) (fun k_ => ((P0_ k_ ∨ w.heap.size ≤ k_) ∧ k_ ≠ gb394)) _ _ ((Xa l0 0).f3) t433 _ ?side1 ?side2 ?side3 ?side4 ?side5 A57.out).mono ?_
   (case side1 => repeat (first | exact ((Kd.V_reads' (zv HL393_1.out)).2.2) | (with_reducible refine Kd.C_alloc ?_ _) | (with_reducible refine Kd.C_drewN ?_ _) | (with_reducible refine Kd.C_drew ?_)))
   (case side2 => exact HC393_1.out)
   (case side3 => repeat (first | exact ((Kd.V_reads' (zv HL393_2.out)).2.2) | (with_reducible refine Kd.C_alloc ?_ _) | (with_reducible refine Kd.C_drewN ?_ _) | (with_reducible refine Kd.C_drew ?_)))
   (case side4 => exact HC393_2.out)
   (case side5 => exact HL393_3.out)
   rintro e w63 ⟨v434, rfl, ho0, hb⟩
   refine ⟨_, rfl, ?_⟩
   replace HO0 := zq (Kd.V_below (zv HO0.out) hb)
   replace HL393_1 := zq (Kd.V_below (zv HL393_1.out) hb)
   replace HL393_2 := zq (Kd.V_below (zv HL393_2.out) hb)
   replace HL393_3 := zq (Kd.V_below (zv HL393_3.out) hb)
   have HO435 := zq (Kd.V_lower (Kd.V_mono (ok' := fun k_ => (P0_ k_ ∨ w.heap.size ≤ k_) ∧ k_ ≠ gb394) ho0 (fun k_ hk_ => ⟨Or.elim hk_ (fun hs_ => hs_.1) (fun hn_ => (.inr (Nat.le_trans (Xf (zs1 GE394.out)) hn_))), Or.elim hk_ (fun hs_ => hs_.2) (fun hn_ => (Kd.freshB (g := gb394) (o := .cells #[.int .i64 ((Xa l0 0).f0), .slice A393_1 ((Xa l0 0).f1).length c393_1, .slice A393_2 ((Xa l0 0).f2).length c393_2, .slice A393_3 ((Xa l0 0).f3).length c393_3] 32 (0, 0)) (zk BK394.out) k_ hn_))⟩)) (Xf (zs1 GE394.out)))
   replace BK394 := zq (Xh (zk BK394.out) hb)
   replace HB := zq (Xd (zs1 GE394.out) hb)
   (try clear hb)
   (try clear hb2)
   (try clear hk)
   (try clear hi)
   (try clear ho0)
   obtain ⟨Ao64, co64, eo64⟩ := Kd.V_slice HO435.out
   (first | subst eo64 | (injection eo64 with f1_ f2_ f3_; have f4_ := f1_.symm; have f5_ := f3_.symm; clear f1_ f2_ f3_; subst f4_; subst f5_))
   refine hK.out _ _ ⟨(Xm BK394.out 0).trans rfl, (Xm BK394.out 1).trans rfl, (Xm BK394.out 2).trans rfl, (Xm BK394.out 3).trans rfl⟩ (fun hHeld => ?_)
   clear hK K
   refine Xcl (a' := ?_) ?_ ?_
   rotate_left
   ·show Act.put _ (some 59) _ = _
    simp only [Act.put, List.setIfInBounds_toArray, List.set_cons_zero, List.set_cons_succ, Xbd, Xbh]
    rfl
   refine two_ (i := 4) (j := 8) (Ni := some 60) (Nj := some 8) #[Y,Y,Y,Y,Y,Z,Z,Z,Z,Z,Z] #[Y,Y,Y,Y,Z,Z,Z,Z,Y,Z,Z] rfl rfl rfl rfl (two_of HT_.out J8) J11 J11 (fun K hK => ?_) (fun K hK => ?_)
   ·skip
    refine Xdj Tryd.func23 J8 rfl #[.slice A393_1 ((Xa l0 0).f1).length c393_1, .slice Ao64 t433.length co64] Xa5 rfl rfl J1 ?_
    with_reducible refine (Xz.calls k _ _ ((Xa l0 0).f1) _ _ t433 t436 t437 t440 t443 t446 _ ?side1 ?side2 ?side3 ?side4 A58.out).mono ?_
    (case side1 => repeat (first | exact ((Kd.V_reads' (zv HL393_1.out)).2.2) | (with_reducible refine Kd.C_alloc ?_ _) | (with_reducible refine Kd.C_drewN ?_ _) | (with_reducible refine Kd.C_drew ?_)))
    (case side2 => exact HC393_1.out)
    (case side3 => exact zc ((Kd.V_reads' HO435.out).2.2))
    (case side4 => exact (Kd.V_reads' HO435.out).2.1)
    rintro e w65 ⟨v438, v441, v444, rfl, ho0, ho1, ho2, hb⟩
    refine ⟨_, rfl, ?_⟩
    replace HO0 := zq (Kd.V_mono (Kd.V_told (Kd.V_told (Kd.V_told (Kd.V_old (zv HO0.out) hb) (Kd.R_base ho0)) (Kd.R_base ho1)) (Kd.R_base ho2)) (fun _ h_ => h_.1))
    replace HL393_1 := zq (Kd.V_mono (Kd.V_told (Kd.V_told (Kd.V_told (Kd.V_old (zv HL393_1.out) hb) (Kd.R_base ho0)) (Kd.R_base ho1)) (Kd.R_base ho2)) (fun _ h_ => h_.1))
    replace HL393_2 := zq (Kd.V_mono (Kd.V_told (Kd.V_told (Kd.V_told (Kd.V_old (zv HL393_2.out) hb) (Kd.R_base ho0)) (Kd.R_base ho1)) (Kd.R_base ho2)) (fun _ h_ => h_.1))
    replace HL393_3 := zq (Kd.V_mono (Kd.V_told (Kd.V_told (Kd.V_told (Kd.V_old (zv HL393_3.out) hb) (Kd.R_base ho0)) (Kd.R_base ho1)) (Kd.R_base ho2)) (fun _ h_ => h_.1))
    replace HO435 := zq (Kd.V_mono (Kd.V_told (Kd.V_told (Kd.V_told (Kd.V_old (zv HO435.out) hb) (Kd.R_base ho0)) (Kd.R_base ho1)) (Kd.R_base ho2)) (fun _ h_ => h_.1))
    have HO439 := zq (Kd.R_lower (Kd.R_newM (M := fun k_ => (w.heap.size ≤ k_)) ho0 (Xf (zs1 GE394.out)) (fun k_ h_ => h_)) (Xf (zs1 GE394.out)))
    have HO442 := zq (Kd.R_lower (Kd.R_newM (M := fun k_ => (w.heap.size ≤ k_)) ho1 (Xf (zs1 GE394.out)) (fun k_ h_ => h_)) (Xf (zs1 GE394.out)))
    have HO445 := zq (Kd.R_lower (Kd.R_newM (M := fun k_ => (w.heap.size ≤ k_)) ho2 (Xf (zs1 GE394.out)) (fun k_ h_ => h_)) (Xf (zs1 GE394.out)))
    replace BK394 := zq (Xh (zk BK394.out) hb)
    replace HB := zq (Xd (zs1 GE394.out) hb)
    (try clear hb)
    (try clear hb2)
    (try clear hk)
    (try clear hi)
    (try clear ho0)
    (try clear ho1)
    (try clear ho2)
    refine hK.out _ _ ⟨(Xm BK394.out 0).trans rfl, (Xm BK394.out 1).trans rfl, (Xm BK394.out 2).trans rfl, (Xm BK394.out 3).trans rfl⟩ (fun hHeld => ?_)
    clear hK K
    refine Xcl (a' := ?_) ?_ ?_
    rotate_left
    ·show Act.put _ (some 60) _ = _
     simp only [Act.put, List.setIfInBounds_toArray, List.set_cons_zero, List.set_cons_succ, Xbd, Xbh]
     rfl
    refine Xbs (i := 5) (N := some 55) (v := ?_) (a' := ?_) #[Y,Y,Y,Y,Y,Y,Z,Z,Z,Z,Z] rfl rfl (Xbc HT_.out J8) (fun _ _ _ h => h) (Or.inl ⟨Xa5, ?_⟩) ?_ ?_
    rotate_left
    ·exact pz0
    rotate_left
    ·exact pz1
    refine Xbs (i := 6) (N := some 61) (v := ?_) (a' := ?_) #[Y,Y,Y,Y,Y,Y,Y,Z,Z,Z,Z] rfl rfl (Xbc HT_.out J8) (fun _ _ _ h => h) (Or.inl ⟨Xa5, ?_⟩) ?_ ?_
    rotate_left
    ·exact pz0
    rotate_left
    ·exact pz1
    refine Xbs (i := 7) (N := some 62) (v := ?_) (a' := ?_) #[Y,Y,Y,Y,Y,Y,Y,Y,Z,Z,Z] rfl rfl (Xbc HT_.out J8) (fun _ _ _ h => h) (Or.inl ⟨Xa5, ?_⟩) ?_ ?_
    rotate_left
    ·exact pz0
    rotate_left
    ·exact pz1
    refine Xdy (i := 8) (N := some 8) #[Y,Y,Y,Y,Y,Y,Y,Y,Y,Z,Z] rfl rfl (Xct HT_.out J8) J11 (fun K hK => ?_)
    refine Xdv ?hg (N := 8) ?hd (cs := #[.int .i64 0, .slice none 0 0, .slice none 0 0, .slice none 0 0]) (t := 32) ?hr ?_; (case hd => rfl); (case hg => rfl); (case hr => first | (go_simp; done) | (go_simp; rfl))
    intro gb447 hg w66 hbox hb
    replace HO0 := zq (Kd.V_below (Kd.V_elderB (zv HO0.out) gb447 (Nat.le_of_eq hg.symm)) hb)
    replace HL393_1 := zq (Kd.V_below (Kd.V_elderB (zv HL393_1.out) gb447 (Nat.le_of_eq hg.symm)) hb)
    replace HL393_2 := zq (Kd.V_below (Kd.V_elderB (zv HL393_2.out) gb447 (Nat.le_of_eq hg.symm)) hb)
    replace HL393_3 := zq (Kd.V_below (Kd.V_elderB (zv HL393_3.out) gb447 (Nat.le_of_eq hg.symm)) hb)
    replace HO435 := zq (Kd.V_below (Kd.V_elderB (zv HO435.out) gb447 (Nat.le_of_eq hg.symm)) hb)
    replace HO439 := zq (Kd.R_below (zr HO439.out) hb)
    replace HO442 := zq (Kd.R_below (zr HO442.out) hb)
    replace HO445 := zq (Kd.R_below (zr HO445.out) hb)
    have BK447 := zq (hbox)
    have GW447 := zq ((J96 : w.heap.size ≤ gb447))
    have GE447 := zq ((J96 : w.heap.size ≤ gb447))
    replace HB := zq (Xd (zs1 GE394.out) hb)
    have NB394_447 := zq ((J29 : gb394 ≠ gb447))
    have NB447_394 := zq ((J30 : gb447 ≠ gb394))
    replace BK394 := zq (Xh (zk BK394.out) hb)
    clear hb hbox hg
    refine hK.out _ _ ⟨(Xm BK394.out 0).trans rfl, (Xm BK394.out 1).trans rfl, (Xm BK394.out 2).trans rfl, (Xm BK394.out 3).trans rfl⟩ (fun hHeld => ?_)
    clear hK K
    refine Xcl (a' := ?_) ?_ ?_
    rotate_left
    ·show Act.put _ (some 8) _ = _
     simp only [Act.put, List.setIfInBounds_toArray, List.set_cons_zero, List.set_cons_succ, Xbd, Xbh]
     rfl
    exact Xcl J72 (hCont (.slice Ao64 t433.length co64, v438, v441, v444, gb447) _ ⟨hHeld, (by (with_reducible repeat (first | apply Kd.V_alloc | apply Kd.V_drewN | apply Kd.V_drew)); exact Kd.V_mono HL393_1.out (fun _ hk => ⟨hk.1.1.1.1.1, ⟨hk.1.1.1.2, ⟨hk.1.1.2, ⟨hk.1.2, ⟨hk.1.1.1.1.2, hk.2⟩⟩⟩⟩⟩)), (by (with_reducible repeat (first | apply Kd.V_alloc | apply Kd.V_drewN | apply Kd.V_drew)); exact Kd.V_mono HL393_2.out (fun _ hk => ⟨hk.1.1.1.1.1, ⟨hk.1.1.1.2, ⟨hk.1.1.2, ⟨hk.1.2, ⟨hk.1.1.1.1.2, hk.2⟩⟩⟩⟩⟩)), (by (with_reducible repeat (first | apply Kd.V_alloc | apply Kd.V_drewN | apply Kd.V_drew)); exact Kd.V_mono HL393_3.out (fun _ hk => ⟨hk.1.1.1.1.1, ⟨hk.1.1.1.2, ⟨hk.1.1.2, ⟨hk.1.2, ⟨hk.1.1.1.1.2, hk.2⟩⟩⟩⟩⟩)), (by (with_reducible repeat (first | apply Kd.V_alloc | apply Kd.V_drewN | apply Kd.V_drew)); exact Kd.V_mono HO0.out (fun _ hk => ⟨hk.1.1.1.1.1, ⟨hk.1.1.1.2, ⟨hk.1.1.2, ⟨hk.1.2, ⟨hk.1.1.1.1.2, hk.2⟩⟩⟩⟩⟩)), (by (with_reducible repeat (first | apply Kd.V_alloc | apply Kd.V_drewN | apply Kd.V_drew)); exact Kd.V_mono HO435.out (fun _ hk => ⟨hk.1.1.1.1.1, ⟨hk.1.1.1.2, ⟨hk.1.1.2, ⟨hk.1.2, ⟨hk.1.1.1.1.2, hk.2⟩⟩⟩⟩⟩)), (zr HO439.out), (zr HO442.out), J104, (zk BK394.out), (zk BK447.out), GW447.out, GE447.out, NB394_447.out, NB447_394.out, (zs2 GE394.out GE447.out)⟩)
   ·skip
    refine Xdv ?hg (N := 8) ?hd (cs := #[.int .i64 0, .slice none 0 0, .slice none 0 0, .slice none 0 0]) (t := 32) ?hr ?_; (case hd => rfl); (case hg => rfl); (case hr => first | (go_simp; done) | (go_simp; rfl))
    intro gb447 hg w64 hbox hb
    replace HO0 := zq (Kd.V_below (Kd.V_elderB (zv HO0.out) gb447 (Nat.le_of_eq hg.symm)) hb)
    replace HL393_1 := zq (Kd.V_below (Kd.V_elderB (zv HL393_1.out) gb447 (Nat.le_of_eq hg.symm)) hb)
    replace HL393_2 := zq (Kd.V_below (Kd.V_elderB (zv HL393_2.out) gb447 (Nat.le_of_eq hg.symm)) hb)
    replace HL393_3 := zq (Kd.V_below (Kd.V_elderB (zv HL393_3.out) gb447 (Nat.le_of_eq hg.symm)) hb)
    replace HO435 := zq (Kd.V_below (Kd.V_elderB (zv HO435.out) gb447 (Nat.le_of_eq hg.symm)) hb)
    have BK447 := zq (hbox)
    have GW447 := zq ((J96 : w.heap.size ≤ gb447))
    have GE447 := zq ((J96 : w.heap.size ≤ gb447))
    replace HB := zq (Xd (zs1 GE394.out) hb)
    have NB394_447 := zq ((J29 : gb394 ≠ gb447))
    have NB447_394 := zq ((J30 : gb447 ≠ gb394))
    replace BK394 := zq (Xh (zk BK394.out) hb)
    clear hb hbox hg
    obtain ⟨Ao65, co65, eo65⟩ := Kd.V_slice HO435.out
    (first | subst eo65 | (injection eo65 with f1_ f2_ f3_; have f4_ := f1_.symm; have f5_ := f3_.symm; clear f1_ f2_ f3_; subst f4_; subst f5_))
    refine hK.out _ _ ⟨(Xm BK394.out 0).trans rfl, (Xm BK394.out 1).trans rfl, (Xm BK394.out 2).trans rfl, (Xm BK394.out 3).trans rfl⟩ (fun hHeld => ?_)
    clear hK K
    refine Xcl (a' := ?_) ?_ ?_
    rotate_left
    ·show Act.put _ (some 8) _ = _
     simp only [Act.put, List.setIfInBounds_toArray, List.set_cons_zero, List.set_cons_succ, Xbd, Xbh]
     rfl
    refine Xdy (i := 4) (N := some 60) #[Y,Y,Y,Y,Y,Z,Z,Z,Y,Z,Z] rfl rfl (Xct HT_.out J8) J11 (fun K hK => ?_)
    refine Xdj Tryd.func23 J8 rfl #[.slice A393_1 ((Xa l0 0).f1).length c393_1, .slice Ao65 t433.length co65] Xa5 rfl rfl J1 ?_
    with_reducible refine (Xz.calls k _ _ ((Xa l0 0).f1) _ _ t433 t436 t437 t440 t443 t446 _ ?side1 ?side2 ?side3 ?side4 A58.out).mono ?_
    (case side1 => repeat (first | exact ((Kd.V_reads' (zv HL393_1.out)).2.2) | (with_reducible refine Kd.C_alloc ?_ _) | (with_reducible refine Kd.C_drewN ?_ _) | (with_reducible refine Kd.C_drew ?_)))
    (case side2 => exact HC393_1.out)
    (case side3 => exact zc ((Kd.V_reads' HO435.out).2.2))
    (case side4 => exact (Kd.V_reads' HO435.out).2.1)
    rintro e w66 ⟨v438, v441, v444, rfl, ho0, ho1, ho2, hb⟩
    refine ⟨_, rfl, ?_⟩
    replace HO0 := zq (Kd.V_mono (Kd.V_told (Kd.V_told (Kd.V_told (Kd.V_old (zv HO0.out) hb) (Kd.R_base ho0)) (Kd.R_base ho1)) (Kd.R_base ho2)) (fun _ h_ => h_.1))
    replace HL393_1 := zq (Kd.V_mono (Kd.V_told (Kd.V_told (Kd.V_told (Kd.V_old (zv HL393_1.out) hb) (Kd.R_base ho0)) (Kd.R_base ho1)) (Kd.R_base ho2)) (fun _ h_ => h_.1))
    replace HL393_2 := zq (Kd.V_mono (Kd.V_told (Kd.V_told (Kd.V_told (Kd.V_old (zv HL393_2.out) hb) (Kd.R_base ho0)) (Kd.R_base ho1)) (Kd.R_base ho2)) (fun _ h_ => h_.1))
    replace HL393_3 := zq (Kd.V_mono (Kd.V_told (Kd.V_told (Kd.V_told (Kd.V_old (zv HL393_3.out) hb) (Kd.R_base ho0)) (Kd.R_base ho1)) (Kd.R_base ho2)) (fun _ h_ => h_.1))
    replace HO435 := zq (Kd.V_mono (Kd.V_told (Kd.V_told (Kd.V_told (Kd.V_old (zv HO435.out) hb) (Kd.R_base ho0)) (Kd.R_base ho1)) (Kd.R_base ho2)) (fun _ h_ => h_.1))
    have HO439 := zq (Kd.R_lower (Kd.R_newM (M := fun k_ => (w.heap.size ≤ k_)) ho0 (Xf (zs2 GE394.out GE447.out)) (fun k_ h_ => h_)) (Xf (zs2 GE394.out GE447.out)))
    have HO442 := zq (Kd.R_lower (Kd.R_newM (M := fun k_ => (w.heap.size ≤ k_)) ho1 (Xf (zs2 GE394.out GE447.out)) (fun k_ h_ => h_)) (Xf (zs2 GE394.out GE447.out)))
    have HO445 := zq (Kd.R_lower (Kd.R_newM (M := fun k_ => (w.heap.size ≤ k_)) ho2 (Xf (zs2 GE394.out GE447.out)) (fun k_ h_ => h_)) (Xf (zs2 GE394.out GE447.out)))
    replace BK394 := zq (Xh (zk BK394.out) hb)
    replace BK447 := zq (Xh (zk BK447.out) hb)
    replace HB := zq (Xd (zs2 GE394.out GE447.out) hb)
    (try clear hb)
    (try clear hb2)
    (try clear hk)
    (try clear hi)
    (try clear ho0)
    (try clear ho1)
    (try clear ho2)
    refine hK.out _ _ ⟨(Xm BK394.out 0).trans rfl, (Xm BK394.out 1).trans rfl, (Xm BK394.out 2).trans rfl, (Xm BK394.out 3).trans rfl⟩ (fun hHeld => ?_)
    clear hK K
    refine Xcl (a' := ?_) ?_ ?_
    rotate_left
    ·show Act.put _ (some 60) _ = _
     simp only [Act.put, List.setIfInBounds_toArray, List.set_cons_zero, List.set_cons_succ, Xbd, Xbh]
     rfl
    refine Xbs (i := 5) (N := some 55) (v := ?_) (a' := ?_) #[Y,Y,Y,Y,Y,Y,Z,Z,Y,Z,Z] rfl rfl (Xbc HT_.out J8) (fun _ _ _ h => h) (Or.inl ⟨Xa5, ?_⟩) ?_ ?_
    rotate_left
    ·exact pz0
    rotate_left
    ·exact pz1
    refine Xbs (i := 6) (N := some 61) (v := ?_) (a' := ?_) #[Y,Y,Y,Y,Y,Y,Y,Z,Y,Z,Z] rfl rfl (Xbc HT_.out J8) (fun _ _ _ h => h) (Or.inl ⟨Xa5, ?_⟩) ?_ ?_
    rotate_left
    ·exact pz0
    rotate_left
    ·exact pz1
    refine Xbs (i := 7) (N := some 62) (v := ?_) (a' := ?_) #[Y,Y,Y,Y,Y,Y,Y,Y,Y,Z,Z] rfl rfl (Xbc HT_.out J8) (fun _ _ _ h => h) (Or.inl ⟨Xa5, ?_⟩) ?_ ?_
    rotate_left
    ·exact pz0
    rotate_left
    ·exact pz1
    exact Xcl J72 (hCont (.slice Ao65 t433.length co65, v438, v441, v444, gb447) _ ⟨hHeld, J111, J112, J113, J116, (by (with_reducible repeat (first | apply Kd.V_alloc | apply Kd.V_drewN | apply Kd.V_drew)); exact Kd.V_mono HO435.out (fun _ hk => ⟨hk.1.1.1.1.1, ⟨hk.1.1.2, ⟨hk.1.2, ⟨hk.2, ⟨hk.1.1.1.1.2, hk.1.1.1.2⟩⟩⟩⟩⟩)), (zr HO439.out), (zr HO442.out), J104, (zk BK394.out), (zk BK447.out), GW447.out, GE447.out, NB394_447.out, NB447_394.out, (zs2 GE394.out GE447.out)⟩)
  ·skip
   refine Xdv ?hg (N := 8) ?hd (cs := #[.int .i64 0, .slice none 0 0, .slice none 0 0, .slice none 0 0]) (t := 32) ?hr ?_; (case hd => rfl); (case hg => rfl); (case hr => first | (go_simp; done) | (go_simp; rfl))
   intro gb447 hg w63 hbox hb
   replace HO0 := zq (Kd.V_below (Kd.V_elderB (zv HO0.out) gb447 (Nat.le_of_eq hg.symm)) hb)
   replace HL393_1 := zq (Kd.V_below (Kd.V_elderB (zv HL393_1.out) gb447 (Nat.le_of_eq hg.symm)) hb)
   replace HL393_2 := zq (Kd.V_below (Kd.V_elderB (zv HL393_2.out) gb447 (Nat.le_of_eq hg.symm)) hb)
   replace HL393_3 := zq (Kd.V_below (Kd.V_elderB (zv HL393_3.out) gb447 (Nat.le_of_eq hg.symm)) hb)
   have BK447 := zq (hbox)
   have GW447 := zq ((J96 : w.heap.size ≤ gb447))
   have GE447 := zq ((J96 : w.heap.size ≤ gb447))
   replace HB := zq (Xd (zs1 GE394.out) hb)
   have NB394_447 := zq ((J29 : gb394 ≠ gb447))
   have NB447_394 := zq ((J30 : gb447 ≠ gb394))
   replace BK394 := zq (Xh (zk BK394.out) hb)
   clear hb hbox hg
   refine hK.out _ _ ⟨(Xm BK394.out 0).trans rfl, (Xm BK394.out 1).trans rfl, (Xm BK394.out 2).trans rfl, (Xm BK394.out 3).trans rfl⟩ (fun hHeld => ?_)
   clear hK K
   refine Xcl (a' := ?_) ?_ ?_
   rotate_left
   ·show Act.put _ (some 8) _ = _
    simp only [Act.put, List.setIfInBounds_toArray, List.set_cons_zero, List.set_cons_succ, Xbd, Xbh]
    rfl
   refine Xdy (i := 3) (N := some 59) #[Y,Y,Y,Y,Z,Z,Z,Z,Y,Z,Z] rfl rfl (Xct HT_.out J8) J11 (fun K hK => ?_)
   refine Xdj Tryd.func63 J8 rfl #[.agg #[.int .i64 ((Xa l0 0).f0), .slice A393_1 ((Xa l0 0).f1).length c393_1, .slice A393_2 ((Xa l0 0).f2).length c393_2, .slice A393_3 ((Xa l0 0).f3).length c393_3]] Xa5 rfl rfl J1 ?_
   with_reducible refine (Xak.calls k ((Xa l0 0).f0) _ _ ((Xa l0 0).f1) _ _ ((Xa l0 0).f2) (fun k_ => (((P0_ k_ ∨ w.heap.size ≤ k_) ∧ k_ ≠ gb394) ∧ k_ ≠ gb447)) _ _ ((Xa l0 0).f3) t433 _ ?side1 ?side2 ?side3 ?side4 ?side5 A57.out).mono ?_
   (case side1 => repeat (first | exact ((Kd.V_reads' (zv HL393_1.out)).2.2) | (with_reducible refine Kd.C_alloc ?_ _) | (with_reducible refine Kd.C_drewN ?_ _) | (with_reducible refine Kd.C_drew ?_)))
   (case side2 => exact HC393_1.out)
   (case side3 => repeat (first | exact ((Kd.V_reads' (zv HL393_2.out)).2.2) | (with_reducible refine Kd.C_alloc ?_ _) | (with_reducible refine Kd.C_drewN ?_ _) | (with_reducible refine Kd.C_drew ?_)))
   (case side4 => exact HC393_2.out)
   (case side5 => exact HL393_3.out)
   rintro e w64 ⟨v434, rfl, ho0, hb⟩
   refine ⟨_, rfl, ?_⟩
   replace HO0 := zq (Kd.V_below (zv HO0.out) hb)
   replace HL393_1 := zq (Kd.V_below (zv HL393_1.out) hb)
   replace HL393_2 := zq (Kd.V_below (zv HL393_2.out) hb)
   replace HL393_3 := zq (Kd.V_below (zv HL393_3.out) hb)
   have HO435 := zq (Kd.V_lower (Kd.V_mono (ok' := fun k_ => (P0_ k_ ∨ w.heap.size ≤ k_) ∧ k_ ≠ gb394 ∧ k_ ≠ gb447) ho0 (fun k_ hk_ => ⟨Or.elim hk_ (fun hs_ => hs_.1.1) (fun hn_ => (.inr (Nat.le_trans (Xf (zs2 GE394.out GE447.out)) hn_))), Or.elim hk_ (fun hs_ => hs_.1.2) (fun hn_ => (Kd.freshB (g := gb394) (o := .cells #[.int .i64 ((Xa l0 0).f0), .slice A393_1 ((Xa l0 0).f1).length c393_1, .slice A393_2 ((Xa l0 0).f2).length c393_2, .slice A393_3 ((Xa l0 0).f3).length c393_3] 32 (0, 0)) (zk BK394.out) k_ hn_)), Or.elim hk_ (fun hs_ => hs_.2) (fun hn_ => (Kd.freshB (g := gb447) (o := .cells #[.int .i64 0, .slice none 0 0, .slice none 0 0, .slice none 0 0] 32 (0, 0)) (zk BK447.out) k_ hn_))⟩)) (Xf (zs2 GE394.out GE447.out)))
   replace BK394 := zq (Xh (zk BK394.out) hb)
   replace BK447 := zq (Xh (zk BK447.out) hb)
   replace HB := zq (Xd (zs2 GE394.out GE447.out) hb)
   (try clear hb)
   (try clear hb2)
   (try clear hk)
   (try clear hi)
   (try clear ho0)
   obtain ⟨Ao65, co65, eo65⟩ := Kd.V_slice HO435.out
   (first | subst eo65 | (injection eo65 with f1_ f2_ f3_; have f4_ := f1_.symm; have f5_ := f3_.symm; clear f1_ f2_ f3_; subst f4_; subst f5_))
   refine hK.out _ _ ⟨(Xm BK394.out 0).trans rfl, (Xm BK394.out 1).trans rfl, (Xm BK394.out 2).trans rfl, (Xm BK394.out 3).trans rfl⟩ (fun hHeld => ?_)
   clear hK K
   refine Xcl (a' := ?_) ?_ ?_
   rotate_left
   ·show Act.put _ (some 59) _ = _
    simp only [Act.put, List.setIfInBounds_toArray, List.set_cons_zero, List.set_cons_succ, Xbd, Xbh]
    rfl
   refine Xdy (i := 4) (N := some 60) #[Y,Y,Y,Y,Y,Z,Z,Z,Y,Z,Z] rfl rfl (Xct HT_.out J8) J11 (fun K hK => ?_)
   refine Xdj Tryd.func23 J8 rfl #[.slice A393_1 ((Xa l0 0).f1).length c393_1, .slice Ao65 t433.length co65] Xa5 rfl rfl J1 ?_
   with_reducible refine (Xz.calls k _ _ ((Xa l0 0).f1) _ _ t433 t436 t437 t440 t443 t446 _ ?side1 ?side2 ?side3 ?side4 A58.out).mono ?_
   (case side1 => repeat (first | exact ((Kd.V_reads' (zv HL393_1.out)).2.2) | (with_reducible refine Kd.C_alloc ?_ _) | (with_reducible refine Kd.C_drewN ?_ _) | (with_reducible refine Kd.C_drew ?_)))
   (case side2 => exact HC393_1.out)
   (case side3 => exact zc ((Kd.V_reads' HO435.out).2.2))
   (case side4 => exact (Kd.V_reads' HO435.out).2.1)
   rintro e w66 ⟨v438, v441, v444, rfl, ho0, ho1, ho2, hb⟩
   refine ⟨_, rfl, ?_⟩
   replace HO0 := zq (Kd.V_mono (Kd.V_told (Kd.V_told (Kd.V_told (Kd.V_old (zv HO0.out) hb) (Kd.R_base ho0)) (Kd.R_base ho1)) (Kd.R_base ho2)) (fun _ h_ => h_.1))
   replace HL393_1 := zq (Kd.V_mono (Kd.V_told (Kd.V_told (Kd.V_told (Kd.V_old (zv HL393_1.out) hb) (Kd.R_base ho0)) (Kd.R_base ho1)) (Kd.R_base ho2)) (fun _ h_ => h_.1))
   replace HL393_2 := zq (Kd.V_mono (Kd.V_told (Kd.V_told (Kd.V_told (Kd.V_old (zv HL393_2.out) hb) (Kd.R_base ho0)) (Kd.R_base ho1)) (Kd.R_base ho2)) (fun _ h_ => h_.1))
   replace HL393_3 := zq (Kd.V_mono (Kd.V_told (Kd.V_told (Kd.V_told (Kd.V_old (zv HL393_3.out) hb) (Kd.R_base ho0)) (Kd.R_base ho1)) (Kd.R_base ho2)) (fun _ h_ => h_.1))
   replace HO435 := zq (Kd.V_mono (Kd.V_told (Kd.V_told (Kd.V_told (Kd.V_old (zv HO435.out) hb) (Kd.R_base ho0)) (Kd.R_base ho1)) (Kd.R_base ho2)) (fun _ h_ => h_.1))
   have HO439 := zq (Kd.R_lower (Kd.R_newM (M := fun k_ => (w.heap.size ≤ k_)) ho0 (Xf (zs2 GE394.out GE447.out)) (fun k_ h_ => h_)) (Xf (zs2 GE394.out GE447.out)))
   have HO442 := zq (Kd.R_lower (Kd.R_newM (M := fun k_ => (w.heap.size ≤ k_)) ho1 (Xf (zs2 GE394.out GE447.out)) (fun k_ h_ => h_)) (Xf (zs2 GE394.out GE447.out)))
   have HO445 := zq (Kd.R_lower (Kd.R_newM (M := fun k_ => (w.heap.size ≤ k_)) ho2 (Xf (zs2 GE394.out GE447.out)) (fun k_ h_ => h_)) (Xf (zs2 GE394.out GE447.out)))
   replace BK394 := zq (Xh (zk BK394.out) hb)
   replace BK447 := zq (Xh (zk BK447.out) hb)
   replace HB := zq (Xd (zs2 GE394.out GE447.out) hb)
   (try clear hb)
   (try clear hb2)
   (try clear hk)
   (try clear hi)
   (try clear ho0)
   (try clear ho1)
   (try clear ho2)
   refine hK.out _ _ ⟨(Xm BK394.out 0).trans rfl, (Xm BK394.out 1).trans rfl, (Xm BK394.out 2).trans rfl, (Xm BK394.out 3).trans rfl⟩ (fun hHeld => ?_)
   clear hK K
   refine Xcl (a' := ?_) ?_ ?_
   rotate_left
   ·show Act.put _ (some 60) _ = _
    simp only [Act.put, List.setIfInBounds_toArray, List.set_cons_zero, List.set_cons_succ, Xbd, Xbh]
    rfl
   refine Xbs (i := 5) (N := some 55) (v := ?_) (a' := ?_) #[Y,Y,Y,Y,Y,Y,Z,Z,Y,Z,Z] rfl rfl (Xbc HT_.out J8) (fun _ _ _ h => h) (Or.inl ⟨Xa5, ?_⟩) ?_ ?_
   rotate_left
   ·exact pz0
   rotate_left
   ·exact pz1
   refine Xbs (i := 6) (N := some 61) (v := ?_) (a' := ?_) #[Y,Y,Y,Y,Y,Y,Y,Z,Y,Z,Z] rfl rfl (Xbc HT_.out J8) (fun _ _ _ h => h) (Or.inl ⟨Xa5, ?_⟩) ?_ ?_
   rotate_left
   ·exact pz0
   rotate_left
   ·exact pz1
   refine Xbs (i := 7) (N := some 62) (v := ?_) (a' := ?_) #[Y,Y,Y,Y,Y,Y,Y,Y,Y,Z,Z] rfl rfl (Xbc HT_.out J8) (fun _ _ _ h => h) (Or.inl ⟨Xa5, ?_⟩) ?_ ?_
   rotate_left
   ·exact pz0
   rotate_left
   ·exact pz1
   exact Xcl J72 (hCont (.slice Ao65 t433.length co65, v438, v441, v444, gb447) _ ⟨hHeld, J111, J112, J113, J116, (by (with_reducible repeat (first | apply Kd.V_alloc | apply Kd.V_drewN | apply Kd.V_drew)); exact Kd.V_mono HO435.out (fun _ hk => ⟨hk.1.1.1.1, ⟨hk.1.1.2, ⟨hk.1.2, ⟨hk.2, ⟨hk.1.1.1.2.1, hk.1.1.1.2.2⟩⟩⟩⟩⟩)), (zr HO439.out), (zr HO442.out), J104, (zk BK394.out), (zk BK447.out), GW447.out, GE447.out, NB394_447.out, NB447_394.out, (zs2 GE394.out GE447.out)⟩)
 rintro ⟨v434, v438, v441, v444, gb447⟩ w67 ⟨hS_, h0_, h1_, h2_, h3_, h4_, h5_, h6_, h7_, h8_, h9_, h10_, h11_, h12_, h13_, h14_⟩
 have n0_ : Aside0 (Kd.V (Kd.int .i64) 3 w67 w.heap.size (fun k_ => (P0_ k_ ∨ w.heap.size ≤ k_) ∧ some k_ ≠ (v438 : Value).ownBlock ∧ some k_ ≠ (v441 : Value).ownBlock ∧ some k_ ≠ (v444 : Value).ownBlock ∧ k_ ≠ gb394 ∧ k_ ≠ gb447) (.slice A393_1 ((Xa l0 0).f1).length c393_1) ((Xa l0 0).f1)) := ⟨h0_⟩
 have n1_ : Aside0 (Kd.V (Kd.int .i64) 3 w67 w.heap.size (fun k_ => (P0_ k_ ∨ w.heap.size ≤ k_) ∧ some k_ ≠ (v438 : Value).ownBlock ∧ some k_ ≠ (v441 : Value).ownBlock ∧ some k_ ≠ (v444 : Value).ownBlock ∧ k_ ≠ gb394 ∧ k_ ≠ gb447) (.slice A393_2 ((Xa l0 0).f2).length c393_2) ((Xa l0 0).f2)) := ⟨h1_⟩
 have n2_ : Aside0 (Kd.V k40 40 w67 w.heap.size (fun k_ => (P0_ k_ ∨ w.heap.size ≤ k_) ∧ some k_ ≠ (v438 : Value).ownBlock ∧ some k_ ≠ (v441 : Value).ownBlock ∧ some k_ ≠ (v444 : Value).ownBlock ∧ k_ ≠ gb394 ∧ k_ ≠ gb447) (.slice A393_3 ((Xa l0 0).f3).length c393_3) ((Xa l0 0).f3)) := ⟨h2_⟩
 have n3_ : Aside0 (Kd.V k32 32 w67 w.heap.size (fun k_ => (P0_ k_ ∨ w.heap.size ≤ k_) ∧ some k_ ≠ (v438 : Value).ownBlock ∧ some k_ ≠ (v441 : Value).ownBlock ∧ some k_ ≠ (v444 : Value).ownBlock ∧ k_ ≠ gb394 ∧ k_ ≠ gb447) (.slice (some ad393) l0.length c0) l0) := ⟨h3_⟩
 have n4_ : Aside0 (Kd.V k40 40 w67 w.heap.size (fun k_ => (P0_ k_ ∨ w.heap.size ≤ k_) ∧ some k_ ≠ (v438 : Value).ownBlock ∧ some k_ ≠ (v441 : Value).ownBlock ∧ some k_ ≠ (v444 : Value).ownBlock ∧ k_ ≠ gb394 ∧ k_ ≠ gb447) v434 t433) := ⟨h4_⟩
 have n5_ : Aside0 (Kd.R (Kd.int .i64) 3 w67 w.heap.size (fun k_ => (w.heap.size ≤ k_) ∧ some k_ ≠ (v441 : Value).ownBlock) v438 t437) := ⟨h5_⟩
 have n6_ : Aside0 (Kd.R (Kd.int .i64) 3 w67 w.heap.size (fun k_ => (w.heap.size ≤ k_) ∧ some k_ ≠ (v438 : Value).ownBlock) v441 t440) := ⟨h6_⟩
 have n7_ : Aside0 (Kd.R k40 40 w67 w.heap.size (fun k_ => (w.heap.size ≤ k_)) v444 t443) := ⟨h7_⟩
 have n8_ : Aside0 (w67.heap[gb394]? = some (.cells #[.int .i64 ((Xa l0 0).f0), .slice A393_1 ((Xa l0 0).f1).length c393_1, .slice A393_2 ((Xa l0 0).f2).length c393_2, .slice A393_3 ((Xa l0 0).f3).length c393_3] 32 (0, 0))) := ⟨h8_⟩
 have n9_ : Aside0 (w67.heap[gb447]? = some (.cells #[.int .i64 0, .slice none 0 0, .slice none 0 0, .slice none 0 0] 32 (0, 0))) := ⟨h9_⟩
 have n10_ : Aside0 (w.heap.size ≤ gb447) := ⟨h10_⟩
 have n11_ : Aside0 (w.heap.size ≤ gb447) := ⟨h11_⟩
 have n12_ : Aside0 (gb394 ≠ gb447) := ⟨h12_⟩
 have n13_ : Aside0 (gb447 ≠ gb394) := ⟨h13_⟩
 have n14_ : Aside0 (Below w.heap.size w w67) := ⟨h14_⟩
 clear HO0
 clear HL393_1
 clear HL393_2
 clear HL393_3
 clear BK394
 clear HB
 clear h0_ h1_ h2_ h3_ h4_ h5_ h6_ h7_ h8_ h9_ h10_ h11_ h12_ h13_ h14_
 have HL393_1 := n0_
 have HL393_2 := n1_
 have HL393_3 := n2_
 have HO0 := n3_
 have HO435 := n4_
 have HO439 := n5_
 have HO442 := n6_
 have HO445 := n7_
 have BK394 := n8_
 have BK447 := n9_
 have GW447 := n10_
 have GE447 := n11_
 have NB394_447 := n12_
 have NB447_394 := n13_
 have HB := n14_
 clear n0_ n1_ n2_ n3_ n4_ n5_ n6_ n7_ n8_ n9_ n10_ n11_ n12_ n13_ n14_
 have hHeld : w67.cell? ⟨gb394, 0, none⟩ = some (.int .i64 ((Xa l0 0).f0)) ∧ w67.cell? ⟨gb394, 1, none⟩ = some (.slice A393_1 ((Xa l0 0).f1).length c393_1) ∧ w67.cell? ⟨gb394, 2, none⟩ = some (.slice A393_2 ((Xa l0 0).f2).length c393_2) ∧ w67.cell? ⟨gb394, 3, none⟩ = some (.slice A393_3 ((Xa l0 0).f3).length c393_3) := hS_
 obtain ⟨Ao69, co69, eo69⟩ := Kd.R_slice HO439.out
 (first | subst eo69 | (injection eo69 with f1_ f2_ f3_; have f4_ := f1_.symm; have f5_ := f3_.symm; clear f1_ f2_ f3_; subst f4_; subst f5_))
 obtain ⟨Ao71, co71, eo71⟩ := Kd.R_slice HO442.out
 (first | subst eo71 | (injection eo71 with f1_ f2_ f3_; have f4_ := f1_.symm; have f5_ := f3_.symm; clear f1_ f2_ f3_; subst f4_; subst f5_))
 obtain ⟨Ao73, co73, eo73⟩ := Kd.R_slice HO445.out
 (first | subst eo73 | (injection eo73 with f1_ f2_ f3_; have f4_ := f1_.symm; have f5_ := f3_.symm; clear f1_ f2_ f3_; subst f4_; subst f5_))
 refine Xcl (a' := ?_) ?_ ?_
 rotate_left
 ·simp only [putAll, Act.put, List.setIfInBounds_toArray, List.set_cons_zero, List.set_cons_succ]
  rfl
 refine Xdy (i := 9) (N := none) #[Y,Y,Y,Y,Y,Y,Y,Y,Y,Y,Z] rfl rfl (Xct HT_.out J8) J11 (fun K hK => ?_)
 have hs68 : w67.cell? ⟨gb447, 0, none⟩ = some (.int .i64 0) := (Xm BK447.out 0).trans rfl
 have hfs68 := Xa8 BK447.out 0
 have hns68_0 := NB394_447.out
 have hms68_0 := NB447_394.out
 have hs70 : w67.cell? ⟨gb447, 1, none⟩ = some (.slice none 0 0) := (Xm BK447.out 1).trans rfl
 have hfs70 := Xa8 BK447.out 1
 have hns70_0 := NB394_447.out
 have hms70_0 := NB447_394.out
 have hs72 : w67.cell? ⟨gb447, 2, none⟩ = some (.slice none 0 0) := (Xm BK447.out 2).trans rfl
 have hfs72 := Xa8 BK447.out 2
 have hns72_0 := NB394_447.out
 have hms72_0 := NB447_394.out
 have hs74 : w67.cell? ⟨gb447, 3, none⟩ = some (.slice none 0 0) := (Xm BK447.out 3).trans rfl
 have hfs74 := Xa8 BK447.out 3
 have hns74_0 := NB394_447.out
 have hms74_0 := NB447_394.out
 refine skip_ (w1 := ?_) Xa5 rfl ?_ ?_
 rotate_left
 ·go_simp
  rfl
 refine hK.out _ _ ⟨((X7 (p := ⟨gb447, _, none⟩) NB394_447.out _).trans (((X7 (p := ⟨gb447, _, none⟩) NB394_447.out _).trans (((X7 (p := ⟨gb447, _, none⟩) NB394_447.out _).trans (((X7 (p := ⟨gb447, _, none⟩) NB394_447.out _).trans (hHeld.1)))))))), ((X7 (p := ⟨gb447, _, none⟩) NB394_447.out _).trans (((X7 (p := ⟨gb447, _, none⟩) NB394_447.out _).trans (((X7 (p := ⟨gb447, _, none⟩) NB394_447.out _).trans (((X7 (p := ⟨gb447, _, none⟩) NB394_447.out _).trans (hHeld.2.1)))))))), ((X7 (p := ⟨gb447, _, none⟩) NB394_447.out _).trans (((X7 (p := ⟨gb447, _, none⟩) NB394_447.out _).trans (((X7 (p := ⟨gb447, _, none⟩) NB394_447.out _).trans (((X7 (p := ⟨gb447, _, none⟩) NB394_447.out _).trans (hHeld.2.2.1)))))))), ((X7 (p := ⟨gb447, _, none⟩) NB394_447.out _).trans (((X7 (p := ⟨gb447, _, none⟩) NB394_447.out _).trans (((X7 (p := ⟨gb447, _, none⟩) NB394_447.out _).trans (((X7 (p := ⟨gb447, _, none⟩) NB394_447.out _).trans (hHeld.2.2.2))))))))⟩ (fun hHeld => ?_)
 clear hK K
 refine Xbs (i := 10) (N := some 9) (v := ?_) (a' := ?_) #[Y,Y,Y,Y,Y,Y,Y,Y,Y,Y,Y] rfl rfl (Xbc HT_.out J8) (fun _ _ _ h => h) (Or.inl ⟨Xa5, ?_⟩) ?_ ?_
 rotate_left
 ·exact pz0
 rotate_left
 ·exact pz1
 refine done_ (Xdz HT_.out J8) ?_
 have n0_ : Aside0 (Kd.V k32 32 ((((w67.setCell ⟨gb447, 0, none⟩ (.int .i64 t436)).setCell ⟨gb447, 1, none⟩ (.slice Ao69 t437.length co69)).setCell ⟨gb447, 2, none⟩ (.slice Ao71 t440.length co71)).setCell ⟨gb447, 3, none⟩ (.slice Ao73 t443.length co73)) w.heap.size (fun k_ => (P0_ k_ ∨ w.heap.size ≤ k_) ∧ some k_ ≠ (.slice Ao69 t437.length co69 : Value).ownBlock ∧ some k_ ≠ (.slice Ao71 t440.length co71 : Value).ownBlock ∧ some k_ ≠ (.slice Ao73 t443.length co73 : Value).ownBlock ∧ k_ ≠ gb394 ∧ k_ ≠ gb447) (.slice (some ad393) l0.length c0) l0) := ⟨by (with_reducible repeat (first | apply Kd.V_alloc | apply Kd.V_drewN | apply Kd.V_drew)); exact Kd.V_mono (Kd.V_far (p := ⟨gb447, 3, none⟩) (Kd.V_far (p := ⟨gb447, 2, none⟩) (Kd.V_far (p := ⟨gb447, 1, none⟩) (Kd.V_far (p := ⟨gb447, 0, none⟩) (Kd.V_mono HO0.out (fun k_ hk => (⟨hk, hk.2.2.2.2.2⟩ : _ ∧ k_ ≠ gb447))) (fun _ hk => hk.2) (.int .i64 t436)) (fun _ hk => hk.2) (.slice Ao69 t437.length co69)) (fun _ hk => hk.2) (.slice Ao71 t440.length co71)) (fun _ hk => hk.2) (.slice Ao73 t443.length co73)) (fun _ hk => ⟨hk.1.1, ⟨hk.1.2.1, ⟨hk.1.2.2.1, ⟨hk.1.2.2.2.1, ⟨hk.1.2.2.2.2.1, hk.1.2.2.2.2.2⟩⟩⟩⟩⟩)⟩
 have n1_ : Aside0 (Kd.V (Kd.int .i64) 3 ((((w67.setCell ⟨gb447, 0, none⟩ (.int .i64 t436)).setCell ⟨gb447, 1, none⟩ (.slice Ao69 t437.length co69)).setCell ⟨gb447, 2, none⟩ (.slice Ao71 t440.length co71)).setCell ⟨gb447, 3, none⟩ (.slice Ao73 t443.length co73)) w.heap.size (fun k_ => (P0_ k_ ∨ w.heap.size ≤ k_) ∧ some k_ ≠ (.slice Ao69 t437.length co69 : Value).ownBlock ∧ some k_ ≠ (.slice Ao71 t440.length co71 : Value).ownBlock ∧ some k_ ≠ (.slice Ao73 t443.length co73 : Value).ownBlock ∧ k_ ≠ gb394 ∧ k_ ≠ gb447) (.slice A393_1 ((Xa l0 0).f1).length c393_1) ((Xa l0 0).f1)) := ⟨by (with_reducible repeat (first | apply Kd.V_alloc | apply Kd.V_drewN | apply Kd.V_drew)); exact Kd.V_mono (Kd.V_far (p := ⟨gb447, 3, none⟩) (Kd.V_far (p := ⟨gb447, 2, none⟩) (Kd.V_far (p := ⟨gb447, 1, none⟩) (Kd.V_far (p := ⟨gb447, 0, none⟩) (Kd.V_mono HL393_1.out (fun k_ hk => (⟨hk, hk.2.2.2.2.2⟩ : _ ∧ k_ ≠ gb447))) (fun _ hk => hk.2) (.int .i64 t436)) (fun _ hk => hk.2) (.slice Ao69 t437.length co69)) (fun _ hk => hk.2) (.slice Ao71 t440.length co71)) (fun _ hk => hk.2) (.slice Ao73 t443.length co73)) (fun _ hk => ⟨hk.1.1, ⟨hk.1.2.1, ⟨hk.1.2.2.1, ⟨hk.1.2.2.2.1, ⟨hk.1.2.2.2.2.1, hk.1.2.2.2.2.2⟩⟩⟩⟩⟩)⟩
 have n2_ : Aside0 (Kd.V (Kd.int .i64) 3 ((((w67.setCell ⟨gb447, 0, none⟩ (.int .i64 t436)).setCell ⟨gb447, 1, none⟩ (.slice Ao69 t437.length co69)).setCell ⟨gb447, 2, none⟩ (.slice Ao71 t440.length co71)).setCell ⟨gb447, 3, none⟩ (.slice Ao73 t443.length co73)) w.heap.size (fun k_ => (P0_ k_ ∨ w.heap.size ≤ k_) ∧ some k_ ≠ (.slice Ao69 t437.length co69 : Value).ownBlock ∧ some k_ ≠ (.slice Ao71 t440.length co71 : Value).ownBlock ∧ some k_ ≠ (.slice Ao73 t443.length co73 : Value).ownBlock ∧ k_ ≠ gb394 ∧ k_ ≠ gb447) (.slice A393_2 ((Xa l0 0).f2).length c393_2) ((Xa l0 0).f2)) := ⟨by (with_reducible repeat (first | apply Kd.V_alloc | apply Kd.V_drewN | apply Kd.V_drew)); exact Kd.V_mono (Kd.V_far (p := ⟨gb447, 3, none⟩) (Kd.V_far (p := ⟨gb447, 2, none⟩) (Kd.V_far (p := ⟨gb447, 1, none⟩) (Kd.V_far (p := ⟨gb447, 0, none⟩) (Kd.V_mono HL393_2.out (fun k_ hk => (⟨hk, hk.2.2.2.2.2⟩ : _ ∧ k_ ≠ gb447))) (fun _ hk => hk.2) (.int .i64 t436)) (fun _ hk => hk.2) (.slice Ao69 t437.length co69)) (fun _ hk => hk.2) (.slice Ao71 t440.length co71)) (fun _ hk => hk.2) (.slice Ao73 t443.length co73)) (fun _ hk => ⟨hk.1.1, ⟨hk.1.2.1, ⟨hk.1.2.2.1, ⟨hk.1.2.2.2.1, ⟨hk.1.2.2.2.2.1, hk.1.2.2.2.2.2⟩⟩⟩⟩⟩)⟩
 have n3_ : Aside0 (Kd.V k40 40 ((((w67.setCell ⟨gb447, 0, none⟩ (.int .i64 t436)).setCell ⟨gb447, 1, none⟩ (.slice Ao69 t437.length co69)).setCell ⟨gb447, 2, none⟩ (.slice Ao71 t440.length co71)).setCell ⟨gb447, 3, none⟩ (.slice Ao73 t443.length co73)) w.heap.size (fun k_ => (P0_ k_ ∨ w.heap.size ≤ k_) ∧ some k_ ≠ (.slice Ao69 t437.length co69 : Value).ownBlock ∧ some k_ ≠ (.slice Ao71 t440.length co71 : Value).ownBlock ∧ some k_ ≠ (.slice Ao73 t443.length co73 : Value).ownBlock ∧ k_ ≠ gb394 ∧ k_ ≠ gb447) (.slice A393_3 ((Xa l0 0).f3).length c393_3) ((Xa l0 0).f3)) := ⟨by (with_reducible repeat (first | apply Kd.V_alloc | apply Kd.V_drewN | apply Kd.V_drew)); exact Kd.V_mono (Kd.V_far (p := ⟨gb447, 3, none⟩) (Kd.V_far (p := ⟨gb447, 2, none⟩) (Kd.V_far (p := ⟨gb447, 1, none⟩) (Kd.V_far (p := ⟨gb447, 0, none⟩) (Kd.V_mono HL393_3.out (fun k_ hk => (⟨hk, hk.2.2.2.2.2⟩ : _ ∧ k_ ≠ gb447))) (fun _ hk => hk.2) (.int .i64 t436)) (fun _ hk => hk.2) (.slice Ao69 t437.length co69)) (fun _ hk => hk.2) (.slice Ao71 t440.length co71)) (fun _ hk => hk.2) (.slice Ao73 t443.length co73)) (fun _ hk => ⟨hk.1.1, ⟨hk.1.2.1, ⟨hk.1.2.2.1, ⟨hk.1.2.2.2.1, ⟨hk.1.2.2.2.2.1, hk.1.2.2.2.2.2⟩⟩⟩⟩⟩)⟩
 have n4_ : Aside0 (Kd.V k40 40 ((((w67.setCell ⟨gb447, 0, none⟩ (.int .i64 t436)).setCell ⟨gb447, 1, none⟩ (.slice Ao69 t437.length co69)).setCell ⟨gb447, 2, none⟩ (.slice Ao71 t440.length co71)).setCell ⟨gb447, 3, none⟩ (.slice Ao73 t443.length co73)) w.heap.size (fun k_ => (P0_ k_ ∨ w.heap.size ≤ k_) ∧ some k_ ≠ (.slice Ao69 t437.length co69 : Value).ownBlock ∧ some k_ ≠ (.slice Ao71 t440.length co71 : Value).ownBlock ∧ some k_ ≠ (.slice Ao73 t443.length co73 : Value).ownBlock ∧ k_ ≠ gb394 ∧ k_ ≠ gb447) v434 t433) := ⟨by (with_reducible repeat (first | apply Kd.V_alloc | apply Kd.V_drewN | apply Kd.V_drew)); exact Kd.V_mono (Kd.V_far (p := ⟨gb447, 3, none⟩) (Kd.V_far (p := ⟨gb447, 2, none⟩) (Kd.V_far (p := ⟨gb447, 1, none⟩) (Kd.V_far (p := ⟨gb447, 0, none⟩) (Kd.V_mono HO435.out (fun k_ hk => (⟨hk, hk.2.2.2.2.2⟩ : _ ∧ k_ ≠ gb447))) (fun _ hk => hk.2) (.int .i64 t436)) (fun _ hk => hk.2) (.slice Ao69 t437.length co69)) (fun _ hk => hk.2) (.slice Ao71 t440.length co71)) (fun _ hk => hk.2) (.slice Ao73 t443.length co73)) (fun _ hk => ⟨hk.1.1, ⟨hk.1.2.1, ⟨hk.1.2.2.1, ⟨hk.1.2.2.2.1, ⟨hk.1.2.2.2.2.1, hk.1.2.2.2.2.2⟩⟩⟩⟩⟩)⟩
 have n5_ : Aside0 (Kd.R (Kd.int .i64) 3 ((((w67.setCell ⟨gb447, 0, none⟩ (.int .i64 t436)).setCell ⟨gb447, 1, none⟩ (.slice Ao69 t437.length co69)).setCell ⟨gb447, 2, none⟩ (.slice Ao71 t440.length co71)).setCell ⟨gb447, 3, none⟩ (.slice Ao73 t443.length co73)) w.heap.size (fun k_ => (w.heap.size ≤ k_) ∧ some k_ ≠ (.slice Ao71 t440.length co71 : Value).ownBlock) (.slice Ao69 t437.length co69) t437) := ⟨by (with_reducible repeat (first | apply Kd.R_alloc | apply Kd.R_drewN | apply Kd.R_drew)); exact Kd.R_mono (Kd.R_far (p := ⟨gb447, 3, none⟩) (Kd.R_far (p := ⟨gb447, 2, none⟩) (Kd.R_far (p := ⟨gb447, 1, none⟩) (Kd.R_far (p := ⟨gb447, 0, none⟩) (Kd.R_types HO439.out BK447.out J11) (fun _ hk => hk.2) (.int .i64 t436)) (fun _ hk => hk.2) (.slice Ao69 t437.length co69)) (fun _ hk => hk.2) (.slice Ao71 t440.length co71)) (fun _ hk => hk.2) (.slice Ao73 t443.length co73)) (fun _ hk => ⟨hk.1.1, hk.1.2⟩)⟩
 have n6_ : Aside0 (Kd.R (Kd.int .i64) 3 ((((w67.setCell ⟨gb447, 0, none⟩ (.int .i64 t436)).setCell ⟨gb447, 1, none⟩ (.slice Ao69 t437.length co69)).setCell ⟨gb447, 2, none⟩ (.slice Ao71 t440.length co71)).setCell ⟨gb447, 3, none⟩ (.slice Ao73 t443.length co73)) w.heap.size (fun k_ => (w.heap.size ≤ k_) ∧ some k_ ≠ (.slice Ao69 t437.length co69 : Value).ownBlock) (.slice Ao71 t440.length co71) t440) := ⟨by (with_reducible repeat (first | apply Kd.R_alloc | apply Kd.R_drewN | apply Kd.R_drew)); exact Kd.R_mono (Kd.R_far (p := ⟨gb447, 3, none⟩) (Kd.R_far (p := ⟨gb447, 2, none⟩) (Kd.R_far (p := ⟨gb447, 1, none⟩) (Kd.R_far (p := ⟨gb447, 0, none⟩) (Kd.R_types HO442.out BK447.out J11) (fun _ hk => hk.2) (.int .i64 t436)) (fun _ hk => hk.2) (.slice Ao69 t437.length co69)) (fun _ hk => hk.2) (.slice Ao71 t440.length co71)) (fun _ hk => hk.2) (.slice Ao73 t443.length co73)) (fun _ hk => ⟨hk.1.1, hk.1.2⟩)⟩
 have n7_ : Aside0 (Kd.R k40 40 ((((w67.setCell ⟨gb447, 0, none⟩ (.int .i64 t436)).setCell ⟨gb447, 1, none⟩ (.slice Ao69 t437.length co69)).setCell ⟨gb447, 2, none⟩ (.slice Ao71 t440.length co71)).setCell ⟨gb447, 3, none⟩ (.slice Ao73 t443.length co73)) w.heap.size (fun k_ => (w.heap.size ≤ k_)) (.slice Ao73 t443.length co73) t443) := ⟨by (with_reducible repeat (first | apply Kd.R_alloc | apply Kd.R_drewN | apply Kd.R_drew)); exact Kd.R_mono (Kd.R_far (p := ⟨gb447, 3, none⟩) (Kd.R_far (p := ⟨gb447, 2, none⟩) (Kd.R_far (p := ⟨gb447, 1, none⟩) (Kd.R_far (p := ⟨gb447, 0, none⟩) (Kd.R_types HO445.out BK447.out J11) (fun _ hk => hk.2) (.int .i64 t436)) (fun _ hk => hk.2) (.slice Ao69 t437.length co69)) (fun _ hk => hk.2) (.slice Ao71 t440.length co71)) (fun _ hk => hk.2) (.slice Ao73 t443.length co73)) (fun _ hk => hk.1)⟩
 have n8_ : Aside0 (((((w67.setCell ⟨gb447, 0, none⟩ (.int .i64 t436)).setCell ⟨gb447, 1, none⟩ (.slice Ao69 t437.length co69)).setCell ⟨gb447, 2, none⟩ (.slice Ao71 t440.length co71)).setCell ⟨gb447, 3, none⟩ (.slice Ao73 t443.length co73)).heap[gb394]? = some (.cells #[.int .i64 ((Xa l0 0).f0), .slice A393_1 ((Xa l0 0).f1).length c393_1, .slice A393_2 ((Xa l0 0).f2).length c393_2, .slice A393_3 ((Xa l0 0).f3).length c393_3] 32 (0, 0))) := ⟨by (with_reducible repeat (first | refine Xc ?_ _ | refine Xe ?_ | refine Xb ?_ _)); refine Xab ?_ NB394_447.out _; (with_reducible repeat (first | refine Xc ?_ _ | refine Xe ?_ | refine Xb ?_ _)); refine Xab ?_ NB394_447.out _; (with_reducible repeat (first | refine Xc ?_ _ | refine Xe ?_ | refine Xb ?_ _)); refine Xab ?_ NB394_447.out _; (with_reducible repeat (first | refine Xc ?_ _ | refine Xe ?_ | refine Xb ?_ _)); refine Xab ?_ NB394_447.out _; (with_reducible repeat (first | refine Xc ?_ _ | refine Xe ?_ | refine Xb ?_ _)); exact BK394.out⟩
 have n9_ : Aside0 (((((w67.setCell ⟨gb447, 0, none⟩ (.int .i64 t436)).setCell ⟨gb447, 1, none⟩ (.slice Ao69 t437.length co69)).setCell ⟨gb447, 2, none⟩ (.slice Ao71 t440.length co71)).setCell ⟨gb447, 3, none⟩ (.slice Ao73 t443.length co73)).heap[gb447]? = some (.cells #[.int .i64 t436, .slice Ao69 t437.length co69, .slice Ao71 t440.length co71, .slice Ao73 t443.length co73] 32 (0, 0))) := ⟨by (with_reducible repeat (first | refine Xc ?_ _ | refine Xe ?_ | refine Xb ?_ _)); refine Xj (cs := #[.int .i64 t436, .slice Ao69 t437.length co69, .slice Ao71 t440.length co71, .slice none 0 0]) ?_ 3 _ rfl; (with_reducible repeat (first | refine Xc ?_ _ | refine Xe ?_ | refine Xb ?_ _)); refine Xj (cs := #[.int .i64 t436, .slice Ao69 t437.length co69, .slice none 0 0, .slice none 0 0]) ?_ 2 _ rfl; (with_reducible repeat (first | refine Xc ?_ _ | refine Xe ?_ | refine Xb ?_ _)); refine Xj (cs := #[.int .i64 t436, .slice none 0 0, .slice none 0 0, .slice none 0 0]) ?_ 1 _ rfl; (with_reducible repeat (first | refine Xc ?_ _ | refine Xe ?_ | refine Xb ?_ _)); refine Xj (cs := #[.int .i64 0, .slice none 0 0, .slice none 0 0, .slice none 0 0]) ?_ 0 _ rfl; (with_reducible repeat (first | refine Xc ?_ _ | refine Xe ?_ | refine Xb ?_ _)); exact BK447.out⟩
 have n10_ : Aside0 (Below w.heap.size w ((((w67.setCell ⟨gb447, 0, none⟩ (.int .i64 t436)).setCell ⟨gb447, 1, none⟩ (.slice Ao69 t437.length co69)).setCell ⟨gb447, 2, none⟩ (.slice Ao71 t440.length co71)).setCell ⟨gb447, 3, none⟩ (.slice Ao73 t443.length co73))) := ⟨J124⟩
 (try clear HO0)
 (try clear HL393_1)
 (try clear HL393_2)
 (try clear HL393_3)
 (try clear HO435)
 (try clear HO439)
 (try clear HO442)
 (try clear HO445)
 (try clear BK394)
 (try clear BK447)
 (try clear HB)
 generalize ((((w67.setCell ⟨gb447, 0, none⟩ (.int .i64 t436)).setCell ⟨gb447, 1, none⟩ (.slice Ao69 t437.length co69)).setCell ⟨gb447, 2, none⟩ (.slice Ao71 t440.length co71)).setCell ⟨gb447, 3, none⟩ (.slice Ao73 t443.length co73)) = w75 at n0_ n1_ n2_ n3_ n4_ n5_ n6_ n7_ n8_ n9_ n10_ ⊢
 have HO0 := n0_
 have HL393_1 := n1_
 have HL393_2 := n2_
 have HL393_3 := n3_
 have HO435 := n4_
 have HO439 := n5_
 have HO442 := n6_
 have HO445 := n7_
 have BK394 := n8_
 have BK447 := n9_
 have HB := n10_
 clear n0_ n1_ n2_ n3_ n4_ n5_ n6_ n7_ n8_ n9_ n10_
 have hnb76 := NB447_394.out
 have hnc76 := NB394_447.out
 obtain ⟨hcz77_0, hcz77_1, hcz77_2, hcz77_3, hfz77_0, hfz77_1, hfz77_2, hfz77_3⟩ := cz4 BK447.out
 try go_wp2_with (first | ((with_reducible refine Xk (N := 64) rfl ?_); refine Kd.N_lit k32 _ 32 ?hg (N' := 64) ?hd (xs := ([(⟨t436, t437, t440, t443⟩ : S32)] : List (S32))) (inner := [.int .i64 t436, .slice Ao69 t437.length co69, .slice Ao71 t440.length co71, .slice Ao73 t443.length co73]) (ok := (fun k_ => (P0_ k_ ∨ w.heap.size ≤ k_) ∧ k_ ≠ gb394 ∧ k_ ≠ gb447)) (okp := (fun k_ => (P0_ k_ ∨ w.heap.size ≤ k_) ∧ k_ ≠ gb394 ∧ k_ ≠ gb447)) ?hr ?hp (fun _ hk => hk) ((show ∀ k_, w75.heap.size ≤ k_ → (fun k_ => (P0_ k_ ∨ w.heap.size ≤ k_) ∧ k_ ≠ gb394 ∧ k_ ≠ gb447) k_ from fun k_ hk => ⟨(.inr (Nat.le_trans (Xf (zs2 GE394.out GE447.out)) hk)), Kd.freshB (g := gb394) (o := .cells #[.int .i64 ((Xa l0 0).f0), .slice A393_1 ((Xa l0 0).f1).length c393_1, .slice A393_2 ((Xa l0 0).f2).length c393_2, .slice A393_3 ((Xa l0 0).f3).length c393_3] 32 (0, 0)) (zk BK394.out) k_ hk, Kd.freshB (g := gb447) (o := .cells #[.int .i64 t436, .slice Ao69 t437.length co69, .slice Ao71 t440.length co71, .slice Ao73 t443.length co73] 32 (0, 0)) (zk BK447.out) k_ hk⟩) _ (Nat.le_refl _)) (Below.refl _ _) (Nat.le_refl _) J88 ?_; (case hd => rfl); (case hg => rfl); (case hr => first | (go_simp; done) | (go_simp; rfl)); (case hp => exact (Reps.c4 (show Kd.FK k32 _ _ (⟨t436, t437, t440, t443⟩ : S32) [.int .i64 t436, .slice Ao69 t437.length co69, .slice Ao71 t440.length co71, .slice Ao73 t443.length co73] from (Xcx _ _ (⟨t436, t437, t440, t443⟩ : S32) (Kd.R_reads' (Kd.R_mono (ok' := (fun k_ => (P0_ k_ ∨ w.heap.size ≤ k_) ∧ k_ ≠ gb394 ∧ k_ ≠ gb447)) (Kd.R_types (Kd.R_types (HO439.out) BK394.out J11) BK447.out J11) (fun k_ hk => ⟨(.inr (hk.1.1.1)), ⟨hk.1.2, hk.2⟩⟩))).2.1 (Kd.R_F (Kd.R_mono (ok' := (fun k_ => (P0_ k_ ∨ w.heap.size ≤ k_) ∧ k_ ≠ gb394 ∧ k_ ≠ gb447)) (Kd.R_types (Kd.R_types (HO439.out) BK394.out J11) BK447.out J11) (fun k_ hk => ⟨(.inr (hk.1.1.1)), ⟨hk.1.2, hk.2⟩⟩))) (Kd.R_reads' (Kd.R_mono (ok' := (fun k_ => (P0_ k_ ∨ w.heap.size ≤ k_) ∧ k_ ≠ gb394 ∧ k_ ≠ gb447)) (Kd.R_types (Kd.R_types (HO442.out) BK394.out J11) BK447.out J11) (fun k_ hk => ⟨(.inr (hk.1.1.1)), ⟨hk.1.2, hk.2⟩⟩))).2.1 (Kd.R_F (Kd.R_mono (ok' := (fun k_ => (P0_ k_ ∨ w.heap.size ≤ k_) ∧ k_ ≠ gb394 ∧ k_ ≠ gb447)) (Kd.R_types (Kd.R_types (HO442.out) BK394.out J11) BK447.out J11) (fun k_ hk => ⟨(.inr (hk.1.1.1)), ⟨hk.1.2, hk.2⟩⟩))) (Kd.R_reads' (Kd.R_mono (ok' := (fun k_ => (P0_ k_ ∨ w.heap.size ≤ k_) ∧ k_ ≠ gb394 ∧ k_ ≠ gb447)) (Kd.R_types (Kd.R_types (HO445.out) BK394.out J11) BK447.out J11) (fun k_ hk => ⟨(.inr (hk.1.1)), ⟨hk.1.2, hk.2⟩⟩))).2.1 (Kd.R_F (Kd.R_mono (ok' := (fun k_ => (P0_ k_ ∨ w.heap.size ≤ k_) ∧ k_ ≠ gb394 ∧ k_ ≠ gb447)) (Kd.R_types (Kd.R_types (HO445.out) BK394.out J11) BK447.out J11) (fun k_ hk => ⟨(.inr (hk.1.1)), ⟨hk.1.2, hk.2⟩⟩))))) (Reps.none _ _))); intro v449 w78 ho79 hb hg_ hnew_; clear hg_ hnew_; (first | rw [← Ny448.out] at ho79 | (simp only [Int.reduceToNat] at ho79; rw [← Ny448.out] at ho79)); have HO450 := zq (Kd.N_lower ho79 (Xf (zs2 GE394.out GE447.out))); replace HB := zq (Xd (zs2 GE394.out GE447.out) hb); clear HO439 HO442 HO445; clear hb ho79))
 go_ret
 exact ⟨_, J2, by (with_reducible repeat (first | apply Kd.N_alloc | apply Kd.N_drewN | apply Kd.N_drew)); exact Kd.N_mono HO450.out (fun _ hk => hk.1), J124⟩
end Go.Proofs.YtfjhiiaahbjaiaaDoor.HSystemFirst
