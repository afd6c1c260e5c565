/- What the Go functions of this claim answer, told as functions of numbers and lists, and that other memory stays as it was: words and walks, shortened by a program. -/
import Derived.Test.YtfjhiiaahbjaiaaDoorSSystemNumbersx0
import Derived.Test.YtfjhiiaahbjaiaaDoorSSystemNumbersx13
namespace Go.Proofs.YtfjhiiaahbjaiaaDoor.HSystemSigns
open Go.RowKit Go.Proofs.YtfjhiiaahbjaiaaDoorW.PrintWords Go.Proofs.YtfjhiiaahbjaiaaDoorW.PrintLast Go.Proofs.YtfjhiiaahbjaiaaDoorW.PrintMore
attribute [local go_sem] max2_int min2_int max_two min_two max_three min_three max_four min_four
set_option linter.unusedVariables false
set_option linter.unusedSimpArgs false
def tight_form.f : Nat → List (S32) → Option ((List (S32)))
  | 0, _ => none
  | k + 1, l0 => if 0 < (l0.length : Int) then (if ((rd_T32 l0 0).f0) = 3 then ((array_Copy.f l0).bind fun t324 => (some t324)) else (if ((rd_T32 l0 0).f0) = 5 then (none) else ((tight_numbers.f k ((rd_T32 l0 0).f0) ((rd_T32 l0 0).f1) ((rd_T32 l0 0).f2) ((rd_T32 l0 0).f3)).bind fun t327 => ((tight_Numbers.f k ((rd_T32 l0 0).f1) t327).bind fun bt330 => (some (([(⟨bt330.1, bt330.2.1, bt330.2.2.1, bt330.2.2.2.1⟩ : S32)] : List (S32)))))))) else (none)
theorem tight_form.mono_l : ∀ k, (∀ y0, LeO (tight_form.f k y0) (tight_form.f (k + 1) y0))
  | 0 => fun _ r h => by simp [tight_form.f] at h
  | k + 1 => by
    have ih0 := tight_form.mono_l k
    · intro y0
      unfold tight_form.f
      have im0 := @tight_Numbers.mono
      have im1 := @tight_numbers.mono
      exact mz3
theorem tight_form.mono : ∀ a0 k, LeO (tight_form.f k a0) (tight_form.f (k + 1) a0) := by
  intro a0 k
  have ih0 := tight_form.mono_l k
  exact ih0 a0
def tight_form.T16 : Bool × List (List Nat × List Nat) := (true, [([], []), ([0], [0]), ([], []), ([2], [2]), ([1, 3, 3], [1, 3]), ([4], [4]), ([5], [5]), ([5], [5]), ([], []), ([8, 6, 4, 0, 1, 2, 3, 4, 5, 6, 8], [6, 8]), ([7, 9, 0, 1, 2, 3, 4, 5, 6, 7, 8, 9], [7])])
def tight_form.B16 : List Nat := [0, 1, 0, 4, 15, 31, 63, 63, 0, 383, 1023]
theorem tight_form.tab16 : rtab .any (opsOf Tryd.f33 16) = tight_form.T16 := J8
theorem tight_form.bits16 : waitsOk tight_form.T16.2 tight_form.B16 = true := J8
set_option maxHeartbeats 8000000 in
set_option maxRecDepth 100000 in
theorem tight_form.calls (k : Nat) : ∀ (P0_ : Nat → Prop) (A0 : Option Addr) (c0 : Nat) (l0 : List (S32)) (r : List (S32)) (w : World) (hs0 : Kd.V k32 32 w w.heap.size (fun k_ => P0_ k_) (.slice A0 l0.length c0) l0) (h : tight_form.f k l0 = some r),
    Calls Tryd.prog 33 #[.slice A0 l0.length c0] w fun e w' => ∃ v0_ : Value, e = .returned (v0_) ∧ Kd.N k32 32 w' w.heap.size (fun k_ => (P0_ k_ ∨ w.heap.size ≤ k_)) v0_ r ∧ Below w.heap.size w w' := by
  induction k using Nat.strongRecOn with
  | _ k ih =>
  intro P0_ A0 c0 l0 r w hs0 h
  cases k with
  | zero => exact absurd h (by simp [tight_form.f])
  | succ k =>
  simp only [tight_form.f] at h
  have hu32 := Tryd.underlying32
  have HO0 := zq (show Kd.V k32 32 w w.heap.size (fun k_ => (P0_ k_ ∨ w.heap.size ≤ k_)) (.slice A0 l0.length c0) l0 from Kd.V_mono hs0 (fun k_ hk => .inl hk))
  have HB := zq (Below.refl w.heap.size w)
  have H : (if 0 < (l0.length : Int) then (if ((rd_T32 l0 0).f0) = 3 then ((array_Copy.f l0).bind fun t324 => (some t324)) else (if ((rd_T32 l0 0).f0) = 5 then (none) else ((tight_numbers.f k ((rd_T32 l0 0).f0) ((rd_T32 l0 0).f1) ((rd_T32 l0 0).f2) ((rd_T32 l0 0).f3)).bind fun t327 => ((tight_Numbers.f k ((rd_T32 l0 0).f1) t327).bind fun bt330 => (some (([(⟨bt330.1, bt330.2.1, bt330.2.2.1, bt330.2.2.2.1⟩ : S32)] : List (S32)))))))) else (none)) = some r := h
  clear h
  by_cases c2 : 0 < (l0.length : Int)
  rotate_left
  · rw [if_neg c2] at H
    exact absurd H J32
  rw [if_pos c2] at H
  have c2b0 := decide_eq_true c2
  have c2b1 : decide (0 < l0.length) = true := decide_eq_true J26
  clear c2
  by_cases c3 : ((rd_T32 l0 0).f0) = 3
  · rw [if_pos c3] at H
    have c3b0 : (((rd_T32 l0 0).f0) == 3) = true := beq_iff_eq.mpr c3
    have c3b1 : (((rd_T32 l0 0).f0) != 3) = false := bne_eq_false_iff_eq.mpr c3
    clear c3
    replace H := Option.bind_eq_some_iff.mp H
    obtain ⟨t324, A40, H⟩ := H
    have A4 := zq A40
    clear A40
    obtain rfl := Option.some.inj H
    have p322 : 0 ≤ (0 : Int) := J26
    have q322 : 0 < (l0.length : Int) := of_decide_eq_true J3
    obtain ⟨ad322, A322_1, c322_1, A322_2, c322_2, A322_3, c322_3, e322, hx322_0, hx322_1, hx322_2, hx322_3, hl322_1, hi322_1, hl322_2, hi322_2, hl322_3, hi322_3⟩ := at_T32 (Kd.V_reads' HO0.out).2.2 0 p322 q322
    cases e322
    obtain ⟨ce322, hce322, hMe322, hcc322⟩ := Kd.V_get HO0.out z32 0 p322 (by first | exact q322 | exact of_decide_eq_true J3 | (have e_ := (Kd.V_reads' HO0.out).1; omega))
    obtain ⟨ua322_1, uc322_1, ua322_2, uc322_2, ua322_3, uc322_3, rfl, ul322_1, ge322_1, ul322_2, ge322_2, ul322_3, ge322_3⟩ := k32_openF hMe322
    have hv322_1 := hcc322 1 _ rfl
    rw [add_field _ _ 1 J26] at hv322_1
    replace hv322_1 := Option.some.inj (hv322_1.symm.trans hx322_1)
    injection hv322_1 with hva_ hvn_ hvc_
    rw [hva_] at ge322_1
    rw [hvc_] at ul322_1
    have HL322_1 := zq (show Kd.V (Kd.int .i64) 3 _ w.heap.size _ _ ((rd_T32 l0 0).f1) from Kd.V_mk ul322_1 ge322_1)
    clear hva_ hvn_ hvc_ ge322_1 ul322_1
    have hv322_2 := hcc322 2 _ rfl
    rw [add_field _ _ 2 J26] at hv322_2
    replace hv322_2 := Option.some.inj (hv322_2.symm.trans hx322_2)
    injection hv322_2 with hva_ hvn_ hvc_
    rw [hva_] at ge322_2
    rw [hvc_] at ul322_2
    have HL322_2 := zq (show Kd.V (Kd.int .i64) 3 _ w.heap.size _ _ ((rd_T32 l0 0).f2) from Kd.V_mk ul322_2 ge322_2)
    clear hva_ hvn_ hvc_ ge322_2 ul322_2
    have hv322_3 := hcc322 3 _ rfl
    rw [add_field _ _ 3 J26] at hv322_3
    replace hv322_3 := Option.some.inj (hv322_3.symm.trans hx322_3)
    injection hv322_3 with hva_ hvn_ hvc_
    rw [hva_] at ge322_3
    rw [hvc_] at ul322_3
    have HL322_3 := zq (show Kd.V k40 40 _ w.heap.size _ _ ((rd_T32 l0 0).f3) from Kd.V_mk ul322_3 ge322_3)
    clear hva_ hvn_ hvc_ ge322_3 ul322_3
    clear hcc322 hce322
    have qi322 : (0 < l0.length) = True := eq_true J26
    (try rw [show ((0 : Int)).toNat = 0 from rfl] at hx322_0)
    (try rw [show 0 * 4 = 0 from rfl] at hx322_0)
    (try rw [Addr.add_zero'] at hx322_0)
    (try rw [show ((0 : Int)).toNat = 0 from rfl] at hx322_1)
    (try rw [show 0 * 4 = 0 from rfl] at hx322_1)
    (try rw [Addr.add_zero'] at hx322_1)
    (try rw [show ((0 : Int)).toNat = 0 from rfl] at hx322_2)
    (try rw [show 0 * 4 = 0 from rfl] at hx322_2)
    (try rw [Addr.add_zero'] at hx322_2)
    (try rw [show ((0 : Int)).toNat = 0 from rfl] at hx322_3)
    (try rw [show 0 * 4 = 0 from rfl] at hx322_3)
    (try rw [Addr.add_zero'] at hx322_3)
    have HR322_1 := zq hi322_1
    have HW322_1 := HR322_1
    have HC322_1 := zq hl322_1
    clear hi322_1 hl322_1
    have HR322_2 := zq hi322_2
    have HW322_2 := HR322_2
    have HC322_2 := zq hl322_2
    clear hi322_2 hl322_2
    have HR322_3 := zq hi322_3
    have HW322_3 := HR322_3
    have HC322_3 := zq hl322_3
    clear hi322_3 hl322_3
    replace p322 := eq_true p322
    replace q322 := eq_true q322
    go_enter Tryd.func33, Tryd.ntmps33
    go_wp2_with (first | ((with_reducible refine gate_dst (N := 3) rfl ?_); refine bxw 3 32 #[.int .i64 0, .slice none 0 0, .slice none 0 0, .slice none 0 0] ?_; intro gb323 hg w5 hbox hb; replace HO0 := zq (Kd.V_below (Kd.V_elderB (zv HO0.out) gb323 (Nat.le_of_eq hg.symm)) hb); replace HR322_1 := zq (Kd.C_below (by first | exact (Kd.V_reads' HL322_1.out).2.2 | (repeat (first | (with_reducible exact HR322_1.out) | (with_reducible refine Kd.C_alloc ?_ _) | (with_reducible refine Kd.C_drewN ?_ _) | (with_reducible refine Kd.C_drew ?_) | exact HR322_1.out))) hb); replace HL322_1 := zq (Kd.V_below (Kd.V_elderB (zv HL322_1.out) gb323 (Nat.le_of_eq hg.symm)) hb); replace HR322_2 := zq (Kd.C_below (by first | exact (Kd.V_reads' HL322_2.out).2.2 | (repeat (first | (with_reducible exact HR322_2.out) | (with_reducible refine Kd.C_alloc ?_ _) | (with_reducible refine Kd.C_drewN ?_ _) | (with_reducible refine Kd.C_drew ?_) | exact HR322_2.out))) hb); replace HL322_2 := zq (Kd.V_below (Kd.V_elderB (zv HL322_2.out) gb323 (Nat.le_of_eq hg.symm)) hb); replace HR322_3 := zq (Kd.C_below (by first | exact (Kd.V_reads' HL322_3.out).2.2 | (repeat (first | (with_reducible exact HR322_3.out) | (with_reducible refine Kd.C_alloc ?_ _) | (with_reducible refine Kd.C_drewN ?_ _) | (with_reducible refine Kd.C_drew ?_) | exact HR322_3.out))) hb); replace HL322_3 := zq (Kd.V_below (Kd.V_elderB (zv HL322_3.out) gb323 (Nat.le_of_eq hg.symm)) hb); have BK323 := zq (hbox); have GE323 := zq ((J12 : w.heap.size ≤ gb323)); replace HB := zq (below_step J0 hb); clear hb hbox hg; obtain ⟨hcz6_0, hcz6_1, hcz6_2, hcz6_3, hfz6_0, hfz6_1, hfz6_2, hfz6_3⟩ := cz4 BK323.out) | ((first | ((with_reducible refine gate_callee (f := 59) rfl ?_); refine goesL_ (some 18) rfl rfl Tryd.func59 J8 rfl #[.slice (some ad322) l0.length c0] rfl J1 ?_) | go_at_call 59); (with_reducible refine (array_Copy.calls _ _ l0 t324 _ ?side1 ?side2 A4.out).mono ?_); (case side1 => refine (Kd.V_reads' (e := 32) (base := w.heap.size) (ok := fun k_ => ((P0_ k_ ∨ w.heap.size ≤ k_) ∧ k_ ≠ gb323)) (n := l0.length) (c := c0) ?_).2.2; exact J46); (case side2 => exact (Kd.V_reads' HO0.out).2.1); rintro e w7 ⟨v325, rfl, ho0, hb⟩; (try refine ⟨_, rfl, ?_⟩); replace HO0 := zq (Kd.V_elder' J46 (Kd.N_base (Kd.S_N (Kd.S_bound ho0))) hb); have HO326 := zq (Kd.N_lower (Kd.N_mono (ok' := fun k_ => (P0_ k_ ∨ w.heap.size ≤ k_) ∧ k_ ≠ gb323) (Kd.S_N (Kd.S_bound ho0)) (fun k_ hk_ => ⟨(.inr (Nat.le_trans (below_size (zs1 GE323.out)) hk_.2.1)), (Kd.freshB (g := gb323) (o := .cells #[.int .i64 ((rd_T32 l0 0).f0), .slice A322_1 ((rd_T32 l0 0).f1).length c322_1, .slice A322_2 ((rd_T32 l0 0).f2).length c322_2, .slice A322_3 ((rd_T32 l0 0).f3).length c322_3] 32 (0, 0)) J28 k_ hk_.2.1)⟩)) (below_size (zs1 GE323.out))); replace HR322_1 := zq (Kd.C_below ((Kd.V_reads' J43).2.2) hb); replace HL322_1 := zq (Kd.V_elder' J43 (Kd.N_base (Kd.S_N (Kd.S_bound ho0))) hb); replace HR322_2 := zq (Kd.C_below ((Kd.V_reads' J44).2.2) hb); replace HL322_2 := zq (Kd.V_elder' J44 (Kd.N_base (Kd.S_N (Kd.S_bound ho0))) hb); replace HR322_3 := zq (Kd.C_below ((Kd.V_reads' J45).2.2) hb); replace HL322_3 := zq (Kd.V_elder' J45 (Kd.N_base (Kd.S_N (Kd.S_bound ho0))) hb); replace BK323 := zq (blk_below (g := gb323) (o := .cells #[.int .i64 ((rd_T32 l0 0).f0), .slice A322_1 ((rd_T32 l0 0).f1).length c322_1, .slice A322_2 ((rd_T32 l0 0).f2).length c322_2, .slice A322_3 ((rd_T32 l0 0).f3).length c322_3] 32 (0, 0)) J28 hb); replace HB := zq (below_step (zs1 GE323.out) hb); (try clear hb); (try clear hk); (try clear ho0)))
    go_ret
    exact ⟨_, J2, by (with_reducible repeat (first | apply Kd.N_alloc | apply Kd.N_drewN | apply Kd.N_drew)); exact Kd.N_mono HO326.out (fun _ hk => hk.1), J114⟩
  rw [if_neg c3] at H
  have c3b0 : (((rd_T32 l0 0).f0) == 3) = false := beq_eq_false_iff_ne.mpr c3
  have c3b1 : (((rd_T32 l0 0).f0) != 3) = true := bne_iff_ne.mpr c3
  by_cases c8 : ((rd_T32 l0 0).f0) = 5
  · rw [if_pos c8] at H
    exact absurd H J32
  rw [if_neg c8] at H
  have c8b0 : (((rd_T32 l0 0).f0) == 5) = false := beq_eq_false_iff_ne.mpr c8
  have c8b1 : (((rd_T32 l0 0).f0) != 5) = true := bne_iff_ne.mpr c8
  replace H := Option.bind_eq_some_iff.mp H
  obtain ⟨t327, A90, H⟩ := H
  have A9 := zq A90
  clear A90
  replace H := Option.bind_eq_some_iff.mp H
  obtain ⟨⟨t330, t331, t334, t337, t340⟩, A100, H⟩ := H
  dsimp only at H
  have A10 := zq A100
  clear A100
  obtain ⟨y342, hy342⟩ : ∃ y_ : List (S32), y_ = (([(⟨t330, t331, t334, t337⟩ : S32)] : List (S32))) := ⟨_, rfl⟩
  rw (occs := .pos [1]) [← hy342] at H
  have Ny342 := zq hy342
  clear hy342
  obtain rfl := Option.some.inj H
  have p322 : 0 ≤ (0 : Int) := J26
  have q322 : 0 < (l0.length : Int) := of_decide_eq_true J3
  obtain ⟨ad322, A322_1, c322_1, A322_2, c322_2, A322_3, c322_3, e322, hx322_0, hx322_1, hx322_2, hx322_3, hl322_1, hi322_1, hl322_2, hi322_2, hl322_3, hi322_3⟩ := at_T32 (Kd.V_reads' HO0.out).2.2 0 p322 q322
  cases e322
  obtain ⟨ce322, hce322, hMe322, hcc322⟩ := Kd.V_get HO0.out z32 0 p322 (by first | exact q322 | exact of_decide_eq_true J3 | (have e_ := (Kd.V_reads' HO0.out).1; omega))
  obtain ⟨ua322_1, uc322_1, ua322_2, uc322_2, ua322_3, uc322_3, rfl, ul322_1, ge322_1, ul322_2, ge322_2, ul322_3, ge322_3⟩ := k32_openF hMe322
  have hv322_1 := hcc322 1 _ rfl
  rw [add_field _ _ 1 J26] at hv322_1
  replace hv322_1 := Option.some.inj (hv322_1.symm.trans hx322_1)
  injection hv322_1 with hva_ hvn_ hvc_
  rw [hva_] at ge322_1
  rw [hvc_] at ul322_1
  have HL322_1 := zq (show Kd.V (Kd.int .i64) 3 _ w.heap.size _ _ ((rd_T32 l0 0).f1) from Kd.V_mk ul322_1 ge322_1)
  clear hva_ hvn_ hvc_ ge322_1 ul322_1
  have hv322_2 := hcc322 2 _ rfl
  rw [add_field _ _ 2 J26] at hv322_2
  replace hv322_2 := Option.some.inj (hv322_2.symm.trans hx322_2)
  injection hv322_2 with hva_ hvn_ hvc_
  rw [hva_] at ge322_2
  rw [hvc_] at ul322_2
  have HL322_2 := zq (show Kd.V (Kd.int .i64) 3 _ w.heap.size _ _ ((rd_T32 l0 0).f2) from Kd.V_mk ul322_2 ge322_2)
  clear hva_ hvn_ hvc_ ge322_2 ul322_2
  have hv322_3 := hcc322 3 _ rfl
  rw [add_field _ _ 3 J26] at hv322_3
  replace hv322_3 := Option.some.inj (hv322_3.symm.trans hx322_3)
  injection hv322_3 with hva_ hvn_ hvc_
  rw [hva_] at ge322_3
  rw [hvc_] at ul322_3
  have HL322_3 := zq (show Kd.V k40 40 _ w.heap.size _ _ ((rd_T32 l0 0).f3) from Kd.V_mk ul322_3 ge322_3)
  clear hva_ hvn_ hvc_ ge322_3 ul322_3
  clear hcc322 hce322
  have qi322 : (0 < l0.length) = True := eq_true J26
  (try rw [show ((0 : Int)).toNat = 0 from rfl] at hx322_0)
  (try rw [show 0 * 4 = 0 from rfl] at hx322_0)
  (try rw [Addr.add_zero'] at hx322_0)
  (try rw [show ((0 : Int)).toNat = 0 from rfl] at hx322_1)
  (try rw [show 0 * 4 = 0 from rfl] at hx322_1)
  (try rw [Addr.add_zero'] at hx322_1)
  (try rw [show ((0 : Int)).toNat = 0 from rfl] at hx322_2)
  (try rw [show 0 * 4 = 0 from rfl] at hx322_2)
  (try rw [Addr.add_zero'] at hx322_2)
  (try rw [show ((0 : Int)).toNat = 0 from rfl] at hx322_3)
  (try rw [show 0 * 4 = 0 from rfl] at hx322_3)
  (try rw [Addr.add_zero'] at hx322_3)
  have HR322_1 := zq hi322_1
  have HW322_1 := HR322_1
  have HC322_1 := zq hl322_1
  clear hi322_1 hl322_1
  have HR322_2 := zq hi322_2
  have HW322_2 := HR322_2
  have HC322_2 := zq hl322_2
  clear hi322_2 hl322_2
  have HR322_3 := zq hi322_3
  have HW322_3 := HR322_3
  have HC322_3 := zq hl322_3
  clear hi322_3 hl322_3
  replace p322 := eq_true p322
  replace q322 := eq_true q322
  go_enter Tryd.func33, Tryd.ntmps33
  try go_wp2_with (first | ((with_reducible refine gate_dst (N := 3) rfl ?_); refine bxw 3 32 #[.int .i64 0, .slice none 0 0, .slice none 0 0, .slice none 0 0] ?_; intro gb323 hg w11 hbox hb; replace HO0 := zq (Kd.V_below (Kd.V_elderB (zv HO0.out) gb323 (Nat.le_of_eq hg.symm)) hb); replace HL322_1 := zq (Kd.V_below (Kd.V_elderB (zv HL322_1.out) gb323 (Nat.le_of_eq hg.symm)) hb); replace HL322_2 := zq (Kd.V_below (Kd.V_elderB (zv HL322_2.out) gb323 (Nat.le_of_eq hg.symm)) hb); replace HL322_3 := zq (Kd.V_below (Kd.V_elderB (zv HL322_3.out) gb323 (Nat.le_of_eq hg.symm)) hb); have BK323 := zq (hbox); have GE323 := zq ((J12 : w.heap.size ≤ gb323)); replace HB := zq (below_step J0 hb); clear hb hbox hg; obtain ⟨hcz12_0, hcz12_1, hcz12_2, hcz12_3, hfz12_0, hfz12_1, hfz12_2, hfz12_3⟩ := cz4 BK323.out))
  have n0_ : Aside0 (Kd.V k32 32 ((((w11.setCell ⟨gb323, 0, none⟩ (.int .i64 ((rd_T32 l0 0).f0))).setCell ⟨gb323, 1, none⟩ (.slice A322_1 ((rd_T32 l0 0).f1).length c322_1)).setCell ⟨gb323, 2, none⟩ (.slice A322_2 ((rd_T32 l0 0).f2).length c322_2)).setCell ⟨gb323, 3, none⟩ (.slice A322_3 ((rd_T32 l0 0).f3).length c322_3)) w.heap.size (fun k_ => (P0_ k_ ∨ w.heap.size ≤ k_) ∧ k_ ≠ gb323) (.slice (some ad322) l0.length c0) l0) := ⟨by (with_reducible repeat (first | apply Kd.V_alloc | apply Kd.V_drewN | apply Kd.V_drew)); exact Kd.V_mono (Kd.V_far (p := ⟨gb323, 3, none⟩) (Kd.V_far (p := ⟨gb323, 2, none⟩) (Kd.V_far (p := ⟨gb323, 1, none⟩) (Kd.V_far (p := ⟨gb323, 0, none⟩) (Kd.V_mono HO0.out (fun k_ hk => (⟨hk, hk.2⟩ : _ ∧ k_ ≠ gb323))) (fun _ hk => hk.2) (.int .i64 ((rd_T32 l0 0).f0))) (fun _ hk => hk.2) (.slice A322_1 ((rd_T32 l0 0).f1).length c322_1)) (fun _ hk => hk.2) (.slice A322_2 ((rd_T32 l0 0).f2).length c322_2)) (fun _ hk => hk.2) (.slice A322_3 ((rd_T32 l0 0).f3).length c322_3)) (fun _ hk => ⟨hk.1.1, hk.1.2⟩)⟩
  have n1_ : Aside0 (Kd.V (Kd.int .i64) 3 ((((w11.setCell ⟨gb323, 0, none⟩ (.int .i64 ((rd_T32 l0 0).f0))).setCell ⟨gb323, 1, none⟩ (.slice A322_1 ((rd_T32 l0 0).f1).length c322_1)).setCell ⟨gb323, 2, none⟩ (.slice A322_2 ((rd_T32 l0 0).f2).length c322_2)).setCell ⟨gb323, 3, none⟩ (.slice A322_3 ((rd_T32 l0 0).f3).length c322_3)) w.heap.size (fun k_ => (P0_ k_ ∨ w.heap.size ≤ k_) ∧ k_ ≠ gb323) (.slice A322_1 ((rd_T32 l0 0).f1).length c322_1) ((rd_T32 l0 0).f1)) := ⟨by (with_reducible repeat (first | apply Kd.V_alloc | apply Kd.V_drewN | apply Kd.V_drew)); exact Kd.V_mono (Kd.V_far (p := ⟨gb323, 3, none⟩) (Kd.V_far (p := ⟨gb323, 2, none⟩) (Kd.V_far (p := ⟨gb323, 1, none⟩) (Kd.V_far (p := ⟨gb323, 0, none⟩) (Kd.V_mono HL322_1.out (fun k_ hk => (⟨hk, hk.2⟩ : _ ∧ k_ ≠ gb323))) (fun _ hk => hk.2) (.int .i64 ((rd_T32 l0 0).f0))) (fun _ hk => hk.2) (.slice A322_1 ((rd_T32 l0 0).f1).length c322_1)) (fun _ hk => hk.2) (.slice A322_2 ((rd_T32 l0 0).f2).length c322_2)) (fun _ hk => hk.2) (.slice A322_3 ((rd_T32 l0 0).f3).length c322_3)) (fun _ hk => ⟨hk.1.1, hk.1.2⟩)⟩
  have n2_ : Aside0 (Kd.V (Kd.int .i64) 3 ((((w11.setCell ⟨gb323, 0, none⟩ (.int .i64 ((rd_T32 l0 0).f0))).setCell ⟨gb323, 1, none⟩ (.slice A322_1 ((rd_T32 l0 0).f1).length c322_1)).setCell ⟨gb323, 2, none⟩ (.slice A322_2 ((rd_T32 l0 0).f2).length c322_2)).setCell ⟨gb323, 3, none⟩ (.slice A322_3 ((rd_T32 l0 0).f3).length c322_3)) w.heap.size (fun k_ => (P0_ k_ ∨ w.heap.size ≤ k_) ∧ k_ ≠ gb323) (.slice A322_2 ((rd_T32 l0 0).f2).length c322_2) ((rd_T32 l0 0).f2)) := ⟨by (with_reducible repeat (first | apply Kd.V_alloc | apply Kd.V_drewN | apply Kd.V_drew)); exact Kd.V_mono (Kd.V_far (p := ⟨gb323, 3, none⟩) (Kd.V_far (p := ⟨gb323, 2, none⟩) (Kd.V_far (p := ⟨gb323, 1, none⟩) (Kd.V_far (p := ⟨gb323, 0, none⟩) (Kd.V_mono HL322_2.out (fun k_ hk => (⟨hk, hk.2⟩ : _ ∧ k_ ≠ gb323))) (fun _ hk => hk.2) (.int .i64 ((rd_T32 l0 0).f0))) (fun _ hk => hk.2) (.slice A322_1 ((rd_T32 l0 0).f1).length c322_1)) (fun _ hk => hk.2) (.slice A322_2 ((rd_T32 l0 0).f2).length c322_2)) (fun _ hk => hk.2) (.slice A322_3 ((rd_T32 l0 0).f3).length c322_3)) (fun _ hk => ⟨hk.1.1, hk.1.2⟩)⟩
  have n3_ : Aside0 (Kd.V k40 40 ((((w11.setCell ⟨gb323, 0, none⟩ (.int .i64 ((rd_T32 l0 0).f0))).setCell ⟨gb323, 1, none⟩ (.slice A322_1 ((rd_T32 l0 0).f1).length c322_1)).setCell ⟨gb323, 2, none⟩ (.slice A322_2 ((rd_T32 l0 0).f2).length c322_2)).setCell ⟨gb323, 3, none⟩ (.slice A322_3 ((rd_T32 l0 0).f3).length c322_3)) w.heap.size (fun k_ => (P0_ k_ ∨ w.heap.size ≤ k_) ∧ k_ ≠ gb323) (.slice A322_3 ((rd_T32 l0 0).f3).length c322_3) ((rd_T32 l0 0).f3)) := ⟨by (with_reducible repeat (first | apply Kd.V_alloc | apply Kd.V_drewN | apply Kd.V_drew)); exact Kd.V_mono (Kd.V_far (p := ⟨gb323, 3, none⟩) (Kd.V_far (p := ⟨gb323, 2, none⟩) (Kd.V_far (p := ⟨gb323, 1, none⟩) (Kd.V_far (p := ⟨gb323, 0, none⟩) (Kd.V_mono HL322_3.out (fun k_ hk => (⟨hk, hk.2⟩ : _ ∧ k_ ≠ gb323))) (fun _ hk => hk.2) (.int .i64 ((rd_T32 l0 0).f0))) (fun _ hk => hk.2) (.slice A322_1 ((rd_T32 l0 0).f1).length c322_1)) (fun _ hk => hk.2) (.slice A322_2 ((rd_T32 l0 0).f2).length c322_2)) (fun _ hk => hk.2) (.slice A322_3 ((rd_T32 l0 0).f3).length c322_3)) (fun _ hk => ⟨hk.1.1, hk.1.2⟩)⟩
  have n4_ : Aside0 (((((w11.setCell ⟨gb323, 0, none⟩ (.int .i64 ((rd_T32 l0 0).f0))).setCell ⟨gb323, 1, none⟩ (.slice A322_1 ((rd_T32 l0 0).f1).length c322_1)).setCell ⟨gb323, 2, none⟩ (.slice A322_2 ((rd_T32 l0 0).f2).length c322_2)).setCell ⟨gb323, 3, none⟩ (.slice A322_3 ((rd_T32 l0 0).f3).length c322_3)).heap[gb323]? = some (.cells #[.int .i64 ((rd_T32 l0 0).f0), .slice A322_1 ((rd_T32 l0 0).f1).length c322_1, .slice A322_2 ((rd_T32 l0 0).f2).length c322_2, .slice A322_3 ((rd_T32 l0 0).f3).length c322_3] 32 (0, 0))) := ⟨J28⟩
  have n5_ : Aside0 (Below w.heap.size w ((((w11.setCell ⟨gb323, 0, none⟩ (.int .i64 ((rd_T32 l0 0).f0))).setCell ⟨gb323, 1, none⟩ (.slice A322_1 ((rd_T32 l0 0).f1).length c322_1)).setCell ⟨gb323, 2, none⟩ (.slice A322_2 ((rd_T32 l0 0).f2).length c322_2)).setCell ⟨gb323, 3, none⟩ (.slice A322_3 ((rd_T32 l0 0).f3).length c322_3))) := ⟨J114⟩
  (try clear HO0)
  (try clear HL322_1)
  (try clear HL322_2)
  (try clear HL322_3)
  (try clear BK323)
  (try clear HB)
  generalize ((((w11.setCell ⟨gb323, 0, none⟩ (.int .i64 ((rd_T32 l0 0).f0))).setCell ⟨gb323, 1, none⟩ (.slice A322_1 ((rd_T32 l0 0).f1).length c322_1)).setCell ⟨gb323, 2, none⟩ (.slice A322_2 ((rd_T32 l0 0).f2).length c322_2)).setCell ⟨gb323, 3, none⟩ (.slice A322_3 ((rd_T32 l0 0).f3).length c322_3)) = w13 at n0_ n1_ n2_ n3_ n4_ n5_ ⊢
  have HO0 := n0_
  have HL322_1 := n1_
  have HL322_2 := n2_
  have HL322_3 := n3_
  have BK323 := n4_
  have HB := n5_
  clear n0_ n1_ n2_ n3_ n4_ n5_
  replace HO0 := zq (Kd.V_drew HO0.out)
  replace HL322_1 := zq (Kd.V_drew HL322_1.out)
  replace HL322_2 := zq (Kd.V_drew HL322_2.out)
  replace HL322_3 := zq (Kd.V_drew HL322_3.out)
  replace BK323 := zq (blk_drew BK323.out)
  replace HB := zq (below_drew1 HB.out)
  refine start_ (n := 11) (S := fun w' => w'.cell? ⟨gb323, 0, none⟩ = some (.int .i64 ((rd_T32 l0 0).f0)) ∧ w'.cell? ⟨gb323, 1, none⟩ = some (.slice A322_1 ((rd_T32 l0 0).f1).length c322_1) ∧ w'.cell? ⟨gb323, 2, none⟩ = some (.slice A322_2 ((rd_T32 l0 0).f2).length c322_2) ∧ w'.cell? ⟨gb323, 3, none⟩ = some (.slice A322_3 ((rd_T32 l0 0).f3).length c322_3)) (ds := []) #[Z,Z,Z,Z,Z,Z,Z,Z,Z,Z,Z] J8 rfl rfl ⟨(blk_cell BK323.out 0).trans rfl, (blk_cell BK323.out 1).trans rfl, (blk_cell BK323.out 2).trans rfl, (blk_cell BK323.out 3).trans rfl⟩ (fun hHeld => ?_); refine with_tabW tight_form.tab16 tight_form.bits16 (fun HT_ HW_ => ?_)
  generalize w13.drew = w14 at HO0 HL322_1 HL322_2 HL322_3 BK323 HB hHeld ⊢
  refine pure_ (i := 0) (N := some 56) (v := ?_) (a' := ?_) #[Y,Z,Z,Z,Z,Z,Z,Z,Z,Z,Z] rfl rfl (any_of HT_.out J8) (fun _ _ _ h => h) (Or.inl ⟨J93, ?_⟩) ?_ ?_
  rotate_left
  · exact pz0
  rotate_left
  · exact pz1
  refine take_ (i := 1) (N := some 57) (v := ?_) (a' := ?_) #[Y,Y,Z,Z,Z,Z,Z,Z,Z,Z,Z] rfl rfl (take_ofW HT_.out HW_.out J8) (fun _ _ _ h => h) (Or.inl ⟨J93, ?_⟩) hHeld ?_ ?_
  rotate_left
  · rintro w' ⟨s0, s1, s2, s3⟩
    go_simp
    with_reducible rfl
  rotate_left
  · exact pz1
  refine take_ (i := 2) (N := some 58) (v := ?_) (a' := ?_) #[Y,Y,Y,Z,Z,Z,Z,Z,Z,Z,Z] rfl rfl (take_ofW HT_.out HW_.out J8) (fun _ _ _ h => h) (Or.inl ⟨J93, ?_⟩) hHeld ?_ ?_
  rotate_left
  · rintro w' ⟨s0, s1, s2, s3⟩
    go_simp
    with_reducible rfl
  rotate_left
  · exact pz1
  refine join_ (σ := Value × Value × Value × Value × Nat) 2 #[Y,Y,Y,Y,Y,Y,Y,Y,Y,Z,Z] (fun s_ => [(59, s_.1), (60, .tuple #[.agg #[.int .i64 t330, s_.2.1, s_.2.2.1, s_.2.2.2.1], .bool t340]), (8, .pointer (some ⟨s_.2.2.2.2, 0, none⟩)), (55, .tuple #[.agg #[.int .i64 t330, s_.2.1, s_.2.2.1, s_.2.2.2.1], .bool t340]), (61, .agg #[.int .i64 t330, s_.2.1, s_.2.2.1, s_.2.2.2.1]), (62, .bool t340)]) (fun s_ w' => (w'.cell? ⟨gb323, 0, none⟩ = some (.int .i64 ((rd_T32 l0 0).f0)) ∧ w'.cell? ⟨gb323, 1, none⟩ = some (.slice A322_1 ((rd_T32 l0 0).f1).length c322_1) ∧ w'.cell? ⟨gb323, 2, none⟩ = some (.slice A322_2 ((rd_T32 l0 0).f2).length c322_2) ∧ w'.cell? ⟨gb323, 3, none⟩ = some (.slice A322_3 ((rd_T32 l0 0).f3).length c322_3)) ∧ (Kd.V (Kd.int .i64) 3 w' w.heap.size (fun k_ => (P0_ k_ ∨ w.heap.size ≤ k_) ∧ some k_ ≠ (s_.2.1 : Value).ownBlock ∧ some k_ ≠ (s_.2.2.1 : Value).ownBlock ∧ some k_ ≠ (s_.2.2.2.1 : Value).ownBlock ∧ k_ ≠ gb323 ∧ k_ ≠ s_.2.2.2.2) (.slice A322_1 ((rd_T32 l0 0).f1).length c322_1) ((rd_T32 l0 0).f1)) ∧ (Kd.V (Kd.int .i64) 3 w' w.heap.size (fun k_ => (P0_ k_ ∨ w.heap.size ≤ k_) ∧ some k_ ≠ (s_.2.1 : Value).ownBlock ∧ some k_ ≠ (s_.2.2.1 : Value).ownBlock ∧ some k_ ≠ (s_.2.2.2.1 : Value).ownBlock ∧ k_ ≠ gb323 ∧ k_ ≠ s_.2.2.2.2) (.slice A322_2 ((rd_T32 l0 0).f2).length c322_2) ((rd_T32 l0 0).f2)) ∧ (Kd.V k40 40 w' w.heap.size (fun k_ => (P0_ k_ ∨ w.heap.size ≤ k_) ∧ some k_ ≠ (s_.2.1 : Value).ownBlock ∧ some k_ ≠ (s_.2.2.1 : Value).ownBlock ∧ some k_ ≠ (s_.2.2.2.1 : Value).ownBlock ∧ k_ ≠ gb323 ∧ k_ ≠ s_.2.2.2.2) (.slice A322_3 ((rd_T32 l0 0).f3).length c322_3) ((rd_T32 l0 0).f3)) ∧ (Kd.V k32 32 w' w.heap.size (fun k_ => (P0_ k_ ∨ w.heap.size ≤ k_) ∧ some k_ ≠ (s_.2.1 : Value).ownBlock ∧ some k_ ≠ (s_.2.2.1 : Value).ownBlock ∧ some k_ ≠ (s_.2.2.2.1 : Value).ownBlock ∧ k_ ≠ gb323 ∧ k_ ≠ s_.2.2.2.2) (.slice (some ad322) l0.length c0) l0) ∧ (Kd.V k40 40 w' w.heap.size (fun k_ => (P0_ k_ ∨ w.heap.size ≤ k_) ∧ some k_ ≠ (s_.2.1 : Value).ownBlock ∧ some k_ ≠ (s_.2.2.1 : Value).ownBlock ∧ some k_ ≠ (s_.2.2.2.1 : Value).ownBlock ∧ k_ ≠ gb323 ∧ k_ ≠ s_.2.2.2.2) s_.1 t327) ∧ (Kd.R (Kd.int .i64) 3 w' w.heap.size (fun k_ => (w.heap.size ≤ k_) ∧ some k_ ≠ (s_.2.2.1 : Value).ownBlock) s_.2.1 t331) ∧ (Kd.R (Kd.int .i64) 3 w' w.heap.size (fun k_ => (w.heap.size ≤ k_) ∧ some k_ ≠ (s_.2.1 : Value).ownBlock) s_.2.2.1 t334) ∧ (Kd.R k40 40 w' w.heap.size (fun k_ => (w.heap.size ≤ k_)) s_.2.2.2.1 t337) ∧ (w'.heap[gb323]? = some (.cells #[.int .i64 ((rd_T32 l0 0).f0), .slice A322_1 ((rd_T32 l0 0).f1).length c322_1, .slice A322_2 ((rd_T32 l0 0).f2).length c322_2, .slice A322_3 ((rd_T32 l0 0).f3).length c322_3] 32 (0, 0))) ∧ (w'.heap[s_.2.2.2.2]? = some (.cells #[.int .i64 0, .slice none 0 0, .slice none 0 0, .slice none 0 0] 32 (0, 0))) ∧ (w.heap.size ≤ s_.2.2.2.2) ∧ (w.heap.size ≤ s_.2.2.2.2) ∧ (gb323 ≠ s_.2.2.2.2) ∧ (s_.2.2.2.2 ≠ gb323) ∧ (Below w.heap.size w w')) ?_ ?_
  rotate_left
  · intro hCont
    refine two_ (i := 3) (j := 8) (Ni := some 59) (Nj := some 8) #[Y,Y,Y,Y,Z,Z,Z,Z,Z,Z,Z] #[Y,Y,Y,Z,Z,Z,Z,Z,Y,Z,Z] rfl rfl rfl rfl (two_of HT_.out J8) J18 J18 (fun K hK => ?_) (fun K hK => ?_)
    · skip
      refine goes_ Tryd.func63 J8 rfl #[.agg #[.int .i64 ((rd_T32 l0 0).f0), .slice A322_1 ((rd_T32 l0 0).f1).length c322_1, .slice A322_2 ((rd_T32 l0 0).f2).length c322_2, .slice A322_3 ((rd_T32 l0 0).f3).length c322_3]] J93 rfl rfl J1 ?_
      with_reducible refine (tight_numbers.calls k ((rd_T32 l0 0).f0) _ _ ((rd_T32 l0 0).f1) _ _ ((rd_T32 l0 0).f2) (fun k_ => ((P0_ k_ ∨ w.heap.size ≤ k_) ∧ k_ ≠ gb323)) _ _ ((rd_T32 l0 0).f3) t327 _ ?side1 ?side2 ?side3 ?side4 ?side5 A9.out).mono ?_
      (case side1 => repeat (first | exact ((Kd.V_reads' (zv HL322_1.out)).2.2) | (with_reducible refine Kd.C_alloc ?_ _) | (with_reducible refine Kd.C_drewN ?_ _) | (with_reducible refine Kd.C_drew ?_)))
      (case side2 => exact HC322_1.out)
      (case side3 => repeat (first | exact ((Kd.V_reads' (zv HL322_2.out)).2.2) | (with_reducible refine Kd.C_alloc ?_ _) | (with_reducible refine Kd.C_drewN ?_ _) | (with_reducible refine Kd.C_drew ?_)))
      (case side4 => exact HC322_2.out)
      (case side5 => exact HL322_3.out)
      rintro e w15 ⟨v328, rfl, ho0, hb⟩
      refine ⟨_, rfl, ?_⟩
      replace HO0 := zq (Kd.V_below (zv HO0.out) hb)
      replace HL322_1 := zq (Kd.V_below (zv HL322_1.out) hb)
      replace HL322_2 := zq (Kd.V_below (zv HL322_2.out) hb)
      replace HL322_3 := zq (Kd.V_below (zv HL322_3.out) hb)
      have HO329 := zq (Kd.V_lower (Kd.V_mono (ok' := fun k_ => (P0_ k_ ∨ w.heap.size ≤ k_) ∧ k_ ≠ gb323) ho0 (fun k_ hk_ => ⟨Or.elim hk_ (fun hs_ => hs_.1) (fun hn_ => (.inr (Nat.le_trans (below_size (zs1 GE323.out)) hn_))), Or.elim hk_ (fun hs_ => hs_.2) (fun hn_ => (Kd.freshB (g := gb323) (o := .cells #[.int .i64 ((rd_T32 l0 0).f0), .slice A322_1 ((rd_T32 l0 0).f1).length c322_1, .slice A322_2 ((rd_T32 l0 0).f2).length c322_2, .slice A322_3 ((rd_T32 l0 0).f3).length c322_3] 32 (0, 0)) (zk BK323.out) k_ hn_))⟩)) (below_size (zs1 GE323.out)))
      replace BK323 := zq (blk_below (zk BK323.out) hb)
      replace HB := zq (below_step (zs1 GE323.out) hb)
      (try clear hb)
      (try clear hb2)
      (try clear hk)
      (try clear hi)
      (try clear ho0)
      obtain ⟨Ao16, co16, eo16⟩ := Kd.V_slice HO329.out
      (first | subst eo16 | (injection eo16 with f1_ f2_ f3_; have f4_ := f1_.symm; have f5_ := f3_.symm; clear f1_ f2_ f3_; subst f4_; subst f5_))
      refine hK.out _ _ ⟨(blk_cell BK323.out 0).trans rfl, (blk_cell BK323.out 1).trans rfl, (blk_cell BK323.out 2).trans rfl, (blk_cell BK323.out 3).trans rfl⟩ (fun hHeld => ?_)
      clear hK K
      refine norm_ (a' := ?_) ?_ ?_
      rotate_left
      · show Act.put _ (some 59) _ = _
        simp only [Act.put, List.setIfInBounds_toArray, List.set_cons_zero, List.set_cons_succ, i64_w, i32_w]
        rfl
      refine two_ (i := 4) (j := 8) (Ni := some 60) (Nj := some 8) #[Y,Y,Y,Y,Y,Z,Z,Z,Z,Z,Z] #[Y,Y,Y,Y,Z,Z,Z,Z,Y,Z,Z] rfl rfl rfl rfl (two_of HT_.out J8) J18 J18 (fun K hK => ?_) (fun K hK => ?_)
      · skip
        refine goes_ Tryd.func23 J8 rfl #[.slice A322_1 ((rd_T32 l0 0).f1).length c322_1, .slice Ao16 t327.length co16] J93 rfl rfl J1 ?_
        with_reducible refine (tight_Numbers.calls k _ _ ((rd_T32 l0 0).f1) _ _ t327 t330 t331 t334 t337 t340 _ ?side1 ?side2 ?side3 ?side4 A10.out).mono ?_
        (case side1 => repeat (first | exact ((Kd.V_reads' (zv HL322_1.out)).2.2) | (with_reducible refine Kd.C_alloc ?_ _) | (with_reducible refine Kd.C_drewN ?_ _) | (with_reducible refine Kd.C_drew ?_)))
        (case side2 => exact HC322_1.out)
        (case side3 => exact zc ((Kd.V_reads' HO329.out).2.2))
        (case side4 => exact (Kd.V_reads' HO329.out).2.1)
        rintro e w17 ⟨v332, v335, v338, rfl, ho0, ho1, ho2, hb⟩
        refine ⟨_, rfl, ?_⟩
        replace HO0 := zq (Kd.V_mono (Kd.V_told (Kd.V_told (Kd.V_told (Kd.V_old (zv HO0.out) hb) (Kd.R_base ho0)) (Kd.R_base ho1)) (Kd.R_base ho2)) (fun _ h_ => h_.1))
        replace HL322_1 := zq (Kd.V_mono (Kd.V_told (Kd.V_told (Kd.V_told (Kd.V_old (zv HL322_1.out) hb) (Kd.R_base ho0)) (Kd.R_base ho1)) (Kd.R_base ho2)) (fun _ h_ => h_.1))
        replace HL322_2 := zq (Kd.V_mono (Kd.V_told (Kd.V_told (Kd.V_told (Kd.V_old (zv HL322_2.out) hb) (Kd.R_base ho0)) (Kd.R_base ho1)) (Kd.R_base ho2)) (fun _ h_ => h_.1))
        replace HL322_3 := zq (Kd.V_mono (Kd.V_told (Kd.V_told (Kd.V_told (Kd.V_old (zv HL322_3.out) hb) (Kd.R_base ho0)) (Kd.R_base ho1)) (Kd.R_base ho2)) (fun _ h_ => h_.1))
        replace HO329 := zq (Kd.V_mono (Kd.V_told (Kd.V_told (Kd.V_told (Kd.V_old (zv HO329.out) hb) (Kd.R_base ho0)) (Kd.R_base ho1)) (Kd.R_base ho2)) (fun _ h_ => h_.1))
        have HO333 := zq (Kd.R_lower (Kd.R_newM (M := fun k_ => (w.heap.size ≤ k_)) ho0 (below_size (zs1 GE323.out)) (fun k_ h_ => h_)) (below_size (zs1 GE323.out)))
        have HO336 := zq (Kd.R_lower (Kd.R_newM (M := fun k_ => (w.heap.size ≤ k_)) ho1 (below_size (zs1 GE323.out)) (fun k_ h_ => h_)) (below_size (zs1 GE323.out)))
        have HO339 := zq (Kd.R_lower (Kd.R_newM (M := fun k_ => (w.heap.size ≤ k_)) ho2 (below_size (zs1 GE323.out)) (fun k_ h_ => h_)) (below_size (zs1 GE323.out)))
        replace BK323 := zq (blk_below (zk BK323.out) hb)
        replace HB := zq (below_step (zs1 GE323.out) hb)
        (try clear hb)
        (try clear hb2)
        (try clear hk)
        (try clear hi)
        (try clear ho0)
        (try clear ho1)
        (try clear ho2)
        refine hK.out _ _ ⟨(blk_cell BK323.out 0).trans rfl, (blk_cell BK323.out 1).trans rfl, (blk_cell BK323.out 2).trans rfl, (blk_cell BK323.out 3).trans rfl⟩ (fun hHeld => ?_)
        clear hK K
        refine norm_ (a' := ?_) ?_ ?_
        rotate_left
        · show Act.put _ (some 60) _ = _
          simp only [Act.put, List.setIfInBounds_toArray, List.set_cons_zero, List.set_cons_succ, i64_w, i32_w]
          rfl
        refine pure_ (i := 5) (N := some 55) (v := ?_) (a' := ?_) #[Y,Y,Y,Y,Y,Y,Z,Z,Z,Z,Z] rfl rfl (any_of HT_.out J8) (fun _ _ _ h => h) (Or.inl ⟨J93, ?_⟩) ?_ ?_
        rotate_left
        · exact pz0
        rotate_left
        · exact pz1
        refine pure_ (i := 6) (N := some 61) (v := ?_) (a' := ?_) #[Y,Y,Y,Y,Y,Y,Y,Z,Z,Z,Z] rfl rfl (any_of HT_.out J8) (fun _ _ _ h => h) (Or.inl ⟨J93, ?_⟩) ?_ ?_
        rotate_left
        · exact pz0
        rotate_left
        · exact pz1
        refine pure_ (i := 7) (N := some 62) (v := ?_) (a' := ?_) #[Y,Y,Y,Y,Y,Y,Y,Y,Z,Z,Z] rfl rfl (any_of HT_.out J8) (fun _ _ _ h => h) (Or.inl ⟨J93, ?_⟩) ?_ ?_
        rotate_left
        · exact pz0
        rotate_left
        · exact pz1
        refine one_ (i := 8) (N := some 8) #[Y,Y,Y,Y,Y,Y,Y,Y,Y,Z,Z] rfl rfl (one_of HT_.out J8) J18 (fun K hK => ?_)
        refine box_step ?hg (N := 8) ?hd (cs := #[.int .i64 0, .slice none 0 0, .slice none 0 0, .slice none 0 0]) (t := 32) ?hr ?_; (case hd => rfl); (case hg => rfl); (case hr => first | (go_simp; done) | (go_simp; rfl))
        intro gb341 hg w18 hbox hb
        replace HO0 := zq (Kd.V_below (Kd.V_elderB (zv HO0.out) gb341 (Nat.le_of_eq hg.symm)) hb)
        replace HL322_1 := zq (Kd.V_below (Kd.V_elderB (zv HL322_1.out) gb341 (Nat.le_of_eq hg.symm)) hb)
        replace HL322_2 := zq (Kd.V_below (Kd.V_elderB (zv HL322_2.out) gb341 (Nat.le_of_eq hg.symm)) hb)
        replace HL322_3 := zq (Kd.V_below (Kd.V_elderB (zv HL322_3.out) gb341 (Nat.le_of_eq hg.symm)) hb)
        replace HO329 := zq (Kd.V_below (Kd.V_elderB (zv HO329.out) gb341 (Nat.le_of_eq hg.symm)) hb)
        replace HO333 := zq (Kd.R_below (zr HO333.out) hb)
        replace HO336 := zq (Kd.R_below (zr HO336.out) hb)
        replace HO339 := zq (Kd.R_below (zr HO339.out) hb)
        have BK341 := zq (hbox)
        have GW341 := zq ((J101 : w.heap.size ≤ gb341))
        have GE341 := zq ((J101 : w.heap.size ≤ gb341))
        replace HB := zq (below_step (zs1 GE323.out) hb)
        have NB323_341 := zq ((J54 : gb323 ≠ gb341))
        have NB341_323 := zq ((J55 : gb341 ≠ gb323))
        replace BK323 := zq (blk_below (zk BK323.out) hb)
        clear hb hbox hg
        refine hK.out _ _ ⟨(blk_cell BK323.out 0).trans rfl, (blk_cell BK323.out 1).trans rfl, (blk_cell BK323.out 2).trans rfl, (blk_cell BK323.out 3).trans rfl⟩ (fun hHeld => ?_)
        clear hK K
        refine norm_ (a' := ?_) ?_ ?_
        rotate_left
        · show Act.put _ (some 8) _ = _
          simp only [Act.put, List.setIfInBounds_toArray, List.set_cons_zero, List.set_cons_succ, i64_w, i32_w]
          rfl
        exact norm_ J59 (hCont (.slice Ao16 t327.length co16, v332, v335, v338, gb341) _ ⟨hHeld, (by (with_reducible repeat (first | apply Kd.V_alloc | apply Kd.V_drewN | apply Kd.V_drew)); exact Kd.V_mono HL322_1.out (fun _ hk => ⟨hk.1.1.1.1.1, ⟨hk.1.1.1.2, ⟨hk.1.1.2, ⟨hk.1.2, ⟨hk.1.1.1.1.2, hk.2⟩⟩⟩⟩⟩)), (by (with_reducible repeat (first | apply Kd.V_alloc | apply Kd.V_drewN | apply Kd.V_drew)); exact Kd.V_mono HL322_2.out (fun _ hk => ⟨hk.1.1.1.1.1, ⟨hk.1.1.1.2, ⟨hk.1.1.2, ⟨hk.1.2, ⟨hk.1.1.1.1.2, hk.2⟩⟩⟩⟩⟩)), (by (with_reducible repeat (first | apply Kd.V_alloc | apply Kd.V_drewN | apply Kd.V_drew)); exact Kd.V_mono HL322_3.out (fun _ hk => ⟨hk.1.1.1.1.1, ⟨hk.1.1.1.2, ⟨hk.1.1.2, ⟨hk.1.2, ⟨hk.1.1.1.1.2, hk.2⟩⟩⟩⟩⟩)), (by (with_reducible repeat (first | apply Kd.V_alloc | apply Kd.V_drewN | apply Kd.V_drew)); exact Kd.V_mono HO0.out (fun _ hk => ⟨hk.1.1.1.1.1, ⟨hk.1.1.1.2, ⟨hk.1.1.2, ⟨hk.1.2, ⟨hk.1.1.1.1.2, hk.2⟩⟩⟩⟩⟩)), (by (with_reducible repeat (first | apply Kd.V_alloc | apply Kd.V_drewN | apply Kd.V_drew)); exact Kd.V_mono HO329.out (fun _ hk => ⟨hk.1.1.1.1.1, ⟨hk.1.1.1.2, ⟨hk.1.1.2, ⟨hk.1.2, ⟨hk.1.1.1.1.2, hk.2⟩⟩⟩⟩⟩)), (zr HO333.out), (zr HO336.out), J87, (zk BK323.out), (zk BK341.out), GW341.out, GE341.out, NB323_341.out, NB341_323.out, (zs2 GE323.out GE341.out)⟩)
      · skip
        refine box_step ?hg (N := 8) ?hd (cs := #[.int .i64 0, .slice none 0 0, .slice none 0 0, .slice none 0 0]) (t := 32) ?hr ?_; (case hd => rfl); (case hg => rfl); (case hr => first | (go_simp; done) | (go_simp; rfl))
        intro gb341 hg w16 hbox hb
        replace HO0 := zq (Kd.V_below (Kd.V_elderB (zv HO0.out) gb341 (Nat.le_of_eq hg.symm)) hb)
        replace HL322_1 := zq (Kd.V_below (Kd.V_elderB (zv HL322_1.out) gb341 (Nat.le_of_eq hg.symm)) hb)
        replace HL322_2 := zq (Kd.V_below (Kd.V_elderB (zv HL322_2.out) gb341 (Nat.le_of_eq hg.symm)) hb)
        replace HL322_3 := zq (Kd.V_below (Kd.V_elderB (zv HL322_3.out) gb341 (Nat.le_of_eq hg.symm)) hb)
        replace HO329 := zq (Kd.V_below (Kd.V_elderB (zv HO329.out) gb341 (Nat.le_of_eq hg.symm)) hb)
        have BK341 := zq (hbox)
        have GW341 := zq ((J101 : w.heap.size ≤ gb341))
        have GE341 := zq ((J101 : w.heap.size ≤ gb341))
        replace HB := zq (below_step (zs1 GE323.out) hb)
        have NB323_341 := zq ((J54 : gb323 ≠ gb341))
        have NB341_323 := zq ((J55 : gb341 ≠ gb323))
        replace BK323 := zq (blk_below (zk BK323.out) hb)
        clear hb hbox hg
        obtain ⟨Ao17, co17, eo17⟩ := Kd.V_slice HO329.out
        (first | subst eo17 | (injection eo17 with f1_ f2_ f3_; have f4_ := f1_.symm; have f5_ := f3_.symm; clear f1_ f2_ f3_; subst f4_; subst f5_))
        refine hK.out _ _ ⟨(blk_cell BK323.out 0).trans rfl, (blk_cell BK323.out 1).trans rfl, (blk_cell BK323.out 2).trans rfl, (blk_cell BK323.out 3).trans rfl⟩ (fun hHeld => ?_)
        clear hK K
        refine norm_ (a' := ?_) ?_ ?_
        rotate_left
        · show Act.put _ (some 8) _ = _
          simp only [Act.put, List.setIfInBounds_toArray, List.set_cons_zero, List.set_cons_succ, i64_w, i32_w]
          rfl
        refine one_ (i := 4) (N := some 60) #[Y,Y,Y,Y,Y,Z,Z,Z,Y,Z,Z] rfl rfl (one_of HT_.out J8) J18 (fun K hK => ?_)
        refine goes_ Tryd.func23 J8 rfl #[.slice A322_1 ((rd_T32 l0 0).f1).length c322_1, .slice Ao17 t327.length co17] J93 rfl rfl J1 ?_
        with_reducible refine (tight_Numbers.calls k _ _ ((rd_T32 l0 0).f1) _ _ t327 t330 t331 t334 t337 t340 _ ?side1 ?side2 ?side3 ?side4 A10.out).mono ?_
        (case side1 => repeat (first | exact ((Kd.V_reads' (zv HL322_1.out)).2.2) | (with_reducible refine Kd.C_alloc ?_ _) | (with_reducible refine Kd.C_drewN ?_ _) | (with_reducible refine Kd.C_drew ?_)))
        (case side2 => exact HC322_1.out)
        (case side3 => exact zc ((Kd.V_reads' HO329.out).2.2))
        (case side4 => exact (Kd.V_reads' HO329.out).2.1)
        rintro e w18 ⟨v332, v335, v338, rfl, ho0, ho1, ho2, hb⟩
        refine ⟨_, rfl, ?_⟩
        replace HO0 := zq (Kd.V_mono (Kd.V_told (Kd.V_told (Kd.V_told (Kd.V_old (zv HO0.out) hb) (Kd.R_base ho0)) (Kd.R_base ho1)) (Kd.R_base ho2)) (fun _ h_ => h_.1))
        replace HL322_1 := zq (Kd.V_mono (Kd.V_told (Kd.V_told (Kd.V_told (Kd.V_old (zv HL322_1.out) hb) (Kd.R_base ho0)) (Kd.R_base ho1)) (Kd.R_base ho2)) (fun _ h_ => h_.1))
        replace HL322_2 := zq (Kd.V_mono (Kd.V_told (Kd.V_told (Kd.V_told (Kd.V_old (zv HL322_2.out) hb) (Kd.R_base ho0)) (Kd.R_base ho1)) (Kd.R_base ho2)) (fun _ h_ => h_.1))
        replace HL322_3 := zq (Kd.V_mono (Kd.V_told (Kd.V_told (Kd.V_told (Kd.V_old (zv HL322_3.out) hb) (Kd.R_base ho0)) (Kd.R_base ho1)) (Kd.R_base ho2)) (fun _ h_ => h_.1))
        replace HO329 := zq (Kd.V_mono (Kd.V_told (Kd.V_told (Kd.V_told (Kd.V_old (zv HO329.out) hb) (Kd.R_base ho0)) (Kd.R_base ho1)) (Kd.R_base ho2)) (fun _ h_ => h_.1))
        have HO333 := zq (Kd.R_lower (Kd.R_newM (M := fun k_ => (w.heap.size ≤ k_)) ho0 (below_size (zs2 GE323.out GE341.out)) (fun k_ h_ => h_)) (below_size (zs2 GE323.out GE341.out)))
        have HO336 := zq (Kd.R_lower (Kd.R_newM (M := fun k_ => (w.heap.size ≤ k_)) ho1 (below_size (zs2 GE323.out GE341.out)) (fun k_ h_ => h_)) (below_size (zs2 GE323.out GE341.out)))
        have HO339 := zq (Kd.R_lower (Kd.R_newM (M := fun k_ => (w.heap.size ≤ k_)) ho2 (below_size (zs2 GE323.out GE341.out)) (fun k_ h_ => h_)) (below_size (zs2 GE323.out GE341.out)))
        replace BK323 := zq (blk_below (zk BK323.out) hb)
        replace BK341 := zq (blk_below (zk BK341.out) hb)
        replace HB := zq (below_step (zs2 GE323.out GE341.out) hb)
        (try clear hb)
        (try clear hb2)
        (try clear hk)
        (try clear hi)
        (try clear ho0)
        (try clear ho1)
        (try clear ho2)
        refine hK.out _ _ ⟨(blk_cell BK323.out 0).trans rfl, (blk_cell BK323.out 1).trans rfl, (blk_cell BK323.out 2).trans rfl, (blk_cell BK323.out 3).trans rfl⟩ (fun hHeld => ?_)
        clear hK K
        refine norm_ (a' := ?_) ?_ ?_
        rotate_left
        · show Act.put _ (some 60) _ = _
          simp only [Act.put, List.setIfInBounds_toArray, List.set_cons_zero, List.set_cons_succ, i64_w, i32_w]
          rfl
        refine pure_ (i := 5) (N := some 55) (v := ?_) (a' := ?_) #[Y,Y,Y,Y,Y,Y,Z,Z,Y,Z,Z] rfl rfl (any_of HT_.out J8) (fun _ _ _ h => h) (Or.inl ⟨J93, ?_⟩) ?_ ?_
        rotate_left
        · exact pz0
        rotate_left
        · exact pz1
        refine pure_ (i := 6) (N := some 61) (v := ?_) (a' := ?_) #[Y,Y,Y,Y,Y,Y,Y,Z,Y,Z,Z] rfl rfl (any_of HT_.out J8) (fun _ _ _ h => h) (Or.inl ⟨J93, ?_⟩) ?_ ?_
        rotate_left
        · exact pz0
        rotate_left
        · exact pz1
        refine pure_ (i := 7) (N := some 62) (v := ?_) (a' := ?_) #[Y,Y,Y,Y,Y,Y,Y,Y,Y,Z,Z] rfl rfl (any_of HT_.out J8) (fun _ _ _ h => h) (Or.inl ⟨J93, ?_⟩) ?_ ?_
        rotate_left
        · exact pz0
        rotate_left
        · exact pz1
        exact norm_ J59 (hCont (.slice Ao17 t327.length co17, v332, v335, v338, gb341) _ ⟨hHeld, J95, J96, J97, J99, (by (with_reducible repeat (first | apply Kd.V_alloc | apply Kd.V_drewN | apply Kd.V_drew)); exact Kd.V_mono HO329.out (fun _ hk => ⟨hk.1.1.1.1.1, ⟨hk.1.1.2, ⟨hk.1.2, ⟨hk.2, ⟨hk.1.1.1.1.2, hk.1.1.1.2⟩⟩⟩⟩⟩)), (zr HO333.out), (zr HO336.out), J87, (zk BK323.out), (zk BK341.out), GW341.out, GE341.out, NB323_341.out, NB341_323.out, (zs2 GE323.out GE341.out)⟩)
    · skip
      refine box_step ?hg (N := 8) ?hd (cs := #[.int .i64 0, .slice none 0 0, .slice none 0 0, .slice none 0 0]) (t := 32) ?hr ?_; (case hd => rfl); (case hg => rfl); (case hr => first | (go_simp; done) | (go_simp; rfl))
      intro gb341 hg w15 hbox hb
      replace HO0 := zq (Kd.V_below (Kd.V_elderB (zv HO0.out) gb341 (Nat.le_of_eq hg.symm)) hb)
      replace HL322_1 := zq (Kd.V_below (Kd.V_elderB (zv HL322_1.out) gb341 (Nat.le_of_eq hg.symm)) hb)
      replace HL322_2 := zq (Kd.V_below (Kd.V_elderB (zv HL322_2.out) gb341 (Nat.le_of_eq hg.symm)) hb)
      replace HL322_3 := zq (Kd.V_below (Kd.V_elderB (zv HL322_3.out) gb341 (Nat.le_of_eq hg.symm)) hb)
      have BK341 := zq (hbox)
      have GW341 := zq ((J101 : w.heap.size ≤ gb341))
      have GE341 := zq ((J101 : w.heap.size ≤ gb341))
      replace HB := zq (below_step (zs1 GE323.out) hb)
      have NB323_341 := zq ((J54 : gb323 ≠ gb341))
      have NB341_323 := zq ((J55 : gb341 ≠ gb323))
      replace BK323 := zq (blk_below (zk BK323.out) hb)
      clear hb hbox hg
      refine hK.out _ _ ⟨(blk_cell BK323.out 0).trans rfl, (blk_cell BK323.out 1).trans rfl, (blk_cell BK323.out 2).trans rfl, (blk_cell BK323.out 3).trans rfl⟩ (fun hHeld => ?_)
      clear hK K
      refine norm_ (a' := ?_) ?_ ?_
      rotate_left
      · show Act.put _ (some 8) _ = _
        simp only [Act.put, List.setIfInBounds_toArray, List.set_cons_zero, List.set_cons_succ, i64_w, i32_w]
        rfl
      refine one_ (i := 3) (N := some 59) #[Y,Y,Y,Y,Z,Z,Z,Z,Y,Z,Z] rfl rfl (one_of HT_.out J8) J18 (fun K hK => ?_)
      refine goes_ Tryd.func63 J8 rfl #[.agg #[.int .i64 ((rd_T32 l0 0).f0), .slice A322_1 ((rd_T32 l0 0).f1).length c322_1, .slice A322_2 ((rd_T32 l0 0).f2).length c322_2, .slice A322_3 ((rd_T32 l0 0).f3).length c322_3]] J93 rfl rfl J1 ?_
      with_reducible refine (tight_numbers.calls k ((rd_T32 l0 0).f0) _ _ ((rd_T32 l0 0).f1) _ _ ((rd_T32 l0 0).f2) (fun k_ => (((P0_ k_ ∨ w.heap.size ≤ k_) ∧ k_ ≠ gb323) ∧ k_ ≠ gb341)) _ _ ((rd_T32 l0 0).f3) t327 _ ?side1 ?side2 ?side3 ?side4 ?side5 A9.out).mono ?_
      (case side1 => repeat (first | exact ((Kd.V_reads' (zv HL322_1.out)).2.2) | (with_reducible refine Kd.C_alloc ?_ _) | (with_reducible refine Kd.C_drewN ?_ _) | (with_reducible refine Kd.C_drew ?_)))
      (case side2 => exact HC322_1.out)
      (case side3 => repeat (first | exact ((Kd.V_reads' (zv HL322_2.out)).2.2) | (with_reducible refine Kd.C_alloc ?_ _) | (with_reducible refine Kd.C_drewN ?_ _) | (with_reducible refine Kd.C_drew ?_)))
      (case side4 => exact HC322_2.out)
      (case side5 => exact HL322_3.out)
      rintro e w16 ⟨v328, rfl, ho0, hb⟩
      refine ⟨_, rfl, ?_⟩
      replace HO0 := zq (Kd.V_below (zv HO0.out) hb)
      replace HL322_1 := zq (Kd.V_below (zv HL322_1.out) hb)
      replace HL322_2 := zq (Kd.V_below (zv HL322_2.out) hb)
      replace HL322_3 := zq (Kd.V_below (zv HL322_3.out) hb)
      have HO329 := zq (Kd.V_lower (Kd.V_mono (ok' := fun k_ => (P0_ k_ ∨ w.heap.size ≤ k_) ∧ k_ ≠ gb323 ∧ k_ ≠ gb341) ho0 (fun k_ hk_ => ⟨Or.elim hk_ (fun hs_ => hs_.1.1) (fun hn_ => (.inr (Nat.le_trans (below_size (zs2 GE323.out GE341.out)) hn_))), Or.elim hk_ (fun hs_ => hs_.1.2) (fun hn_ => (Kd.freshB (g := gb323) (o := .cells #[.int .i64 ((rd_T32 l0 0).f0), .slice A322_1 ((rd_T32 l0 0).f1).length c322_1, .slice A322_2 ((rd_T32 l0 0).f2).length c322_2, .slice A322_3 ((rd_T32 l0 0).f3).length c322_3] 32 (0, 0)) (zk BK323.out) k_ hn_)), Or.elim hk_ (fun hs_ => hs_.2) (fun hn_ => (Kd.freshB (g := gb341) (o := .cells #[.int .i64 0, .slice none 0 0, .slice none 0 0, .slice none 0 0] 32 (0, 0)) (zk BK341.out) k_ hn_))⟩)) (below_size (zs2 GE323.out GE341.out)))
      replace BK323 := zq (blk_below (zk BK323.out) hb)
      replace BK341 := zq (blk_below (zk BK341.out) hb)
      replace HB := zq (below_step (zs2 GE323.out GE341.out) hb)
      (try clear hb)
      (try clear hb2)
      (try clear hk)
      (try clear hi)
      (try clear ho0)
      obtain ⟨Ao17, co17, eo17⟩ := Kd.V_slice HO329.out
      (first | subst eo17 | (injection eo17 with f1_ f2_ f3_; have f4_ := f1_.symm; have f5_ := f3_.symm; clear f1_ f2_ f3_; subst f4_; subst f5_))
      refine hK.out _ _ ⟨(blk_cell BK323.out 0).trans rfl, (blk_cell BK323.out 1).trans rfl, (blk_cell BK323.out 2).trans rfl, (blk_cell BK323.out 3).trans rfl⟩ (fun hHeld => ?_)
      clear hK K
      refine norm_ (a' := ?_) ?_ ?_
      rotate_left
      · show Act.put _ (some 59) _ = _
        simp only [Act.put, List.setIfInBounds_toArray, List.set_cons_zero, List.set_cons_succ, i64_w, i32_w]
        rfl
      refine one_ (i := 4) (N := some 60) #[Y,Y,Y,Y,Y,Z,Z,Z,Y,Z,Z] rfl rfl (one_of HT_.out J8) J18 (fun K hK => ?_)
      refine goes_ Tryd.func23 J8 rfl #[.slice A322_1 ((rd_T32 l0 0).f1).length c322_1, .slice Ao17 t327.length co17] J93 rfl rfl J1 ?_
      with_reducible refine (tight_Numbers.calls k _ _ ((rd_T32 l0 0).f1) _ _ t327 t330 t331 t334 t337 t340 _ ?side1 ?side2 ?side3 ?side4 A10.out).mono ?_
      (case side1 => repeat (first | exact ((Kd.V_reads' (zv HL322_1.out)).2.2) | (with_reducible refine Kd.C_alloc ?_ _) | (with_reducible refine Kd.C_drewN ?_ _) | (with_reducible refine Kd.C_drew ?_)))
      (case side2 => exact HC322_1.out)
      (case side3 => exact zc ((Kd.V_reads' HO329.out).2.2))
      (case side4 => exact (Kd.V_reads' HO329.out).2.1)
      rintro e w18 ⟨v332, v335, v338, rfl, ho0, ho1, ho2, hb⟩
      refine ⟨_, rfl, ?_⟩
      replace HO0 := zq (Kd.V_mono (Kd.V_told (Kd.V_told (Kd.V_told (Kd.V_old (zv HO0.out) hb) (Kd.R_base ho0)) (Kd.R_base ho1)) (Kd.R_base ho2)) (fun _ h_ => h_.1))
      replace HL322_1 := zq (Kd.V_mono (Kd.V_told (Kd.V_told (Kd.V_told (Kd.V_old (zv HL322_1.out) hb) (Kd.R_base ho0)) (Kd.R_base ho1)) (Kd.R_base ho2)) (fun _ h_ => h_.1))
      replace HL322_2 := zq (Kd.V_mono (Kd.V_told (Kd.V_told (Kd.V_told (Kd.V_old (zv HL322_2.out) hb) (Kd.R_base ho0)) (Kd.R_base ho1)) (Kd.R_base ho2)) (fun _ h_ => h_.1))
      replace HL322_3 := zq (Kd.V_mono (Kd.V_told (Kd.V_told (Kd.V_told (Kd.V_old (zv HL322_3.out) hb) (Kd.R_base ho0)) (Kd.R_base ho1)) (Kd.R_base ho2)) (fun _ h_ => h_.1))
      replace HO329 := zq (Kd.V_mono (Kd.V_told (Kd.V_told (Kd.V_told (Kd.V_old (zv HO329.out) hb) (Kd.R_base ho0)) (Kd.R_base ho1)) (Kd.R_base ho2)) (fun _ h_ => h_.1))
      have HO333 := zq (Kd.R_lower (Kd.R_newM (M := fun k_ => (w.heap.size ≤ k_)) ho0 (below_size (zs2 GE323.out GE341.out)) (fun k_ h_ => h_)) (below_size (zs2 GE323.out GE341.out)))
      have HO336 := zq (Kd.R_lower (Kd.R_newM (M := fun k_ => (w.heap.size ≤ k_)) ho1 (below_size (zs2 GE323.out GE341.out)) (fun k_ h_ => h_)) (below_size (zs2 GE323.out GE341.out)))
      have HO339 := zq (Kd.R_lower (Kd.R_newM (M := fun k_ => (w.heap.size ≤ k_)) ho2 (below_size (zs2 GE323.out GE341.out)) (fun k_ h_ => h_)) (below_size (zs2 GE323.out GE341.out)))
      replace BK323 := zq (blk_below (zk BK323.out) hb)
      replace BK341 := zq (blk_below (zk BK341.out) hb)
      replace HB := zq (below_step (zs2 GE323.out GE341.out) hb)
      (try clear hb)
      (try clear hb2)
      (try clear hk)
      (try clear hi)
      (try clear ho0)
      (try clear ho1)
      (try clear ho2)
      refine hK.out _ _ ⟨(blk_cell BK323.out 0).trans rfl, (blk_cell BK323.out 1).trans rfl, (blk_cell BK323.out 2).trans rfl, (blk_cell BK323.out 3).trans rfl⟩ (fun hHeld => ?_)
      clear hK K
      refine norm_ (a' := ?_) ?_ ?_
      rotate_left
      · show Act.put _ (some 60) _ = _
        simp only [Act.put, List.setIfInBounds_toArray, List.set_cons_zero, List.set_cons_succ, i64_w, i32_w]
        rfl
      refine pure_ (i := 5) (N := some 55) (v := ?_) (a' := ?_) #[Y,Y,Y,Y,Y,Y,Z,Z,Y,Z,Z] rfl rfl (any_of HT_.out J8) (fun _ _ _ h => h) (Or.inl ⟨J93, ?_⟩) ?_ ?_
      rotate_left
      · exact pz0
      rotate_left
      · exact pz1
      refine pure_ (i := 6) (N := some 61) (v := ?_) (a' := ?_) #[Y,Y,Y,Y,Y,Y,Y,Z,Y,Z,Z] rfl rfl (any_of HT_.out J8) (fun _ _ _ h => h) (Or.inl ⟨J93, ?_⟩) ?_ ?_
      rotate_left
      · exact pz0
      rotate_left
      · exact pz1
      refine pure_ (i := 7) (N := some 62) (v := ?_) (a' := ?_) #[Y,Y,Y,Y,Y,Y,Y,Y,Y,Z,Z] rfl rfl (any_of HT_.out J8) (fun _ _ _ h => h) (Or.inl ⟨J93, ?_⟩) ?_ ?_
      rotate_left
      · exact pz0
      rotate_left
      · exact pz1
      exact norm_ J59 (hCont (.slice Ao17 t327.length co17, v332, v335, v338, gb341) _ ⟨hHeld, J95, J96, J97, J99, (by (with_reducible repeat (first | apply Kd.V_alloc | apply Kd.V_drewN | apply Kd.V_drew)); exact Kd.V_mono HO329.out (fun _ hk => ⟨hk.1.1.1.1, ⟨hk.1.1.2, ⟨hk.1.2, ⟨hk.2, ⟨hk.1.1.1.2.1, hk.1.1.1.2.2⟩⟩⟩⟩⟩)), (zr HO333.out), (zr HO336.out), J87, (zk BK323.out), (zk BK341.out), GW341.out, GE341.out, NB323_341.out, NB341_323.out, (zs2 GE323.out GE341.out)⟩)
  rintro ⟨v328, v332, v335, v338, gb341⟩ w19 ⟨hS_, h0_, h1_, h2_, h3_, h4_, h5_, h6_, h7_, h8_, h9_, h10_, h11_, h12_, h13_, h14_⟩
  have n0_ : Aside0 (Kd.V (Kd.int .i64) 3 w19 w.heap.size (fun k_ => (P0_ k_ ∨ w.heap.size ≤ k_) ∧ some k_ ≠ (v332 : Value).ownBlock ∧ some k_ ≠ (v335 : Value).ownBlock ∧ some k_ ≠ (v338 : Value).ownBlock ∧ k_ ≠ gb323 ∧ k_ ≠ gb341) (.slice A322_1 ((rd_T32 l0 0).f1).length c322_1) ((rd_T32 l0 0).f1)) := ⟨h0_⟩
  have n1_ : Aside0 (Kd.V (Kd.int .i64) 3 w19 w.heap.size (fun k_ => (P0_ k_ ∨ w.heap.size ≤ k_) ∧ some k_ ≠ (v332 : Value).ownBlock ∧ some k_ ≠ (v335 : Value).ownBlock ∧ some k_ ≠ (v338 : Value).ownBlock ∧ k_ ≠ gb323 ∧ k_ ≠ gb341) (.slice A322_2 ((rd_T32 l0 0).f2).length c322_2) ((rd_T32 l0 0).f2)) := ⟨h1_⟩
  have n2_ : Aside0 (Kd.V k40 40 w19 w.heap.size (fun k_ => (P0_ k_ ∨ w.heap.size ≤ k_) ∧ some k_ ≠ (v332 : Value).ownBlock ∧ some k_ ≠ (v335 : Value).ownBlock ∧ some k_ ≠ (v338 : Value).ownBlock ∧ k_ ≠ gb323 ∧ k_ ≠ gb341) (.slice A322_3 ((rd_T32 l0 0).f3).length c322_3) ((rd_T32 l0 0).f3)) := ⟨h2_⟩
  have n3_ : Aside0 (Kd.V k32 32 w19 w.heap.size (fun k_ => (P0_ k_ ∨ w.heap.size ≤ k_) ∧ some k_ ≠ (v332 : Value).ownBlock ∧ some k_ ≠ (v335 : Value).ownBlock ∧ some k_ ≠ (v338 : Value).ownBlock ∧ k_ ≠ gb323 ∧ k_ ≠ gb341) (.slice (some ad322) l0.length c0) l0) := ⟨h3_⟩
  have n4_ : Aside0 (Kd.V k40 40 w19 w.heap.size (fun k_ => (P0_ k_ ∨ w.heap.size ≤ k_) ∧ some k_ ≠ (v332 : Value).ownBlock ∧ some k_ ≠ (v335 : Value).ownBlock ∧ some k_ ≠ (v338 : Value).ownBlock ∧ k_ ≠ gb323 ∧ k_ ≠ gb341) v328 t327) := ⟨h4_⟩
  have n5_ : Aside0 (Kd.R (Kd.int .i64) 3 w19 w.heap.size (fun k_ => (w.heap.size ≤ k_) ∧ some k_ ≠ (v335 : Value).ownBlock) v332 t331) := ⟨h5_⟩
  have n6_ : Aside0 (Kd.R (Kd.int .i64) 3 w19 w.heap.size (fun k_ => (w.heap.size ≤ k_) ∧ some k_ ≠ (v332 : Value).ownBlock) v335 t334) := ⟨h6_⟩
  have n7_ : Aside0 (Kd.R k40 40 w19 w.heap.size (fun k_ => (w.heap.size ≤ k_)) v338 t337) := ⟨h7_⟩
  have n8_ : Aside0 (w19.heap[gb323]? = some (.cells #[.int .i64 ((rd_T32 l0 0).f0), .slice A322_1 ((rd_T32 l0 0).f1).length c322_1, .slice A322_2 ((rd_T32 l0 0).f2).length c322_2, .slice A322_3 ((rd_T32 l0 0).f3).length c322_3] 32 (0, 0))) := ⟨h8_⟩
  have n9_ : Aside0 (w19.heap[gb341]? = some (.cells #[.int .i64 0, .slice none 0 0, .slice none 0 0, .slice none 0 0] 32 (0, 0))) := ⟨h9_⟩
  have n10_ : Aside0 (w.heap.size ≤ gb341) := ⟨h10_⟩
  have n11_ : Aside0 (w.heap.size ≤ gb341) := ⟨h11_⟩
  have n12_ : Aside0 (gb323 ≠ gb341) := ⟨h12_⟩
  have n13_ : Aside0 (gb341 ≠ gb323) := ⟨h13_⟩
  have n14_ : Aside0 (Below w.heap.size w w19) := ⟨h14_⟩
  clear HO0
  clear HL322_1
  clear HL322_2
  clear HL322_3
  clear BK323
  clear HB
  clear h0_ h1_ h2_ h3_ h4_ h5_ h6_ h7_ h8_ h9_ h10_ h11_ h12_ h13_ h14_
  have HL322_1 := n0_
  have HL322_2 := n1_
  have HL322_3 := n2_
  have HO0 := n3_
  have HO329 := n4_
  have HO333 := n5_
  have HO336 := n6_
  have HO339 := n7_
  have BK323 := n8_
  have BK341 := n9_
  have GW341 := n10_
  have GE341 := n11_
  have NB323_341 := n12_
  have NB341_323 := n13_
  have HB := n14_
  clear n0_ n1_ n2_ n3_ n4_ n5_ n6_ n7_ n8_ n9_ n10_ n11_ n12_ n13_ n14_
  have hHeld : w19.cell? ⟨gb323, 0, none⟩ = some (.int .i64 ((rd_T32 l0 0).f0)) ∧ w19.cell? ⟨gb323, 1, none⟩ = some (.slice A322_1 ((rd_T32 l0 0).f1).length c322_1) ∧ w19.cell? ⟨gb323, 2, none⟩ = some (.slice A322_2 ((rd_T32 l0 0).f2).length c322_2) ∧ w19.cell? ⟨gb323, 3, none⟩ = some (.slice A322_3 ((rd_T32 l0 0).f3).length c322_3) := hS_
  obtain ⟨Ao21, co21, eo21⟩ := Kd.R_slice HO333.out
  (first | subst eo21 | (injection eo21 with f1_ f2_ f3_; have f4_ := f1_.symm; have f5_ := f3_.symm; clear f1_ f2_ f3_; subst f4_; subst f5_))
  obtain ⟨Ao23, co23, eo23⟩ := Kd.R_slice HO336.out
  (first | subst eo23 | (injection eo23 with f1_ f2_ f3_; have f4_ := f1_.symm; have f5_ := f3_.symm; clear f1_ f2_ f3_; subst f4_; subst f5_))
  obtain ⟨Ao25, co25, eo25⟩ := Kd.R_slice HO339.out
  (first | subst eo25 | (injection eo25 with f1_ f2_ f3_; have f4_ := f1_.symm; have f5_ := f3_.symm; clear f1_ f2_ f3_; subst f4_; subst f5_))
  refine norm_ (a' := ?_) ?_ ?_
  rotate_left
  · simp only [putAll, Act.put, List.setIfInBounds_toArray, List.set_cons_zero, List.set_cons_succ]
    rfl
  refine one_ (i := 9) (N := none) #[Y,Y,Y,Y,Y,Y,Y,Y,Y,Y,Z] rfl rfl (one_of HT_.out J8) J18 (fun K hK => ?_)
  have hs20 : w19.cell? ⟨gb341, 0, none⟩ = some (.int .i64 0) := (blk_cell BK341.out 0).trans rfl
  have hfs20 := blk_frozen BK341.out 0
  have hns20_0 := NB323_341.out
  have hms20_0 := NB341_323.out
  have hs22 : w19.cell? ⟨gb341, 1, none⟩ = some (.slice none 0 0) := (blk_cell BK341.out 1).trans rfl
  have hfs22 := blk_frozen BK341.out 1
  have hns22_0 := NB323_341.out
  have hms22_0 := NB341_323.out
  have hs24 : w19.cell? ⟨gb341, 2, none⟩ = some (.slice none 0 0) := (blk_cell BK341.out 2).trans rfl
  have hfs24 := blk_frozen BK341.out 2
  have hns24_0 := NB323_341.out
  have hms24_0 := NB341_323.out
  have hs26 : w19.cell? ⟨gb341, 3, none⟩ = some (.slice none 0 0) := (blk_cell BK341.out 3).trans rfl
  have hfs26 := blk_frozen BK341.out 3
  have hns26_0 := NB323_341.out
  have hms26_0 := NB341_323.out
  refine skip_ (w1 := ?_) J93 rfl ?_ ?_
  rotate_left
  · go_simp
    rfl
  refine hK.out _ _ ⟨((cell_far (p := ⟨gb341, _, none⟩) NB323_341.out _).trans (((cell_far (p := ⟨gb341, _, none⟩) NB323_341.out _).trans (((cell_far (p := ⟨gb341, _, none⟩) NB323_341.out _).trans (((cell_far (p := ⟨gb341, _, none⟩) NB323_341.out _).trans (hHeld.1)))))))), ((cell_far (p := ⟨gb341, _, none⟩) NB323_341.out _).trans (((cell_far (p := ⟨gb341, _, none⟩) NB323_341.out _).trans (((cell_far (p := ⟨gb341, _, none⟩) NB323_341.out _).trans (((cell_far (p := ⟨gb341, _, none⟩) NB323_341.out _).trans (hHeld.2.1)))))))), ((cell_far (p := ⟨gb341, _, none⟩) NB323_341.out _).trans (((cell_far (p := ⟨gb341, _, none⟩) NB323_341.out _).trans (((cell_far (p := ⟨gb341, _, none⟩) NB323_341.out _).trans (((cell_far (p := ⟨gb341, _, none⟩) NB323_341.out _).trans (hHeld.2.2.1)))))))), ((cell_far (p := ⟨gb341, _, none⟩) NB323_341.out _).trans (((cell_far (p := ⟨gb341, _, none⟩) NB323_341.out _).trans (((cell_far (p := ⟨gb341, _, none⟩) NB323_341.out _).trans (((cell_far (p := ⟨gb341, _, none⟩) NB323_341.out _).trans (hHeld.2.2.2))))))))⟩ (fun hHeld => ?_)
  clear hK K
  refine pure_ (i := 10) (N := some 9) (v := ?_) (a' := ?_) #[Y,Y,Y,Y,Y,Y,Y,Y,Y,Y,Y] rfl rfl (any_of HT_.out J8) (fun _ _ _ h => h) (Or.inl ⟨J93, ?_⟩) ?_ ?_
  rotate_left
  · exact pz0
  rotate_left
  · exact pz1
  refine done_ (done_of HT_.out J8) ?_
  have n0_ : Aside0 (Kd.V k32 32 ((((w19.setCell ⟨gb341, 0, none⟩ (.int .i64 t330)).setCell ⟨gb341, 1, none⟩ (.slice Ao21 t331.length co21)).setCell ⟨gb341, 2, none⟩ (.slice Ao23 t334.length co23)).setCell ⟨gb341, 3, none⟩ (.slice Ao25 t337.length co25)) w.heap.size (fun k_ => (P0_ k_ ∨ w.heap.size ≤ k_) ∧ some k_ ≠ (.slice Ao21 t331.length co21 : Value).ownBlock ∧ some k_ ≠ (.slice Ao23 t334.length co23 : Value).ownBlock ∧ some k_ ≠ (.slice Ao25 t337.length co25 : Value).ownBlock ∧ k_ ≠ gb323 ∧ k_ ≠ gb341) (.slice (some ad322) l0.length c0) l0) := ⟨by (with_reducible repeat (first | apply Kd.V_alloc | apply Kd.V_drewN | apply Kd.V_drew)); exact Kd.V_mono (Kd.V_far (p := ⟨gb341, 3, none⟩) (Kd.V_far (p := ⟨gb341, 2, none⟩) (Kd.V_far (p := ⟨gb341, 1, none⟩) (Kd.V_far (p := ⟨gb341, 0, none⟩) (Kd.V_mono HO0.out (fun k_ hk => (⟨hk, hk.2.2.2.2.2⟩ : _ ∧ k_ ≠ gb341))) (fun _ hk => hk.2) (.int .i64 t330)) (fun _ hk => hk.2) (.slice Ao21 t331.length co21)) (fun _ hk => hk.2) (.slice Ao23 t334.length co23)) (fun _ hk => hk.2) (.slice Ao25 t337.length co25)) (fun _ hk => ⟨hk.1.1, ⟨hk.1.2.1, ⟨hk.1.2.2.1, ⟨hk.1.2.2.2.1, ⟨hk.1.2.2.2.2.1, hk.1.2.2.2.2.2⟩⟩⟩⟩⟩)⟩
  have n1_ : Aside0 (Kd.V (Kd.int .i64) 3 ((((w19.setCell ⟨gb341, 0, none⟩ (.int .i64 t330)).setCell ⟨gb341, 1, none⟩ (.slice Ao21 t331.length co21)).setCell ⟨gb341, 2, none⟩ (.slice Ao23 t334.length co23)).setCell ⟨gb341, 3, none⟩ (.slice Ao25 t337.length co25)) w.heap.size (fun k_ => (P0_ k_ ∨ w.heap.size ≤ k_) ∧ some k_ ≠ (.slice Ao21 t331.length co21 : Value).ownBlock ∧ some k_ ≠ (.slice Ao23 t334.length co23 : Value).ownBlock ∧ some k_ ≠ (.slice Ao25 t337.length co25 : Value).ownBlock ∧ k_ ≠ gb323 ∧ k_ ≠ gb341) (.slice A322_1 ((rd_T32 l0 0).f1).length c322_1) ((rd_T32 l0 0).f1)) := ⟨by (with_reducible repeat (first | apply Kd.V_alloc | apply Kd.V_drewN | apply Kd.V_drew)); exact Kd.V_mono (Kd.V_far (p := ⟨gb341, 3, none⟩) (Kd.V_far (p := ⟨gb341, 2, none⟩) (Kd.V_far (p := ⟨gb341, 1, none⟩) (Kd.V_far (p := ⟨gb341, 0, none⟩) (Kd.V_mono HL322_1.out (fun k_ hk => (⟨hk, hk.2.2.2.2.2⟩ : _ ∧ k_ ≠ gb341))) (fun _ hk => hk.2) (.int .i64 t330)) (fun _ hk => hk.2) (.slice Ao21 t331.length co21)) (fun _ hk => hk.2) (.slice Ao23 t334.length co23)) (fun _ hk => hk.2) (.slice Ao25 t337.length co25)) (fun _ hk => ⟨hk.1.1, ⟨hk.1.2.1, ⟨hk.1.2.2.1, ⟨hk.1.2.2.2.1, ⟨hk.1.2.2.2.2.1, hk.1.2.2.2.2.2⟩⟩⟩⟩⟩)⟩
  have n2_ : Aside0 (Kd.V (Kd.int .i64) 3 ((((w19.setCell ⟨gb341, 0, none⟩ (.int .i64 t330)).setCell ⟨gb341, 1, none⟩ (.slice Ao21 t331.length co21)).setCell ⟨gb341, 2, none⟩ (.slice Ao23 t334.length co23)).setCell ⟨gb341, 3, none⟩ (.slice Ao25 t337.length co25)) w.heap.size (fun k_ => (P0_ k_ ∨ w.heap.size ≤ k_) ∧ some k_ ≠ (.slice Ao21 t331.length co21 : Value).ownBlock ∧ some k_ ≠ (.slice Ao23 t334.length co23 : Value).ownBlock ∧ some k_ ≠ (.slice Ao25 t337.length co25 : Value).ownBlock ∧ k_ ≠ gb323 ∧ k_ ≠ gb341) (.slice A322_2 ((rd_T32 l0 0).f2).length c322_2) ((rd_T32 l0 0).f2)) := ⟨by (with_reducible repeat (first | apply Kd.V_alloc | apply Kd.V_drewN | apply Kd.V_drew)); exact Kd.V_mono (Kd.V_far (p := ⟨gb341, 3, none⟩) (Kd.V_far (p := ⟨gb341, 2, none⟩) (Kd.V_far (p := ⟨gb341, 1, none⟩) (Kd.V_far (p := ⟨gb341, 0, none⟩) (Kd.V_mono HL322_2.out (fun k_ hk => (⟨hk, hk.2.2.2.2.2⟩ : _ ∧ k_ ≠ gb341))) (fun _ hk => hk.2) (.int .i64 t330)) (fun _ hk => hk.2) (.slice Ao21 t331.length co21)) (fun _ hk => hk.2) (.slice Ao23 t334.length co23)) (fun _ hk => hk.2) (.slice Ao25 t337.length co25)) (fun _ hk => ⟨hk.1.1, ⟨hk.1.2.1, ⟨hk.1.2.2.1, ⟨hk.1.2.2.2.1, ⟨hk.1.2.2.2.2.1, hk.1.2.2.2.2.2⟩⟩⟩⟩⟩)⟩
  have n3_ : Aside0 (Kd.V k40 40 ((((w19.setCell ⟨gb341, 0, none⟩ (.int .i64 t330)).setCell ⟨gb341, 1, none⟩ (.slice Ao21 t331.length co21)).setCell ⟨gb341, 2, none⟩ (.slice Ao23 t334.length co23)).setCell ⟨gb341, 3, none⟩ (.slice Ao25 t337.length co25)) w.heap.size (fun k_ => (P0_ k_ ∨ w.heap.size ≤ k_) ∧ some k_ ≠ (.slice Ao21 t331.length co21 : Value).ownBlock ∧ some k_ ≠ (.slice Ao23 t334.length co23 : Value).ownBlock ∧ some k_ ≠ (.slice Ao25 t337.length co25 : Value).ownBlock ∧ k_ ≠ gb323 ∧ k_ ≠ gb341) (.slice A322_3 ((rd_T32 l0 0).f3).length c322_3) ((rd_T32 l0 0).f3)) := ⟨by (with_reducible repeat (first | apply Kd.V_alloc | apply Kd.V_drewN | apply Kd.V_drew)); exact Kd.V_mono (Kd.V_far (p := ⟨gb341, 3, none⟩) (Kd.V_far (p := ⟨gb341, 2, none⟩) (Kd.V_far (p := ⟨gb341, 1, none⟩) (Kd.V_far (p := ⟨gb341, 0, none⟩) (Kd.V_mono HL322_3.out (fun k_ hk => (⟨hk, hk.2.2.2.2.2⟩ : _ ∧ k_ ≠ gb341))) (fun _ hk => hk.2) (.int .i64 t330)) (fun _ hk => hk.2) (.slice Ao21 t331.length co21)) (fun _ hk => hk.2) (.slice Ao23 t334.length co23)) (fun _ hk => hk.2) (.slice Ao25 t337.length co25)) (fun _ hk => ⟨hk.1.1, ⟨hk.1.2.1, ⟨hk.1.2.2.1, ⟨hk.1.2.2.2.1, ⟨hk.1.2.2.2.2.1, hk.1.2.2.2.2.2⟩⟩⟩⟩⟩)⟩
  have n4_ : Aside0 (Kd.V k40 40 ((((w19.setCell ⟨gb341, 0, none⟩ (.int .i64 t330)).setCell ⟨gb341, 1, none⟩ (.slice Ao21 t331.length co21)).setCell ⟨gb341, 2, none⟩ (.slice Ao23 t334.length co23)).setCell ⟨gb341, 3, none⟩ (.slice Ao25 t337.length co25)) w.heap.size (fun k_ => (P0_ k_ ∨ w.heap.size ≤ k_) ∧ some k_ ≠ (.slice Ao21 t331.length co21 : Value).ownBlock ∧ some k_ ≠ (.slice Ao23 t334.length co23 : Value).ownBlock ∧ some k_ ≠ (.slice Ao25 t337.length co25 : Value).ownBlock ∧ k_ ≠ gb323 ∧ k_ ≠ gb341) v328 t327) := ⟨by (with_reducible repeat (first | apply Kd.V_alloc | apply Kd.V_drewN | apply Kd.V_drew)); exact Kd.V_mono (Kd.V_far (p := ⟨gb341, 3, none⟩) (Kd.V_far (p := ⟨gb341, 2, none⟩) (Kd.V_far (p := ⟨gb341, 1, none⟩) (Kd.V_far (p := ⟨gb341, 0, none⟩) (Kd.V_mono HO329.out (fun k_ hk => (⟨hk, hk.2.2.2.2.2⟩ : _ ∧ k_ ≠ gb341))) (fun _ hk => hk.2) (.int .i64 t330)) (fun _ hk => hk.2) (.slice Ao21 t331.length co21)) (fun _ hk => hk.2) (.slice Ao23 t334.length co23)) (fun _ hk => hk.2) (.slice Ao25 t337.length co25)) (fun _ hk => ⟨hk.1.1, ⟨hk.1.2.1, ⟨hk.1.2.2.1, ⟨hk.1.2.2.2.1, ⟨hk.1.2.2.2.2.1, hk.1.2.2.2.2.2⟩⟩⟩⟩⟩)⟩
  have n5_ : Aside0 (Kd.R (Kd.int .i64) 3 ((((w19.setCell ⟨gb341, 0, none⟩ (.int .i64 t330)).setCell ⟨gb341, 1, none⟩ (.slice Ao21 t331.length co21)).setCell ⟨gb341, 2, none⟩ (.slice Ao23 t334.length co23)).setCell ⟨gb341, 3, none⟩ (.slice Ao25 t337.length co25)) w.heap.size (fun k_ => (w.heap.size ≤ k_) ∧ some k_ ≠ (.slice Ao23 t334.length co23 : Value).ownBlock) (.slice Ao21 t331.length co21) t331) := ⟨by (with_reducible repeat (first | apply Kd.R_alloc | apply Kd.R_drewN | apply Kd.R_drew)); exact Kd.R_mono (Kd.R_far (p := ⟨gb341, 3, none⟩) (Kd.R_far (p := ⟨gb341, 2, none⟩) (Kd.R_far (p := ⟨gb341, 1, none⟩) (Kd.R_far (p := ⟨gb341, 0, none⟩) (Kd.R_types HO333.out BK341.out J18) (fun _ hk => hk.2) (.int .i64 t330)) (fun _ hk => hk.2) (.slice Ao21 t331.length co21)) (fun _ hk => hk.2) (.slice Ao23 t334.length co23)) (fun _ hk => hk.2) (.slice Ao25 t337.length co25)) (fun _ hk => ⟨hk.1.1, hk.1.2⟩)⟩
  have n6_ : Aside0 (Kd.R (Kd.int .i64) 3 ((((w19.setCell ⟨gb341, 0, none⟩ (.int .i64 t330)).setCell ⟨gb341, 1, none⟩ (.slice Ao21 t331.length co21)).setCell ⟨gb341, 2, none⟩ (.slice Ao23 t334.length co23)).setCell ⟨gb341, 3, none⟩ (.slice Ao25 t337.length co25)) w.heap.size (fun k_ => (w.heap.size ≤ k_) ∧ some k_ ≠ (.slice Ao21 t331.length co21 : Value).ownBlock) (.slice Ao23 t334.length co23) t334) := ⟨by (with_reducible repeat (first | apply Kd.R_alloc | apply Kd.R_drewN | apply Kd.R_drew)); exact Kd.R_mono (Kd.R_far (p := ⟨gb341, 3, none⟩) (Kd.R_far (p := ⟨gb341, 2, none⟩) (Kd.R_far (p := ⟨gb341, 1, none⟩) (Kd.R_far (p := ⟨gb341, 0, none⟩) (Kd.R_types HO336.out BK341.out J18) (fun _ hk => hk.2) (.int .i64 t330)) (fun _ hk => hk.2) (.slice Ao21 t331.length co21)) (fun _ hk => hk.2) (.slice Ao23 t334.length co23)) (fun _ hk => hk.2) (.slice Ao25 t337.length co25)) (fun _ hk => ⟨hk.1.1, hk.1.2⟩)⟩
  have n7_ : Aside0 (Kd.R k40 40 ((((w19.setCell ⟨gb341, 0, none⟩ (.int .i64 t330)).setCell ⟨gb341, 1, none⟩ (.slice Ao21 t331.length co21)).setCell ⟨gb341, 2, none⟩ (.slice Ao23 t334.length co23)).setCell ⟨gb341, 3, none⟩ (.slice Ao25 t337.length co25)) w.heap.size (fun k_ => (w.heap.size ≤ k_)) (.slice Ao25 t337.length co25) t337) := ⟨by (with_reducible repeat (first | apply Kd.R_alloc | apply Kd.R_drewN | apply Kd.R_drew)); exact Kd.R_mono (Kd.R_far (p := ⟨gb341, 3, none⟩) (Kd.R_far (p := ⟨gb341, 2, none⟩) (Kd.R_far (p := ⟨gb341, 1, none⟩) (Kd.R_far (p := ⟨gb341, 0, none⟩) (Kd.R_types HO339.out BK341.out J18) (fun _ hk => hk.2) (.int .i64 t330)) (fun _ hk => hk.2) (.slice Ao21 t331.length co21)) (fun _ hk => hk.2) (.slice Ao23 t334.length co23)) (fun _ hk => hk.2) (.slice Ao25 t337.length co25)) (fun _ hk => hk.1)⟩
  have n8_ : Aside0 (((((w19.setCell ⟨gb341, 0, none⟩ (.int .i64 t330)).setCell ⟨gb341, 1, none⟩ (.slice Ao21 t331.length co21)).setCell ⟨gb341, 2, none⟩ (.slice Ao23 t334.length co23)).setCell ⟨gb341, 3, none⟩ (.slice Ao25 t337.length co25)).heap[gb323]? = some (.cells #[.int .i64 ((rd_T32 l0 0).f0), .slice A322_1 ((rd_T32 l0 0).f1).length c322_1, .slice A322_2 ((rd_T32 l0 0).f2).length c322_2, .slice A322_3 ((rd_T32 l0 0).f3).length c322_3] 32 (0, 0))) := ⟨by (with_reducible repeat (first | refine blk_drewN ?_ _ | refine blk_drew ?_ | refine blk_alloc ?_ _)); refine blk_far ?_ NB323_341.out _; (with_reducible repeat (first | refine blk_drewN ?_ _ | refine blk_drew ?_ | refine blk_alloc ?_ _)); refine blk_far ?_ NB323_341.out _; (with_reducible repeat (first | refine blk_drewN ?_ _ | refine blk_drew ?_ | refine blk_alloc ?_ _)); refine blk_far ?_ NB323_341.out _; (with_reducible repeat (first | refine blk_drewN ?_ _ | refine blk_drew ?_ | refine blk_alloc ?_ _)); refine blk_far ?_ NB323_341.out _; (with_reducible repeat (first | refine blk_drewN ?_ _ | refine blk_drew ?_ | refine blk_alloc ?_ _)); exact BK323.out⟩
  have n9_ : Aside0 (((((w19.setCell ⟨gb341, 0, none⟩ (.int .i64 t330)).setCell ⟨gb341, 1, none⟩ (.slice Ao21 t331.length co21)).setCell ⟨gb341, 2, none⟩ (.slice Ao23 t334.length co23)).setCell ⟨gb341, 3, none⟩ (.slice Ao25 t337.length co25)).heap[gb341]? = some (.cells #[.int .i64 t330, .slice Ao21 t331.length co21, .slice Ao23 t334.length co23, .slice Ao25 t337.length co25] 32 (0, 0))) := ⟨by (with_reducible repeat (first | refine blk_drewN ?_ _ | refine blk_drew ?_ | refine blk_alloc ?_ _)); refine blk_put (cs := #[.int .i64 t330, .slice Ao21 t331.length co21, .slice Ao23 t334.length co23, .slice none 0 0]) ?_ 3 _ rfl; (with_reducible repeat (first | refine blk_drewN ?_ _ | refine blk_drew ?_ | refine blk_alloc ?_ _)); refine blk_put (cs := #[.int .i64 t330, .slice Ao21 t331.length co21, .slice none 0 0, .slice none 0 0]) ?_ 2 _ rfl; (with_reducible repeat (first | refine blk_drewN ?_ _ | refine blk_drew ?_ | refine blk_alloc ?_ _)); refine blk_put (cs := #[.int .i64 t330, .slice none 0 0, .slice none 0 0, .slice none 0 0]) ?_ 1 _ rfl; (with_reducible repeat (first | refine blk_drewN ?_ _ | refine blk_drew ?_ | refine blk_alloc ?_ _)); refine blk_put (cs := #[.int .i64 0, .slice none 0 0, .slice none 0 0, .slice none 0 0]) ?_ 0 _ rfl; (with_reducible repeat (first | refine blk_drewN ?_ _ | refine blk_drew ?_ | refine blk_alloc ?_ _)); exact BK341.out⟩
  have n10_ : Aside0 (Below w.heap.size w ((((w19.setCell ⟨gb341, 0, none⟩ (.int .i64 t330)).setCell ⟨gb341, 1, none⟩ (.slice Ao21 t331.length co21)).setCell ⟨gb341, 2, none⟩ (.slice Ao23 t334.length co23)).setCell ⟨gb341, 3, none⟩ (.slice Ao25 t337.length co25))) := ⟨J107⟩
  (try clear HO0)
  (try clear HL322_1)
  (try clear HL322_2)
  (try clear HL322_3)
  (try clear HO329)
  (try clear HO333)
  (try clear HO336)
  (try clear HO339)
  (try clear BK323)
  (try clear BK341)
  (try clear HB)
  generalize ((((w19.setCell ⟨gb341, 0, none⟩ (.int .i64 t330)).setCell ⟨gb341, 1, none⟩ (.slice Ao21 t331.length co21)).setCell ⟨gb341, 2, none⟩ (.slice Ao23 t334.length co23)).setCell ⟨gb341, 3, none⟩ (.slice Ao25 t337.length co25)) = w27 at n0_ n1_ n2_ n3_ n4_ n5_ n6_ n7_ n8_ n9_ n10_ ⊢
  have HO0 := n0_
  have HL322_1 := n1_
  have HL322_2 := n2_
  have HL322_3 := n3_
  have HO329 := n4_
  have HO333 := n5_
  have HO336 := n6_
  have HO339 := n7_
  have BK323 := n8_
  have BK341 := n9_
  have HB := n10_
  clear n0_ n1_ n2_ n3_ n4_ n5_ n6_ n7_ n8_ n9_ n10_
  have hnb28 := NB341_323.out
  have hnc28 := NB323_341.out
  obtain ⟨hcz29_0, hcz29_1, hcz29_2, hcz29_3, hfz29_0, hfz29_1, hfz29_2, hfz29_3⟩ := cz4 BK341.out
  try go_wp2_with (first | ((with_reducible refine gate_dst (N := 64) rfl ?_); refine Kd.N_lit k32 _ 32 ?hg (N' := 64) ?hd (xs := ([(⟨t330, t331, t334, t337⟩ : S32)] : List (S32))) (inner := [.int .i64 t330, .slice Ao21 t331.length co21, .slice Ao23 t334.length co23, .slice Ao25 t337.length co25]) (ok := (fun k_ => (P0_ k_ ∨ w.heap.size ≤ k_) ∧ k_ ≠ gb323 ∧ k_ ≠ gb341)) (okp := (fun k_ => (P0_ k_ ∨ w.heap.size ≤ k_) ∧ k_ ≠ gb323 ∧ k_ ≠ gb341)) ?hr ?hp (fun _ hk => hk) ((show ∀ k_, w27.heap.size ≤ k_ → (fun k_ => (P0_ k_ ∨ w.heap.size ≤ k_) ∧ k_ ≠ gb323 ∧ k_ ≠ gb341) k_ from fun k_ hk => ⟨(.inr (Nat.le_trans (below_size (zs2 GE323.out GE341.out)) hk)), Kd.freshB (g := gb323) (o := .cells #[.int .i64 ((rd_T32 l0 0).f0), .slice A322_1 ((rd_T32 l0 0).f1).length c322_1, .slice A322_2 ((rd_T32 l0 0).f2).length c322_2, .slice A322_3 ((rd_T32 l0 0).f3).length c322_3] 32 (0, 0)) (zk BK323.out) k_ hk, Kd.freshB (g := gb341) (o := .cells #[.int .i64 t330, .slice Ao21 t331.length co21, .slice Ao23 t334.length co23, .slice Ao25 t337.length co25] 32 (0, 0)) (zk BK341.out) k_ hk⟩) _ (Nat.le_refl _)) (Below.refl _ _) (Nat.le_refl _) J32 ?_; (case hd => rfl); (case hg => rfl); (case hr => first | (go_simp; done) | (go_simp; rfl)); (case hp => exact (Reps.c4 (show Kd.FK k32 _ _ (⟨t330, t331, t334, t337⟩ : S32) [.int .i64 t330, .slice Ao21 t331.length co21, .slice Ao23 t334.length co23, .slice Ao25 t337.length co25] from (k32_mkF _ _ (⟨t330, t331, t334, t337⟩ : S32) (Kd.R_reads' (Kd.R_mono (ok' := (fun k_ => (P0_ k_ ∨ w.heap.size ≤ k_) ∧ k_ ≠ gb323 ∧ k_ ≠ gb341)) (Kd.R_types (Kd.R_types (HO333.out) BK323.out J18) BK341.out J18) (fun k_ hk => ⟨(.inr (hk.1.1.1)), ⟨hk.1.2, hk.2⟩⟩))).2.1 (Kd.R_F (Kd.R_mono (ok' := (fun k_ => (P0_ k_ ∨ w.heap.size ≤ k_) ∧ k_ ≠ gb323 ∧ k_ ≠ gb341)) (Kd.R_types (Kd.R_types (HO333.out) BK323.out J18) BK341.out J18) (fun k_ hk => ⟨(.inr (hk.1.1.1)), ⟨hk.1.2, hk.2⟩⟩))) (Kd.R_reads' (Kd.R_mono (ok' := (fun k_ => (P0_ k_ ∨ w.heap.size ≤ k_) ∧ k_ ≠ gb323 ∧ k_ ≠ gb341)) (Kd.R_types (Kd.R_types (HO336.out) BK323.out J18) BK341.out J18) (fun k_ hk => ⟨(.inr (hk.1.1.1)), ⟨hk.1.2, hk.2⟩⟩))).2.1 (Kd.R_F (Kd.R_mono (ok' := (fun k_ => (P0_ k_ ∨ w.heap.size ≤ k_) ∧ k_ ≠ gb323 ∧ k_ ≠ gb341)) (Kd.R_types (Kd.R_types (HO336.out) BK323.out J18) BK341.out J18) (fun k_ hk => ⟨(.inr (hk.1.1.1)), ⟨hk.1.2, hk.2⟩⟩))) (Kd.R_reads' (Kd.R_mono (ok' := (fun k_ => (P0_ k_ ∨ w.heap.size ≤ k_) ∧ k_ ≠ gb323 ∧ k_ ≠ gb341)) (Kd.R_types (Kd.R_types (HO339.out) BK323.out J18) BK341.out J18) (fun k_ hk => ⟨(.inr (hk.1.1)), ⟨hk.1.2, hk.2⟩⟩))).2.1 (Kd.R_F (Kd.R_mono (ok' := (fun k_ => (P0_ k_ ∨ w.heap.size ≤ k_) ∧ k_ ≠ gb323 ∧ k_ ≠ gb341)) (Kd.R_types (Kd.R_types (HO339.out) BK323.out J18) BK341.out J18) (fun k_ hk => ⟨(.inr (hk.1.1)), ⟨hk.1.2, hk.2⟩⟩))))) (Reps.none _ _))); intro v343 w30 ho31 hb hg_ hnew_; clear hg_ hnew_; (first | rw [← Ny342.out] at ho31 | (simp only [Int.reduceToNat] at ho31; rw [← Ny342.out] at ho31)); have HO344 := zq (Kd.N_lower ho31 (below_size (zs2 GE323.out GE341.out))); replace HB := zq (below_step (zs2 GE323.out GE341.out) hb); clear HO333 HO336 HO339; clear hb ho31))
  go_ret
  exact ⟨_, J2, by (with_reducible repeat (first | apply Kd.N_alloc | apply Kd.N_drewN | apply Kd.N_drew)); exact Kd.N_mono HO344.out (fun _ hk => hk.1), J107⟩
end Go.Proofs.YtfjhiiaahbjaiaaDoor.HSystemSigns
