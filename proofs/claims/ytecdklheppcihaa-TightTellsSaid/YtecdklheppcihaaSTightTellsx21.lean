/- Words and walks, shortened by a program: what this claim's functions answer, and that other memory stays. -/
import Derived.Test.YtecdklheppcihaaSTightTellsx0
import Derived.Test.YtecdklheppcihaaSTightTellsx16
import Derived.Test.YtecdklheppcihaaSTightTellsx18
import Derived.Test.YtecdklheppcihaaSTightTellsx20
namespace Go.Proofs.Ytecdklheppcihaa.HTightTells
open Go.RowKit Go.Proofs.YtecdklheppcihaaW.PrintWords Go.Proofs.YtecdklheppcihaaW.PrintWords.Kd Go.Proofs.YtecdklheppcihaaW.PrintLast Go.Proofs.YtecdklheppcihaaW.PrintMore Go.Proofs.YtecdklheppcihaaW.PrintMore.Kd
attribute [local go_sem] Xbp Xbn Xbu Xbt Xbg Xbf Xbo Xbm
set_option linter.unusedVariables false
set_option linter.unusedSimpArgs false
mutual
def Xac.j0 : Nat → List (S30) → Bool → Option ((List (List (S30))))
 | 0, _, _ => none
 | k + 1, x0, x17 => if x17 = true then (some ([] : List (List (S30)))) else (Xac.l0 k x0 ([] : List (List (S30))) 1)
def Xac.l0 : Nat → List (S30) → List (List (S30)) → Int → Option ((List (List (S30))))
 | 0, _, _, _ => none
 | k + 1, x0, x3, x4 => if x4 < (x0.length : Int) then (if 0 ≤ x4 then (if x4 ≤ (x0.length : Int) then ((Xs.f k (x0.drop (x4 : Int).toNat) 16).bind fun bt679 => (if x4 ≤ (wrap64 (x4 + bt679.1)) then (if (wrap64 (x4 + bt679.1)) ≤ (x0.length : Int) then ((deckleref10_Copy.f k ((x0.take ((wrap64 (x4 + bt679.1)) : Int).toNat).drop (x4 : Int).toNat)).bind fun t686 => (if x3.length < 5864062014805 then (Xac.l0 k x0 (x3 ++ [t686]) (wrap64 (x4 + bt679.1))) else (none))) else (none)) else (none))) else (none)) else (none)) else (some x3)
end
def Xac.f (k : Nat) (l0 : List (S30)) : Option ((List (List (S30)))) := (Xa7.f k l0).bind fun t673 => (if t673 = true then (if 0 < (l0.length : Int) then (Xac.j0 k l0 (((Xa l0 0).f0) != 5)) else (none)) else (Xac.j0 k l0 true))
set_option maxHeartbeats 8000000 in
set_option maxRecDepth 100000 in
theorem Xac.calls (k : Nat) (A0 : Option Addr) (c0 : Nat) (l0 : List (S30)) (r : List (List (S30))) (w : World) (hr0 : Kd.C k30 w A0 l0.length l0) (hc0 : l0.length ≤ c0) (h : Xac.f k l0 = some r) :
  Calls Try.prog 53 #[.slice A0 l0.length c0] w fun e w' => ∃ v0_ : Value, e = .returned (v0_) ∧ Kd.R (Kd.slice 30 k30) 22 w' w.heap.size (fun _ => True) v0_ r ∧ Below w.heap.size w w' := by
 have HR0 := zq hr0
 have HC0 := zq hc0
 clear hr0 hc0
 have HB := zq (Below.refl w.heap.size w)
 unfold Xac.f at h
 have H := h
 clear h
 have HC2 := zq H
 clear H
 go_enter Try.func53, Try.ntmps53
 go_upto_region 1 with (fail)
 go_cut [17] (fun v17 wc => ∃ (kq : Nat) (x17_1 : Bool), v17 = .bool x17_1 ∧ Aside0 (Xac.j0 kq l0 x17_1 = some r) ∧ Aside0 (kq ≤ k) ∧ Aside0 (Below w.heap.size w wc))
 case first =>
  have H := HC2.out
  clear HC2
  refine yv H ?_; clear H; rintro t673 A3 H
  refine yB H ?_ ?_ <;> clear H <;> rintro rfl H
  ·have H' := zq H
   clear H
   go_wp2_with (first | ((with_reducible refine Xi (f := 28) rfl ?_); refine gL 9 Try.func28 #[.slice A0 l0.length c0] (Xa7.calls k _ _ l0 false _ (zc (ac HR0.out HB.out)) HC0.out A3.out) ?_; rintro e w7 ⟨rfl, hb⟩; refine ⟨_, rfl, ?_⟩; replace HB := zq (Xe J0 hb); (try clear hb); (try clear hk); (try clear hi)))
   go_meet
   case rel => exact ⟨_, (true), J4, H', ⟨J32⟩, ⟨J0⟩⟩
  refine yi H ?_; clear H; intro c5 H
  have c5b0 := decide_eq_true c5
  have c5b1 : decide (0 < l0.length) = true := decide_eq_true J29
  clear c5
  (first | rw [c5b0] | (simp only [Xan, Xaq]; rw [c5b0]) | skip)
  have H' := zq H
  clear H
  go_wp2_with (first | ((with_reducible refine Xi (f := 28) rfl ?_); refine gL 9 Try.func28 #[.slice A0 l0.length c0] (Xa7.calls k _ _ l0 true _ (zc (ac HR0.out HB.out)) HC0.out A3.out) ?_; rintro e w6 ⟨rfl, hb⟩; refine ⟨_, rfl, ?_⟩; replace HB := zq (Xe J0 hb); (try clear hb); (try clear hk); (try clear hi); obtain ⟨ad674, A674_1, c674_1, A674_2, c674_2, A674_3, c674_3, e674, hx674_0, hx674_1, hx674_2, hx674_3, HR674_1, HC674_1, HR674_2, HC674_2, HR674_3, HC674_3, p674, q674, qi674⟩ := rdC0 HR0.out HB.out; cases e674))
  go_meet
  case rel => exact ⟨_, ((((Xa l0 0).f0) != 5)), J4, H', ⟨J32⟩, ⟨J0⟩⟩
 case rest =>
  clear HC2
  obtain ⟨kq, x17_1, rfl, HA, HJ1, HB⟩ := hcut
  cases kq with
  | zero => exact absurd HA.out (by simp [Xac.j0])
  | succ kj1 =>
   have H := HA.out
   clear HA
   simp only [Xac.j0] at H
   refine yC H ?_ ?_ <;> clear H <;> rintro rfl H
   ·obtain rfl := yo H
    go_wp2
    go_ret
    exact ⟨_, J1, J8, J0⟩
   have H' := zq H
   clear H
   go_wp2
   go_loopg [3, 4] kj1 (fun kq v3 v4 w' => ∃ (x3_2 : List (List (S30))) (x4_2 : Int), v4 = .int .i64 x4_2 ∧ Aside0 (Xac.l0 kq l0 x3_2 x4_2 = some r) ∧ Aside0 (kq ≤ kj1) ∧ Aside0 (Kd.R (Kd.slice 30 k30) 22 w' w.heap.size (fun _ => True) v3 x3_2) ∧ Aside0 (Below w.heap.size w w'))
   case atStart => exact ⟨(([] : List (List (S30)))), (1), J4, H', ⟨Nat.le_refl _⟩, ⟨J8⟩, ⟨J0⟩⟩
   case round =>
    clear H'
    obtain ⟨x3_2, x4_2, rfl, HA, HK2, HO_3, HB⟩ := hrel
    cases gk with
    | zero => exact absurd HA.out (by simp [Xac.l0])
    | succ k2 =>
     have H := HA.out
     clear HA
     simp only [Xac.l0] at H
     refine yd H ?_ ?_ <;> clear H <;> rintro c9b0 H
     ·obtain rfl := yo H
      go_wp2
      go_ret
      exact ⟨_, J1, J185, J0⟩
     refine yi H ?_; clear H; intro c10 H
     have c10b0 := eq_true c10
     have c10b1 := decide_eq_true c10
     clear c10
     refine yi H ?_; clear H; intro c11 H
     have c11b0 := eq_true c11
     have c11b1 := decide_eq_true c11
     clear c11
     obtain ⟨y675, hy675⟩ : ∃ y_ : List (S30), y_ = (l0.drop (x4_2 : Int).toNat) := ⟨_, rfl⟩
     replace H : ((Xs.f k2 y675 16).bind fun bt679 => (if x4_2 ≤ (wrap64 (x4_2 + bt679.1)) then (if (wrap64 (x4_2 + bt679.1)) ≤ (l0.length : Int) then ((deckleref10_Copy.f k2 ((l0.take ((wrap64 (x4_2 + bt679.1)) : Int).toNat).drop (x4_2 : Int).toNat)).bind fun t686 => (if x3_2.length < 5864062014805 then (Xac.l0 k2 l0 (x3_2 ++ [t686]) (wrap64 (x4_2 + bt679.1))) else (none))) else (none)) else (none))) = some r := by first | (rw [hy675]; with_reducible exact H) | (have H2_ := (Option.bind_some _ _).symm.trans H; rw [hy675]; with_reducible exact H2_) | (have H2_ := (Option.bind_some _ _).symm.trans H; with_reducible exact H2_) | with_reducible exact H | (rw [hy675]; exact H) | exact H
     have Ny675 := zq hy675
     clear hy675
     refine yv H ?_; clear H; rintro ⟨t679, t680, t681⟩ A12 H
     dsimp only at H
     have c13b0 := eq_true (of_decide_eq_true J2 : 0 ≤ x4_2)
     refine yi H ?_; clear H; intro c14 H
     have c14b0 := eq_true c14
     have c14b1 := decide_eq_true c14
     refine yi H ?_; clear H; intro c15 H
     have c15b0 := eq_true c15
     have c15b1 := decide_eq_true c15
     obtain ⟨y682, hy682⟩ : ∃ y_ : List (S30), y_ = ((l0.take ((wrap64 (x4_2 + t679)) : Int).toNat).drop (x4_2 : Int).toNat) := ⟨_, rfl⟩
     replace H : ((deckleref10_Copy.f k2 y682).bind fun t686 => (if x3_2.length < 5864062014805 then (Xac.l0 k2 l0 (x3_2 ++ [t686]) (wrap64 (x4_2 + t679))) else (none))) = some r := by first | (rw [hy682]; with_reducible exact H) | (have H2_ := (Option.bind_some _ _).symm.trans H; rw [hy682]; with_reducible exact H2_) | (have H2_ := (Option.bind_some _ _).symm.trans H; with_reducible exact H2_) | with_reducible exact H | (rw [hy682]; exact H) | exact H
     have Ny682 := zq hy682
     clear hy682
     refine yv H ?_; clear H; rintro t686 A16 H
     refine yi H ?_; clear H; intro c17 H
     have LMc17 := zq c17
     clear c17
     obtain ⟨y689, hy689⟩ : ∃ y_ : List (List (S30)), y_ = (x3_2 ++ [t686]) := ⟨_, rfl⟩
     replace H : (Xac.l0 k2 l0 y689 (wrap64 (x4_2 + t679))) = some r := by first | (rw [hy689]; with_reducible exact H) | (have H2_ := (Option.bind_some _ _).symm.trans H; rw [hy689]; with_reducible exact H2_) | (have H2_ := (Option.bind_some _ _).symm.trans H; with_reducible exact H2_) | with_reducible exact H | (rw [hy689]; exact H) | exact H
     have Ny689 := zq hy689
     clear hy689
     have H' := zq H
     clear H
     have q18 : (x4_2 : Int) ≤ ((l0.length : Int) : Int) := of_decide_eq_true J2
     obtain ⟨i018, hi018, _, hsz18, _⟩ := info_parts Xck
     have hroom18 : l0.length ≤ c0 := HC0.out
     have hC18 : Kd.C k30 _ A0 l0.length l0 := HR0.out
     have q018 : (0 : Int) ≤ (x4_2 : Int) := of_decide_eq_true J2
     have hcut18 := Xdi (P := Try.prog) 22 30 .i64 Try.underlying22 hi018 4 hsz18 A0 l0.length c0 x4_2 q018 q18
     have hr18 := bK (m := (x4_2 : Int).toNat) (c := c0) hC18 J29 hroom18
     obtain ⟨A18, hA18⟩ : ∃ A_, A_ = (if c0 = (x4_2 : Int).toNat then A0 else (A0 : Option Addr).map (·.add ((x4_2 : Int).toNat * 4))) := ⟨_, rfl⟩
     obtain ⟨c18, hc18⟩ : ∃ c_, c_ = c0 - (x4_2 : Int).toNat := ⟨_, rfl⟩
     have hy18 : y675.length = l0.length - (x4_2 : Int).toNat := (by rw [Ny675.out, List.length_drop] <;> omega)
     rw [show (l0).drop (x4_2 : Int).toNat = y675 from Ny675.out.symm] at hr18
     replace hr18 : Kd.C k30 _ A18 y675.length y675 := (by rw [hA18]; exact hr18)
     rw [← hy18, ← hA18, ← hc18] at hcut18
     have HR678 := zq hr18
     have HC678 := zq (show y675.length ≤ c18 from by rw [hy18, hc18]; exact Nat.sub_le_sub_right hroom18 _)
     clear hr18 hC18 hroom18 hi018 hsz18 hc18
     have KY18 := zq hy18
     have KA18 := zq hA18
     clear hy18 hA18
     replace q18 := eq_true q18
     go_wp2_with (first | ((with_reducible refine Xi (f := 68) rfl ?_); refine gL 26 Try.func68 #[.slice A18 y675.length c18, .int .i64 16] (Xs.calls k2 _ _ y675 16 t679 t680 t681 _ (zc (ac HR678.out HB.out)) HC678.out A12.out) ?_; rintro e w19 ⟨rfl, hb⟩; refine ⟨_, rfl, ?_⟩; replace HO_3 := zq (ab (zr HO_3.out) hb); replace HB := zq (Xe J0 hb); (try clear hb); (try clear hk); (try clear hi); have q20 : ((wrap64 (x4_2 + t679)) : Int) ≤ ((l0.length : Int) : Int) := of_decide_eq_true J2; obtain ⟨i020, hi020, _, hsz20, _⟩ := info_parts Xck; have hroom20 : l0.length ≤ c0 := HC0.out; have hC20 : Kd.C k30 _ A0 l0.length l0 := HR0.out; have ql20 : (x4_2 : Int) ≤ ((wrap64 (x4_2 + t679)) : Int) := of_decide_eq_true J2; have q020 : (0 : Int) ≤ (x4_2 : Int) := of_decide_eq_true J2; have hcut20 := cut_mid (P := Try.prog) 22 30 .i64 .i64 Try.underlying22 hi020 4 hsz20 A0 l0.length c0 x4_2 (wrap64 (x4_2 + t679)) q020 ql20 q20 hroom20; have hr20 := Kd.C_mid (lo := (x4_2 : Int).toNat) (hi := ((wrap64 (x4_2 + t679)) : Int).toNat) (c := c0) hC20 J29 J29 hroom20; obtain ⟨A20, hA20⟩ : ∃ A_, A_ = (if c0 = (x4_2 : Int).toNat then A0 else (A0 : Option Addr).map (·.add ((x4_2 : Int).toNat * 4))) := ⟨_, rfl⟩; obtain ⟨c20, hc20⟩ : ∃ c_, c_ = c0 - (x4_2 : Int).toNat := ⟨_, rfl⟩; have hy20 : y682.length = ((wrap64 (x4_2 + t679)) : Int).toNat - (x4_2 : Int).toNat := (by rw [Ny682.out, List.length_drop, List.length_take] <;> omega); rw [show ((l0).take ((wrap64 (x4_2 + t679)) : Int).toNat).drop (x4_2 : Int).toNat = y682 from Ny682.out.symm] at hr20; replace hr20 : Kd.C k30 _ A20 y682.length y682 := (by rw [hA20]; exact hr20); rw [← hy20, ← hA20, ← hc20] at hcut20; have HR685 := zq hr20; have HC685 := zq (show y682.length ≤ c20 from by rw [hy20, hc20]; exact Nat.sub_le_sub_right (Nat.le_trans J29 hroom20) _); clear hr20 hC20 hroom20 hi020 hsz20 hc20; have KY20 := zq hy20; have KA20 := zq hA20; clear hy20 hA20; replace q20 := eq_true q20) | ((with_reducible refine Xi (f := 15) rfl ?_); refine gL 37 Try.func15 #[.slice A20 y682.length c20] (deckleref10_Copy.calls k2 _ _ y682 t686 _ (zc (ac HR685.out HB.out)) HC685.out A16.out) ?_; rintro e w21 ⟨v687, rfl, ho0, hb⟩; refine ⟨_, rfl, ?_⟩; replace HO_3 := zq (ay (zr HO_3.out) (bI ho0) hb); have HO688 := zq (cg ho0 (Xc J0)); replace HB := zq (Xe J0 hb); (try clear hb); (try clear hk); (try clear hi); (try clear ho0); obtain ⟨Ao23, co23, eo23⟩ := bX HO688.out; subst eo23) | ((with_reducible refine Xa0 (b := .append) (xs := #[.tmp 30, .tmp 38]) rfl ?_); at_builtin; refine br (Kd.slice 30 k30) (w0 := w) w.heap.size rfl (.tmp 30) (.tmp 38) 42 22 (.slice none 0 0) 24 rfl Try.underlying42 info22 rfl J14 J29 u3 x3_2 t686 [.slice Ao23 t686.length co23] (fun _ => True) (fun k_ => ((fun _ => True)) k_ ∧ some k_ ≠ (u3 : Value).ownBlock) rfl rfl ?aP (fun _ hk => hk) ?aF ?aO ?aB ?aS ?aL ?_; (case aP => exact cO (af (aG ((cr HO688.out)) (aK HO_3.out) J14) (fun k_ hk => ⟨trivial, hk.2⟩))); (case aB => exact J0); (case aF => exact (fun _ _ => trivial)); (case aO => exact (by (with_reducible repeat (first | apply Kd.R_alloc | apply ai | apply ak)); exact af HO_3.out (fun _ hk => trivial))); (case aS => exact (Xc J0)); (case aL => have := LMc17.out; omega); intro v690 w22 ho hb hg hat; rw [← Ny689.out] at ho; replace HB := zq (hb); have HO691 := zq (ho); clear HO_3 HO688; clear ho hb hg hat))
     go_roundg k2
     case measure => have := HJ1.out; have := HK2.out; omega
     case rel => exact ⟨(y689), (wrap64 (x4_2 + t679)), J4, H', ⟨J144⟩, ⟨by (with_reducible repeat (first | apply Kd.R_alloc | apply ai | apply ak)); exact HO691.out⟩, ⟨J0⟩⟩
def Xb2.f (k : Nat) (a0 : Int) : Option (Int × Int) := (Xay.f k a0 0).bind fun bt693 => (some (bt693.1, bt693.2.1))
set_option maxHeartbeats 8000000 in
set_option maxRecDepth 100000 in
theorem Xb2.calls (k : Nat) (a0 : Int) (r1 : Int) (r2 : Int) (w : World) (h : Xb2.f k a0 = some (r1, r2)) :
  Calls Try.prog 69 #[.int .i64 a0] w fun e w' => e = .returned (.agg #[.int .i64 r1, .int .i64 r2]) ∧ Below w.heap.size w w' := by
 have hu38 := Try.underlying38
 have HB := zq (Below.refl w.heap.size w)
 unfold Xb2.f at h
 have H := h
 clear h
 refine yv H ?_; clear H; rintro ⟨t693, t694, t695⟩ A2 H
 dsimp only at H
 obtain ⟨rfl, rfl⟩ := yp2 H
 go_enter Try.func69, Try.ntmps69
 go_wp2_with (first | ((with_reducible refine Xj (N := 2) rfl ?_); refine bxw 2 38 #[.int .i64 0, .int .i64 0] ?_; intro gb692 hg w3 hbox hb; have BK692 := zq (hbox); have GE692 := zq ((J22 : w.heap.size ≤ gb692)); replace HB := zq (Xe J0 hb); clear hb hbox hg) | ((with_reducible refine Xi (f := 60) rfl ?_); refine gL 8 Try.func60 #[.agg #[.int .i64 a0, .int .i64 0]] (Xay.calls k a0 0 t693 t694 t695 _ A2.out) ?_; rintro e w4 ⟨rfl, hb⟩; refine ⟨_, rfl, ?_⟩; replace BK692 := zq (Xg (zk BK692.out) hb); replace HB := zq (Xe (zs1 GE692.out) hb); (try clear hb)) | ((with_reducible refine Xj (N := 3) rfl ?_); refine bxw 3 38 #[.int .i64 0, .int .i64 0] ?_; intro gb696 hg w5 hbox hb; have BK696 := zq (hbox); have GE696 := zq ((by rw [hg]; exact (Xc (zs1 GE692.out)) : w.heap.size ≤ gb696)); replace HB := zq (Xe (zs1 GE692.out) hb); have NB692_696 := zq ((by rw [hg]; exact Nat.ne_of_lt (Xbd (g := gb692) (o := .cells #[.int .i64 0, .int .i64 0] 38 (0, 0)) (zk BK692.out)) : gb692 ≠ gb696)); have NB696_692 := zq ((by rw [hg]; exact Nat.ne_of_gt (Xbd (g := gb692) (o := .cells #[.int .i64 0, .int .i64 0] 38 (0, 0)) (zk BK692.out)) : gb696 ≠ gb692)); replace BK692 := zq (Xg (zk BK692.out) hb); clear hb hbox hg; have hnb6 := NB696_692.out; have hnc6 := NB692_696.out; have Z7 := cz2 BK696.out; have Z8 := cz2 BK692.out))
 refine bodyPost_ret (results_cell_row rfl _ _ gb692 38 #[.int .i64 t693, .int .i64 t694] (0, 0) _ rfl (by (with_reducible repeat (first | refine Xd ?_ _ | refine Xf ?_ | refine Xb ?_ _)); refine Xk (cs := #[.int .i64 t693, .int .i64 0]) ?_ 1 _ rfl; (with_reducible repeat (first | refine Xd ?_ _ | refine Xf ?_ | refine Xb ?_ _)); refine Xk (cs := #[.int .i64 0, .int .i64 0]) ?_ 0 _ rfl; (with_reducible repeat (first | refine Xd ?_ _ | refine Xf ?_ | refine Xb ?_ _)); refine Xab ?_ NB692_696.out _; (with_reducible repeat (first | refine Xd ?_ _ | refine Xf ?_ | refine Xb ?_ _)); refine Xab ?_ NB692_696.out _; (with_reducible repeat (first | refine Xd ?_ _ | refine Xf ?_ | refine Xb ?_ _)); exact BK692.out) Try.underlying38 rfl J17) rfl ?_
 exact ⟨J1, by repeat (first | (with_reducible first | exact HB.out | apply Xaf | apply X3 | apply X9 | refine X0 ?_ GE692.out | refine X0 ?_ GE696.out) | exact HB.out)⟩
def Xaj.l0 : Nat → List (S38) → Int → Int → List Int → List Int → List (S38) → Option ((List (S38)))
 | 0, _, _, _, _, _, _ => none
 | k + 1, x3, x4, x698000, x698001, x698002, x698003 => if x4 < (x698002.length : Int) then (if 0 ≤ x4 then ((Xb2.f k (rd x698002 x4)).bind fun bt705 => (if x3.length < 8796093022208 then (Xaj.l0 k (x3 ++ [(⟨bt705.1, bt705.2⟩ : S38)]) (wrap64 (x4 + 1)) x698000 x698001 x698002 x698003) else (none))) else (none)) else (some x3)
def Xaj.f (k : Nat) (a0_0 : Int) (l0_1 : List Int) (l0_2 : List Int) (l0_3 : List (S38)) : Option ((List (S38))) := (some (([] : List (S38)) : List (S38))).bind fun y698 => (if y698.length + l0_3.length < 8796093022208 then (Xaj.l0 k (y698 ++ l0_3) 0 a0_0 l0_1 l0_2 l0_3) else (none))
set_option maxHeartbeats 8000000 in
set_option maxRecDepth 100000 in
theorem Xaj.calls (k : Nat) (a0_0 : Int) (A0_1 : Option Addr) (c0_1 : Nat) (l0_1 : List Int) (A0_2 : Option Addr) (c0_2 : Nat) (l0_2 : List Int) (A0_3 : Option Addr) (c0_3 : Nat) (l0_3 : List (S38)) (r : List (S38)) (w : World) (hr0_1 : Kd.C (Kd.int .i64) w A0_1 l0_1.length l0_1) (hc0_1 : l0_1.length ≤ c0_1) (hr0_2 : Kd.C (Kd.int .i64) w A0_2 l0_2.length l0_2) (hc0_2 : l0_2.length ≤ c0_2) (hr0_3 : Kd.C k38 w A0_3 l0_3.length l0_3) (hc0_3 : l0_3.length ≤ c0_3) (h : Xaj.f k a0_0 l0_1 l0_2 l0_3 = some r) :
  Calls Try.prog 54 #[.agg #[.int .i64 a0_0, .slice A0_1 l0_1.length c0_1, .slice A0_2 l0_2.length c0_2, .slice A0_3 l0_3.length c0_3]] w fun e w' => ∃ v0_ : Value, e = .returned (v0_) ∧ Kd.R k38 38 w' w.heap.size (fun _ => True) v0_ r ∧ Below w.heap.size w w' := by
 have hu30 := Try.underlying30
 have HR0_1 := zq hr0_1
 have HC0_1 := zq hc0_1
 clear hr0_1 hc0_1
 have HR0_2 := zq hr0_2
 have HC0_2 := zq hc0_2
 clear hr0_2 hc0_2
 have HR0_3 := zq hr0_3
 have HC0_3 := zq hc0_3
 clear hr0_3 hc0_3
 have HB := zq (Below.refl w.heap.size w)
 unfold Xaj.f at h
 have H := h
 clear h
 refine yl H ?_; clear H; rintro y698 Ny698 H
 refine yi H ?_; clear H; intro c2 H
 have LMc2 := zq c2
 clear c2
 obtain ⟨y701, hy701⟩ : ∃ y_ : List (S38), y_ = (y698 ++ l0_3) := ⟨_, rfl⟩
 replace H : (Xaj.l0 k y701 0 a0_0 l0_1 l0_2 l0_3) = some r := by first | (rw [hy701]; with_reducible exact H) | (have H2_ := (Option.bind_some _ _).symm.trans H; rw [hy701]; with_reducible exact H2_) | (have H2_ := (Option.bind_some _ _).symm.trans H; with_reducible exact H2_) | with_reducible exact H | (rw [hy701]; exact H) | exact H
 have Ny701 := zq hy701
 clear hy701
 have H' := zq H
 clear H
 go_enter Try.func54, Try.ntmps54
 go_wp2_with (first | ((with_reducible refine Xj (N := 1) rfl ?_); refine bxw 1 30 #[.int .i64 a0_0, .slice A0_1 l0_1.length c0_1, .slice A0_2 l0_2.length c0_2, .slice A0_3 l0_3.length c0_3] ?_; intro gb697 hg w3 hbox hb; have BK697 := zq (hbox); have GE697 := zq ((J22 : w.heap.size ≤ gb697)); replace HB := zq (Xe J0 hb); clear hb hbox hg) | ((with_reducible refine Xj (N := 5) rfl ?_); refine lwR k38 38 5 (xs := ([] : List (S38))) [] Ny698 (Reps.none _ _) ?_; intro v699 w4 ho5 hb; have HO700 := zq (ag ho5 (Xc (zs1 GE697.out))); replace BK697 := zq (Xg (zk BK697.out) hb); replace HB := zq (Xe (zs1 GE697.out) hb); clear hb ho5; have Z6 := cz4 BK697.out) | ((with_reducible refine Xa0 (b := .append) (xs := #[.tmp 5, .tmp 7]) rfl ?_); at_builtin; refine aI k38 (w0 := w) w.heap.size rfl (.tmp 5) (.tmp 7) 24 38 (.agg #[(.int .i64 0), (.int .i64 0)]) 16 rfl Try.underlying24 Xdo rfl J14 J29 v699 y698 l0_3 _ _ _ (fun _ => True) (fun _ => False) rfl rfl ?aO ?aR (fun _ _ h => h) (fun _ h => h.elim) ?aF ?aB ?aS ?aL ?_; (case aR => repeat (first | exact (ac HR0_3.out HB.out) | (with_reducible refine Kd.C_alloc ?_ _) | (with_reducible refine au ?_ _) | (with_reducible refine Kd.C_drew ?_))); (case aB => exact (zs1 GE697.out)); (case aF => exact (fun _ _ => trivial)); (case aO => exact (zr HO700.out)); (case aS => exact (Xc (zs1 GE697.out))); (case aL => have := LMc2.out; omega); intro v702 w7 ho hb hg hat; rw [← Ny701.out] at ho; replace BK697 := zq (Xa9 (g := gb697) (o := .cells #[.int .i64 a0_0, .slice A0_1 l0_1.length c0_1, .slice A0_2 l0_2.length c0_2, .slice A0_3 l0_3.length c0_3] 30 (0, 0)) (zk BK697.out) hg (bk HO700.out BK697.out J14)); replace HB := zq (hb); have HO703 := zq (ho); clear HO700; clear ho hb hg hat))
 go_loopg [3, 4] k (fun kq v3 v4 w' => ∃ (x3_1 : List (S38)) (x4_1 : Int), v4 = .int .i64 x4_1 ∧ Aside0 (Xaj.l0 kq x3_1 x4_1 a0_0 l0_1 l0_2 l0_3 = some r) ∧ Aside0 (kq ≤ k) ∧ Aside0 (Kd.R k38 38 w' w.heap.size (fun _ => True) v3 x3_1) ∧ Aside0 (w'.heap[gb697]? = some (.cells #[.int .i64 a0_0, (.slice A0_1 l0_1.length c0_1), (.slice A0_2 l0_2.length c0_2), (.slice A0_3 l0_3.length c0_3)] 30 (0, 0))) ∧ Aside0 (Below w.heap.size w w'))
 case atStart => exact ⟨(y701), (0), J4, H', ⟨Nat.le_refl _⟩, ⟨by (with_reducible repeat (first | apply Kd.R_alloc | apply ai | apply ak)); exact HO703.out⟩, ⟨J165⟩, ⟨J97⟩⟩
 case round =>
  clear H'
  try clear c2
  try clear Z6
  obtain ⟨x3_1, x4_1, rfl, HA, HK1, HO_3, BK697, HB⟩ := hrel
  cases gk with
  | zero => exact absurd HA.out (by simp [Xaj.l0])
  | succ k1 =>
   have H := HA.out
   clear HA
   simp only [Xaj.l0] at H
   refine yd H ?_ ?_ <;> clear H <;> rintro c8b0 H
   ·obtain rfl := yo H
    have Z15 := cz4 BK697.out
    go_wp2
    go_ret
    exact ⟨_, J1, J185, J97⟩
   refine yj H ?_; clear H; intro c9b0 H
   refine yv H ?_; clear H; rintro ⟨t705, t706⟩ A10 H
   dsimp only at H
   refine yi H ?_; clear H; intro c11 H
   have LMc11 := zq c11
   clear c11
   obtain ⟨y707, hy707⟩ : ∃ y_ : List (S38), y_ = (x3_1 ++ [(⟨t705, t706⟩ : S38)]) := ⟨_, rfl⟩
   replace H : (Xaj.l0 k1 y707 (wrap64 (x4_1 + 1)) a0_0 l0_1 l0_2 l0_3) = some r := by first | (rw [hy707]; with_reducible exact H) | (have H2_ := (Option.bind_some _ _).symm.trans H; rw [hy707]; with_reducible exact H2_) | (have H2_ := (Option.bind_some _ _).symm.trans H; with_reducible exact H2_) | with_reducible exact H | (rw [hy707]; exact H) | exact H
   have Ny707 := zq hy707
   clear hy707
   have H' := zq H
   clear H
   have Z12 := cz4 BK697.out
   have p704 : 0 ≤ (x4_1 : Int) := of_decide_eq_true J2
   have q704 : x4_1 < (l0_2.length : Int) := of_decide_eq_true J2
   obtain ⟨ad704, e704, hx704_0⟩ := Kd.at_int HR0_2.out x4_1 p704 q704
   cases e704
   replace hx704_0 := yh HB hx704_0
   replace p704 := eq_true p704
   replace q704 := eq_true q704
   go_wp2_with (first | ((with_reducible refine Xi (f := 69) rfl ?_); refine gL 22 Try.func69 #[.int .i64 (rd l0_2 x4_1)] (Xb2.calls k1 (rd l0_2 x4_1) t705 t706 _ A10.out) ?_; rintro e w13 ⟨rfl, hb⟩; refine ⟨_, rfl, ?_⟩; replace HO_3 := zq (ab (zr HO_3.out) hb); replace BK697 := zq (Xg (zk BK697.out) hb); replace HB := zq (Xe (zs1 GE697.out) hb); (try clear hb); (try clear hk)) | ((with_reducible refine Xa0 (b := .append) (xs := #[.tmp 16, .tmp 23]) rfl ?_); at_builtin; refine br k38 (w0 := w) w.heap.size rfl (.tmp 16) (.tmp 23) 24 38 (.agg #[(.int .i64 0), (.int .i64 0)]) 16 rfl Try.underlying24 Xdo rfl J14 J29 u3 x3_1 (⟨t705, t706⟩ : S38) [.int .i64 t705, .int .i64 t706] (fun _ => True) (fun _ => False) rfl rfl ?aP (fun _ hk => hk.elim) ?aF ?aO ?aB ?aS ?aL ?_; (case aP => exact Xdn _ _ _ (⟨t705, t706⟩ : S38)); (case aB => exact (zs1 GE697.out)); (case aF => exact (fun _ _ => trivial)); (case aO => exact (zr HO_3.out)); (case aS => exact (Xc (zs1 GE697.out))); (case aL => have := LMc11.out; omega); intro v708 w14 ho hb hg hat; rw [← Ny707.out] at ho; replace BK697 := zq (Xa9 (g := gb697) (o := .cells #[.int .i64 a0_0, .slice A0_1 l0_1.length c0_1, .slice (some ad704) l0_2.length c0_2, .slice A0_3 l0_3.length c0_3] 30 (0, 0)) (zk BK697.out) hg (bk HO_3.out BK697.out J14)); replace HB := zq (hb); have HO709 := zq (ho); clear HO_3; clear ho hb hg hat))
   go_roundg k1
   case measure => have := HK1.out; omega
   case rel => exact ⟨(y707), (wrap64 (x4_1 + 1)), J4, H', ⟨J84⟩, ⟨by (with_reducible repeat (first | apply Kd.R_alloc | apply ai | apply ak)); exact HO709.out⟩, ⟨J165⟩, ⟨J97⟩⟩
end Go.Proofs.Ytecdklheppcihaa.HTightTells
