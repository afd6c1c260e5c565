/- Words and walks, shortened by a program: what this claim's functions answer, and that other memory stays. -/
import Derived.Test.YtecdklheppcihaaSTightTellsx0
import Derived.Test.YtecdklheppcihaaSTightTellsx6
import Derived.Test.YtecdklheppcihaaSTightTellsx7
import Derived.Test.YtecdklheppcihaaSTightTellsx8
namespace Go.Proofs.Ytecdklheppcihaa.HTightTells
open Go.RowKit Go.Proofs.YtecdklheppcihaaW.PrintWords Go.Proofs.YtecdklheppcihaaW.PrintWords.Kd Go.Proofs.YtecdklheppcihaaW.PrintLast Go.Proofs.YtecdklheppcihaaW.PrintMore Go.Proofs.YtecdklheppcihaaW.PrintMore.Kd
attribute [local go_sem] Xbp Xbn Xbu Xbt Xbg Xbf Xbo Xbm
set_option linter.unusedVariables false
set_option linter.unusedSimpArgs false
def Xad.l0 : Nat → List (S38) → List Int → Int → Int → Option ((List (S38)))
 | 0, _, _, _, _ => none
 | k + 1, x3, x12, x13, x14 => if x14 < x13 then (if 0 ≤ x14 then (if x14 < (x12.length : Int) then ((Xbq.f k (rd x12 x14)).bind fun bt237 => (if x3.length < 8796093022208 then (Xad.l0 k (x3 ++ [(⟨bt237.1, bt237.2⟩ : S38)]) x12 x13 (wrap64 (x14 + 1))) else (none))) else (none)) else (none)) else (some x3)
def Xad.f (k : Nat) (a0_0 : Int) (l0_1 : List Int) (l0_2 : List Int) (l0_3 : List (S38)) : Option ((List (S38))) := if a0_0 = 4 then (some l0_3) else (Xad.l0 k ([] : List (S38)) l0_2 (l0_2.length : Int) 0)
theorem Xad.mono_l : ∀ k, (∀ y0 y1 y2 y3, LeO (Xad.l0 k y0 y1 y2 y3) (Xad.l0 (k + 1) y0 y1 y2 y3))
 | 0 => fun _ _ _ _ r h => by simp [Xad.l0] at h
 | k + 1 => by
  have ih0 := Xad.mono_l k
  ·intro y0 y1 y2 y3
   unfold Xad.l0
   have im0 := @Xbq.mono
   exact mz3
theorem Xad.mono : ∀ a0 a1 a2 a3 k, LeO (Xad.f k a0 a1 a2 a3) (Xad.f (k + 1) a0 a1 a2 a3) := by
 intro a0 a1 a2 a3 k
 have ih0 := Xad.mono_l k
 unfold Xad.f
 have im0 := @Xbq.mono
 exact mz3
set_option maxHeartbeats 8000000 in
set_option maxRecDepth 100000 in
theorem Xad.calls (k : Nat) (a0_0 : Int) (A0_1 : Option Addr) (c0_1 : Nat) (l0_1 : List Int) (A0_2 : Option Addr) (c0_2 : Nat) (l0_2 : List Int) (P0_3_ : Nat → Prop) (A0_3 : Option Addr) (c0_3 : Nat) (l0_3 : List (S38)) (r : List (S38)) (w : World) (hr0_1 : Kd.C (Kd.int .i64) w A0_1 l0_1.length l0_1) (hc0_1 : l0_1.length ≤ c0_1) (hr0_2 : Kd.C (Kd.int .i64) w A0_2 l0_2.length l0_2) (hc0_2 : l0_2.length ≤ c0_2) (hs0_3 : Kd.V k38 38 w w.heap.size (fun k_ => P0_3_ k_) (.slice A0_3 l0_3.length c0_3) l0_3) (h : Xad.f k a0_0 l0_1 l0_2 l0_3 = some r) :
  Calls Try.prog 51 #[.agg #[.int .i64 a0_0, .slice A0_1 l0_1.length c0_1, .slice A0_2 l0_2.length c0_2, .slice A0_3 l0_3.length c0_3]] w fun e w' => ∃ v0_ : Value, e = .returned (v0_) ∧ Kd.V k38 38 w' w.heap.size (fun k_ => (P0_3_ k_ ∨ w.heap.size ≤ k_)) v0_ r ∧ Below w.heap.size w w' := by
 have hu30 := Try.underlying30
 have HR0_1 := zq hr0_1
 have HC0_1 := zq hc0_1
 clear hr0_1 hc0_1
 have HR0_2 := zq hr0_2
 have HC0_2 := zq hc0_2
 clear hr0_2 hc0_2
 have HO0_3 := zq (show Kd.V k38 38 w w.heap.size (fun k_ => (P0_3_ k_ ∨ w.heap.size ≤ k_)) (.slice A0_3 l0_3.length c0_3) l0_3 from aj hs0_3 (fun k_ hk => .inl hk))
 have HB := zq (Below.refl w.heap.size w)
 unfold Xad.f at h
 have H := h
 clear h
 refine yF H ?_ ?_ <;> clear H <;> rintro ⟨c2b0, c2b1, c2⟩ H
 ·clear c2
  obtain rfl := yo H
  go_enter Try.func51, Try.ntmps51
  go_wp2_with (first | ((with_reducible refine Xj (N := 1) rfl ?_); refine bxw 1 30 #[.int .i64 a0_0, .slice A0_1 l0_1.length c0_1, .slice A0_2 l0_2.length c0_2, .slice A0_3 l0_3.length c0_3] ?_; intro gb235 hg w3 hbox hb; replace HO0_3 := zq (ax (aE (zv HO0_3.out) gb235 (Nat.le_of_eq hg.symm)) hb); have BK235 := zq (hbox); have GE235 := zq ((J22 : w.heap.size ≤ gb235)); replace HB := zq (Xe J0 hb); clear hb hbox hg; have Z4 := cz4 BK235.out))
  go_ret
  exact ⟨_, J1, by (with_reducible repeat (first | apply Kd.V_alloc | apply Kd.V_drewN | apply aA)); exact aj HO0_3.out (fun _ hk => hk.1), J69⟩
 have H' := zq H
 clear H
 go_enter Try.func51, Try.ntmps51
 go_wp2_with (first | ((with_reducible refine Xj (N := 1) rfl ?_); refine bxw 1 30 #[.int .i64 a0_0, .slice A0_1 l0_1.length c0_1, .slice A0_2 l0_2.length c0_2, .slice A0_3 l0_3.length c0_3] ?_; intro gb235 hg w5 hbox hb; replace HO0_3 := zq (ax (aE (zv HO0_3.out) gb235 (Nat.le_of_eq hg.symm)) hb); have BK235 := zq (hbox); have GE235 := zq ((J22 : w.heap.size ≤ gb235)); replace HB := zq (Xe J0 hb); clear hb hbox hg; have Z6 := cz4 BK235.out))
 go_loopg [3, 14] k (fun kq v3 v14 w' => ∃ (x3_1 : List (S38)) (x14_1 : Int), v14 = .int .i64 x14_1 ∧ Aside0 (Xad.l0 kq x3_1 l0_2 (l0_2.length : Int) x14_1 = some r) ∧ Aside0 (kq ≤ k) ∧ Aside0 (Kd.R k38 38 w' w.heap.size (fun k_ => (w.heap.size ≤ k_)) v3 x3_1) ∧ Aside0 (Kd.V k38 38 w' w.heap.size (fun k_ => (P0_3_ k_ ∨ w.heap.size ≤ k_) ∧ some k_ ≠ (v3 : Value).ownBlock ∧ k_ ≠ gb235) (.slice A0_3 l0_3.length c0_3) l0_3) ∧ Aside0 (w'.heap[gb235]? = some (.cells #[.int .i64 a0_0, (.slice A0_1 l0_1.length c0_1), (.slice A0_2 l0_2.length c0_2), (.slice A0_3 l0_3.length c0_3)] 30 (0, 0))) ∧ Aside0 (Below w.heap.size w w'))
 case atStart => exact ⟨(([] : List (S38))), (0), J4, H', ⟨Nat.le_refl _⟩, ⟨J8⟩, ⟨by (with_reducible repeat (first | apply Kd.V_alloc | apply Kd.V_drewN | apply aA)); exact aj HO0_3.out (fun _ hk => ⟨hk.1, ⟨J118, hk.2⟩⟩)⟩, ⟨J162⟩, ⟨J69⟩⟩
 case round =>
  clear H'
  try clear c2
  try clear c2b0
  try clear c2b1
  try clear Z6
  obtain ⟨x3_1, x14_1, rfl, HA, HK1, HO_3, HO_236003, BK235, HB⟩ := hrel
  cases gk with
  | zero => exact absurd HA.out (by simp [Xad.l0])
  | succ k1 =>
   have H := HA.out
   clear HA
   simp only [Xad.l0] at H
   refine yd H ?_ ?_ <;> clear H <;> rintro c7b0 H
   ·obtain rfl := yo H
    go_wp2
    go_ret
    exact ⟨_, J1, aj (Kd.R_V (zr HO_3.out)) (fun k_ hk => by first | exact ⟨(.inr (hk.1)), hk.2⟩ | exact (.inr (hk))), J69⟩
   refine yj H ?_; clear H; intro c8b0 H
   refine yj H ?_; clear H; intro c9b0 H
   refine yv H ?_; clear H; rintro ⟨t237, t238⟩ A10 H
   dsimp only at H
   refine yi H ?_; clear H; intro c11 H
   have LMc11 := zq c11
   clear c11
   obtain ⟨y239, hy239⟩ : ∃ y_ : List (S38), y_ = (x3_1 ++ [(⟨t237, t238⟩ : S38)]) := ⟨_, rfl⟩
   replace H : (Xad.l0 k1 y239 l0_2 (l0_2.length : Int) (wrap64 (x14_1 + 1))) = some r := by first | (rw [hy239]; with_reducible exact H) | (have H2_ := (Option.bind_some _ _).symm.trans H; rw [hy239]; with_reducible exact H2_) | (have H2_ := (Option.bind_some _ _).symm.trans H; with_reducible exact H2_) | with_reducible exact H | (rw [hy239]; exact H) | exact H
   have Ny239 := zq hy239
   clear hy239
   have H' := zq H
   clear H
   have p236 : 0 ≤ (x14_1 : Int) := of_decide_eq_true J2
   have q236 : x14_1 < (l0_2.length : Int) := of_decide_eq_true J2
   obtain ⟨ad236, e236, hx236_0⟩ := Kd.at_int HR0_2.out x14_1 p236 q236
   cases e236
   replace hx236_0 := yh HB hx236_0
   replace p236 := eq_true p236
   replace q236 := eq_true q236
   go_wp2_with (first | ((with_reducible refine Xi (f := 20) rfl ?_); refine gL 20 Try.func20 #[.int .i64 (rd l0_2 x14_1)] (Xbq.calls k1 (rd l0_2 x14_1) t237 t238 _ A10.out) ?_; rintro e w12 ⟨rfl, hb⟩; refine ⟨_, rfl, ?_⟩; replace HO_3 := zq (ab (zr HO_3.out) hb); replace HO_236003 := zq (ax (zv HO_236003.out) hb); replace BK235 := zq (Xg (zk BK235.out) hb); replace HB := zq (Xe (zs1 GE235.out) hb); (try clear hb); (try clear hk)) | ((with_reducible refine Xa0 (b := .append) (xs := #[.tmp 18, .tmp 21]) rfl ?_); at_builtin; refine br k38 (w0 := w) w.heap.size rfl (.tmp 18) (.tmp 21) 24 38 (.agg #[(.int .i64 0), (.int .i64 0)]) 16 rfl Try.underlying24 Xdo rfl J14 J29 u3 x3_1 (⟨t237, t238⟩ : S38) [.int .i64 t237, .int .i64 t238] (fun k_ => (w.heap.size ≤ k_)) (fun _ => False) rfl rfl ?aP (fun _ hk => hk.elim) ?aF ?aO ?aB ?aS ?aL ?_; (case aP => exact Xdn _ _ _ (⟨t237, t238⟩ : S38)); (case aB => exact (zs1 GE235.out)); (case aF => exact (fun k_ hk => (Nat.le_trans (Xc (zs1 GE235.out)) hk))); (case aO => exact (zr HO_3.out)); (case aS => exact (Xc (zs1 GE235.out))); (case aL => have := LMc11.out; omega); intro v240 w13 ho hb hg hat; rw [← Ny239.out] at ho; replace HO_236003 := zq (aN (ok := (fun k_ => (P0_3_ k_ ∨ w.heap.size ≤ k_) ∧ k_ ≠ gb235)) (by (with_reducible repeat (first | apply Kd.V_alloc | apply Kd.V_drewN | apply aA)); exact aj HO_236003.out (fun _ hk => ⟨⟨hk.1, hk.2.2⟩, hk.2.1⟩)) hg hat); replace BK235 := zq (Xa9 (g := gb235) (o := .cells #[.int .i64 a0_0, .slice A0_1 l0_1.length c0_1, .slice (some ad236) l0_2.length c0_2, .slice A0_3 l0_3.length c0_3] 30 (0, 0)) (zk BK235.out) hg (bk HO_3.out BK235.out J14)); replace HB := zq (hb); have HO241 := zq (ho); clear HO_3; clear ho hb hg hat))
   go_roundg k1
   case measure => have := HK1.out; omega
   case rel => exact ⟨(y239), (wrap64 (x14_1 + 1)), J4, H', ⟨J84⟩, ⟨by (with_reducible repeat (first | apply Kd.R_alloc | apply ai | apply ak)); exact HO241.out⟩, ⟨by (with_reducible repeat (first | apply Kd.V_alloc | apply Kd.V_drewN | apply aA)); exact aj HO_236003.out (fun _ hk => ⟨hk.1.1, ⟨hk.2, hk.1.2⟩⟩)⟩, ⟨J162⟩, ⟨J69⟩⟩
mutual
def X7.l0 : Nat → List Int → List (List (S30)) → List (S38) → List (List (S30)) → Int → Int → Int → List Int → List Int → Option (Int × List Int × List Int × (List (S38)) × Bool)
 | 0, _, _, _, _, _, _, _, _, _ => none
 | k + 1, x0, x1, x7, x14, x15, x16, x247000, x247001, x247002 => if x16 < x15 then (if 0 ≤ x16 then (if x16 < (x14.length : Int) then (if 0 < ((Xa5 x14 x16).length : Int) then (if (((Xa (Xa5 x14 x16) 0).f1).length : Int) > 0 then (X7.j1 k x0 x1 x7 x14 x15 x16 true x247000 x247001 x247002 ((Xa (Xa5 x14 x16) 0).f0) ((Xa (Xa5 x14 x16) 0).f1) ((Xa (Xa5 x14 x16) 0).f2) ((Xa (Xa5 x14 x16) 0).f3)) else (X7.j1 k x0 x1 x7 x14 x15 x16 (((Xa (Xa5 x14 x16) 0).f0) == 5) x247000 x247001 x247002 ((Xa (Xa5 x14 x16) 0).f0) ((Xa (Xa5 x14 x16) 0).f1) ((Xa (Xa5 x14 x16) 0).f2) ((Xa (Xa5 x14 x16) 0).f3))) else (none)) else (none)) else (none)) else (if (x247002.length : Int) = (x1.length : Int) then (if (x1.length : Int) > 0 then (some (x247000, x247001, x247002, ([] : List (S38)), true)) else ((X2.f k x0 x7).bind fun bt247 => (some (bt247.1, bt247.2.1, bt247.2.2.1, bt247.2.2.2.1, bt247.2.2.2.2)))) else ((X2.f k x0 x7).bind fun bt258 => (some (bt258.1, bt258.2.1, bt258.2.2.1, bt258.2.2.2.1, bt258.2.2.2.2))))
def X7.j1 : Nat → List Int → List (List (S30)) → List (S38) → List (List (S30)) → Int → Int → Bool → Int → List Int → List Int → Int → List Int → List Int → List (S38) → Option (Int × List Int × List Int × (List (S38)) × Bool)
 | 0, _, _, _, _, _, _, _, _, _, _, _, _, _, _ => none
 | k + 1, x0, x1, x7, x14, x15, x16, x27, x247000, x247001, x247002, x272000, x272001, x272002, x272003 => if x27 = true then (some (0, ([] : List Int), ([] : List Int), ([] : List (S38)), false)) else (if x272000 = 3 then (if x247002.length + x272002.length < 17592186044416 then (X7.l0 k x0 x1 x7 x14 x15 (wrap64 (x16 + 1)) x247000 x247001 (x247002 ++ x272002)) else (none)) else ((Xad.f k x272000 x272001 x272002 x272003).bind fun t275 => (if x7.length + t275.length < 8796093022208 then (X7.l0 k x0 x1 (x7 ++ t275) x14 x15 (wrap64 (x16 + 1)) x247000 x247001 x247002) else (none))))
end
def X7.f (k : Nat) (l0 : List Int) (l1 : List (List (S30))) : Option (Int × List Int × List Int × (List (S38)) × Bool) := (Xae.f l0).bind fun t243 => (X7.l0 k l0 l1 ([] : List (S38)) l1 (l1.length : Int) 0 3 t243 ([] : List Int))
theorem X7.mono_l : ∀ k, (∀ y0 y1 y2 y3 y4 y5 y6 y7 y8, LeO (X7.l0 k y0 y1 y2 y3 y4 y5 y6 y7 y8) (X7.l0 (k + 1) y0 y1 y2 y3 y4 y5 y6 y7 y8)) ∧ (∀ y0 y1 y2 y3 y4 y5 y6 y7 y8 y9 y10 y11 y12 y13, LeO (X7.j1 k y0 y1 y2 y3 y4 y5 y6 y7 y8 y9 y10 y11 y12 y13) (X7.j1 (k + 1) y0 y1 y2 y3 y4 y5 y6 y7 y8 y9 y10 y11 y12 y13))
 | 0 => ⟨fun _ _ _ _ _ _ _ _ _ r h => by simp [X7.l0] at h, fun _ _ _ _ _ _ _ _ _ _ _ _ _ _ r h => by simp [X7.j1] at h⟩
 | k + 1 => by
  obtain ⟨ih0, ih1⟩ := X7.mono_l k
  refine ⟨?_, ?_⟩
  ·intro y0 y1 y2 y3 y4 y5 y6 y7 y8
   unfold X7.l0
   have im0 := @X2.mono
   have im1 := @Xad.mono
   exact mz3
  ·intro y0 y1 y2 y3 y4 y5 y6 y7 y8 y9 y10 y11 y12 y13
   unfold X7.j1
   have im0 := @X2.mono
   have im1 := @Xad.mono
   exact mz3
theorem X7.mono : ∀ a0 a1 k, LeO (X7.f k a0 a1) (X7.f (k + 1) a0 a1) := by
 intro a0 a1 k
 obtain ⟨ih0, ih1⟩ := X7.mono_l k
 unfold X7.f
 have im0 := @X2.mono
 have im1 := @Xad.mono
 exact mz3
set_option maxHeartbeats 8000000 in
set_option maxRecDepth 100000 in
theorem X7.calls (k : Nat) (A0 : Option Addr) (c0 : Nat) (l0 : List Int) (A1 : Option Addr) (c1 : Nat) (l1 : List (List (S30))) (r1 : Int) (r2 : List Int) (r3 : List Int) (r4 : List (S38)) (r5 : Bool) (w : World) (hr0 : Kd.C (Kd.int .i64) w A0 l0.length l0) (hc0 : l0.length ≤ c0) (hr1 : Kd.C (Kd.slice 30 k30) w A1 l1.length l1) (hc1 : l1.length ≤ c1) (h : X7.f k l0 l1 = some (r1, r2, r3, r4, r5)) :
  Calls Try.prog 50 #[.slice A0 l0.length c0, .slice A1 l1.length c1] w fun e w' => ∃ v1_ v2_ v3_ : Value, e = .returned (.tuple #[.agg #[.int .i64 r1, v1_, v2_, v3_], .bool r5]) ∧ Kd.R (Kd.int .i64) 3 w' w.heap.size (fun k_ => some k_ ≠ (v2_ : Value).ownBlock) v1_ r2 ∧ Kd.R (Kd.int .i64) 3 w' w.heap.size (fun k_ => some k_ ≠ (v1_ : Value).ownBlock) v2_ r3 ∧ Kd.R k38 38 w' w.heap.size (fun _ => True) v3_ r4 ∧ Below w.heap.size w w' := by
 have hu30 := Try.underlying30
 have HR0 := zq hr0
 have HC0 := zq hc0
 clear hr0 hc0
 have HR1 := zq hr1
 have HC1 := zq hc1
 clear hr1 hc1
 have HB := zq (Below.refl w.heap.size w)
 unfold X7.f at h
 have H := h
 clear h
 refine yv H ?_; clear H; rintro t243 A3 H
 have H' := zq H
 clear H
 go_enter Try.func50, Try.ntmps50
 go_wp2_with (first | ((with_reducible refine Xj (N := 4) rfl ?_); (try (refine Xw J63 ?_; dsimp only)); refine bxw 4 30 #[.int .i64 0, .slice none 0 0, .slice none 0 0, .slice none 0 0] ?_; intro gb242 hg w4 hbox hb; have BK242 := zq (hbox); have GW242 := zq ((J22 : w.heap.size ≤ gb242)); have GE242 := zq ((J22 : w.heap.size ≤ gb242)); replace HB := zq (Xe J0 hb); clear hb hbox hg) | ((with_reducible refine Xi (f := 34) rfl ?_); refine gL 12 Try.func34 #[.slice A0 l0.length c0] (Xae.calls _ _ l0 t243 _ (zc (ac HR0.out HB.out)) HC0.out A3.out) ?_; rintro e w5 ⟨v244, rfl, ho0, hb⟩; refine ⟨_, rfl, ?_⟩; have HO245 := zq (ag ho0 (Xc (zs1 GE242.out))); replace BK242 := zq (Xg (zk BK242.out) hb); replace HB := zq (Xe (zs1 GE242.out) hb); (try clear hb); (try clear hk); (try clear ho0); obtain ⟨Ao6, co6, eo6⟩ := ah HO245.out; subst eo6) | ((with_reducible refine Xj (N := 6) rfl ?_); (try (refine Xw J63 ?_; dsimp only)); refine bxw 6 30 #[.int .i64 0, .slice none 0 0, .slice none 0 0, .slice none 0 0] ?_; intro gb246 hg w7 hbox hb; replace HO245 := zq (ab (zr HO245.out) hb); have BK246 := zq (hbox); have GW246 := zq ((by rw [hg]; exact (Xc (zs1 GE242.out)) : w.heap.size ≤ gb246)); have GE246 := zq ((by rw [hg]; exact (Xc (zs1 GE242.out)) : w.heap.size ≤ gb246)); replace HB := zq (Xe (zs1 GE242.out) hb); have NB242_246 := zq ((by rw [hg]; exact Nat.ne_of_lt (Xbd (g := gb242) (o := .cells #[.int .i64 0, .slice none 0 0, .slice none 0 0, .slice none 0 0] 30 (0, 0)) (zk BK242.out)) : gb242 ≠ gb246)); have NB246_242 := zq ((by rw [hg]; exact Nat.ne_of_gt (Xbd (g := gb242) (o := .cells #[.int .i64 0, .slice none 0 0, .slice none 0 0, .slice none 0 0] 30 (0, 0)) (zk BK242.out)) : gb246 ≠ gb242)); replace BK242 := zq (Xg (zk BK242.out) hb); clear hb hbox hg; have hnb8 := NB246_242.out; have hnc8 := NB242_246.out; have Z9 := cz4 BK246.out))
 go_loopg [7, 16] k (fun kq v7 v16 w' => ∃ (x7_1 : List (S38)) (x16_1 : Int) (x243000_1 : Int) (x247002_1 : List Int) (u247002 : Value), v16 = .int .i64 x16_1 ∧ Aside0 (X7.l0 kq l0 l1 x7_1 l1 (l1.length : Int) x16_1 3 t243 x247002_1 = some (r1, r2, r3, r4, r5)) ∧ Aside0 (kq ≤ k) ∧ Aside0 (Kd.R k38 38 w' w.heap.size (fun _ => True) v7 x7_1) ∧ Aside0 (Kd.R (Kd.int .i64) 3 w' w.heap.size (fun k_ => some k_ ≠ (u247002 : Value).ownBlock) (.slice Ao6 t243.length co6) t243) ∧ Aside0 (Kd.R (Kd.int .i64) 3 w' w.heap.size (fun k_ => some k_ ≠ ((.slice Ao6 t243.length co6) : Value).ownBlock) u247002 x247002_1) ∧ Aside0 (w'.heap[gb242]? = some (.cells #[.int .i64 x243000_1, (.slice none 0 0), (.slice none 0 0), (.slice none 0 0)] 30 (0, 0))) ∧ Aside0 (w'.heap[gb246]? = some (.cells #[.int .i64 3, (.slice Ao6 t243.length co6), u247002, (.slice none 0 0)] 30 (0, 0))) ∧ Aside0 (Below w.heap.size w w'))
 case atStart => exact ⟨(([] : List (S38))), (0), (0), (([] : List Int)), (.slice none 0 0), J4, H', ⟨Nat.le_refl _⟩, ⟨J8⟩, ⟨by (with_reducible repeat (first | apply Kd.R_alloc | apply ai | apply ak)); exact af (fR4 (al HO245.out BK246.out J14)) (fun _ hk => J118)⟩, ⟨J8⟩, ⟨by (with_reducible repeat (first | refine Xd ?_ _ | refine Xf ?_ | refine Xb ?_ _)); refine Xab ?_ NB242_246.out _; (with_reducible repeat (first | refine Xd ?_ _ | refine Xf ?_ | refine Xb ?_ _)); refine Xab ?_ NB242_246.out _; (with_reducible repeat (first | refine Xd ?_ _ | refine Xf ?_ | refine Xb ?_ _)); refine Xab ?_ NB242_246.out _; (with_reducible repeat (first | refine Xd ?_ _ | refine Xf ?_ | refine Xb ?_ _)); refine Xab ?_ NB242_246.out _; (with_reducible repeat (first | refine Xd ?_ _ | refine Xf ?_ | refine Xb ?_ _)); exact BK242.out⟩, ⟨by (with_reducible repeat (first | refine Xd ?_ _ | refine Xf ?_ | refine Xb ?_ _)); refine Xk (cs := #[.int .i64 3, .slice Ao6 t243.length co6, .slice none 0 0, .slice none 0 0]) ?_ 3 _ rfl; (with_reducible repeat (first | refine Xd ?_ _ | refine Xf ?_ | refine Xb ?_ _)); refine Xk (cs := #[.int .i64 3, .slice Ao6 t243.length co6, .slice none 0 0, .slice none 0 0]) ?_ 2 _ rfl; (with_reducible repeat (first | refine Xd ?_ _ | refine Xf ?_ | refine Xb ?_ _)); refine Xk (cs := #[.int .i64 3, .slice none 0 0, .slice none 0 0, .slice none 0 0]) ?_ 1 _ rfl; (with_reducible repeat (first | refine Xd ?_ _ | refine Xf ?_ | refine Xb ?_ _)); refine Xk (cs := #[.int .i64 0, .slice none 0 0, .slice none 0 0, .slice none 0 0]) ?_ 0 _ rfl; (with_reducible repeat (first | refine Xd ?_ _ | refine Xf ?_ | refine Xb ?_ _)); exact BK246.out⟩, ⟨J57⟩⟩
 case round =>
  clear H'
  try clear c1
  try clear Z9
  obtain ⟨x7_1, x16_1, x243000_1, x247002_1, u247002, rfl, HA, HK1, HO_7, HO_247001, HO_247002, BK242, BK246, HB⟩ := hrel
  cases gk with
  | zero => exact absurd HA.out (by simp [X7.l0])
  | succ k1 =>
   have H := HA.out
   clear HA
   simp only [X7.l0] at H
   refine yd H ?_ ?_ <;> clear H <;> rintro c10b0 H
   ·refine yF H ?_ ?_ <;> clear H <;> rintro ⟨c48b0, c48b1, c48⟩ H
    ·have c48b2 : (x247002_1.length == l1.length) = true := by first | simpa using c48 | (simp at c48 ⊢; omega)
     clear c48
     refine yu H ?_ ?_ <;> clear H <;> rintro c49 H
     ·have c49b0 : decide (0 < (l1.length : Int)) = true := decide_eq_true c49
      have c49b1 : decide (0 < l1.length) = true := decide_eq_true J29
      clear c49
      obtain ⟨rfl, rfl, rfl, rfl, rfl⟩ := yp5 H
      have hnb50 := NB246_242.out
      have hnc50 := NB242_246.out
      have Z51 := cz4 BK246.out
      obtain ⟨Ao52, co52, eo52⟩ := ah HO_247002.out
      subst eo52
      have Z53 := cz4 BK242.out
      go_wp2
      refine bodyPost_ret (Xa6 rfl _ _ gb242 30 #[.int .i64 3, .slice Ao6 t243.length co6, .slice Ao52 x247002_1.length co52, .slice none 0 0] (0, 0) _ rfl (by (with_reducible repeat (first | refine Xd ?_ _ | refine Xf ?_ | refine Xb ?_ _)); refine Xk (cs := #[.int .i64 3, .slice Ao6 t243.length co6, .slice Ao52 x247002_1.length co52, .slice none 0 0]) ?_ 3 _ rfl; (with_reducible repeat (first | refine Xd ?_ _ | refine Xf ?_ | refine Xb ?_ _)); refine Xk (cs := #[.int .i64 3, .slice Ao6 t243.length co6, .slice none 0 0, .slice none 0 0]) ?_ 2 _ rfl; (with_reducible repeat (first | refine Xd ?_ _ | refine Xf ?_ | refine Xb ?_ _)); refine Xk (cs := #[.int .i64 3, .slice none 0 0, .slice none 0 0, .slice none 0 0]) ?_ 1 _ rfl; (with_reducible repeat (first | refine Xd ?_ _ | refine Xf ?_ | refine Xb ?_ _)); refine Xk (cs := #[.int .i64 x243000_1, .slice none 0 0, .slice none 0 0, .slice none 0 0]) ?_ 0 _ rfl; (with_reducible repeat (first | refine Xd ?_ _ | refine Xf ?_ | refine Xb ?_ _)); exact BK242.out) Try.underlying30 rfl J17) rfl ?_
      exact ⟨_, _, _, J1, by (with_reducible repeat (first | apply Kd.R_alloc | apply ai | apply ak)); exact af (fR4 (al HO_247001.out BK242.out J14)) (fun _ hk => hk.1), by (with_reducible repeat (first | apply Kd.R_alloc | apply ai | apply ak)); exact af (fR4 (al HO_247002.out BK242.out J14)) (fun _ hk => hk.1), J8, J57⟩
     ·have c49b0 : decide (0 < (l1.length : Int)) = false := decide_eq_false c49
      have c49b1 : decide (0 < l1.length) = false := decide_eq_false J29
      clear c49
      refine yv H ?_; clear H; rintro ⟨t247, t248, t251, t254, t257⟩ A54 H
      dsimp only at H
      obtain ⟨rfl, rfl, rfl, rfl, rfl⟩ := yp5 H
      have hnb55 := NB246_242.out
      have hnc55 := NB242_246.out
      have Z56 := cz4 BK246.out
      obtain ⟨Ao57, co57, eo57⟩ := ah HO_247002.out
      subst eo57
      obtain ⟨Ao58, co58, eo58⟩ := ah HO_7.out
      subst eo58
      go_wp2_with (first | ((with_reducible refine Xi (f := 13) rfl ?_); refine gL 63 Try.func13 #[.slice A0 l0.length c0, .slice Ao58 x7_1.length co58] (X2.calls k1 _ _ l0 _ _ x7_1 t247 t248 t251 t254 t257 _ (zc (ac HR0.out HB.out)) HC0.out (zc ((an HO_7.out).2.2)) ((an HO_7.out).2.1) A54.out) ?_; rintro e w59 ⟨v249, v252, v255, rfl, ho0, ho1, ho2, hb⟩; refine ⟨_, rfl, ?_⟩; have HO250 := zq (ag (aW (aW ho0 (aY (zr HO_247001.out))) (aY (zr HO_247002.out))) (Xc (zs2 GE242.out GE246.out))); have HO253 := zq (ag (aW (aW ho1 (aY (zr HO_247001.out))) (aY (zr HO_247002.out))) (Xc (zs2 GE242.out GE246.out))); replace HO_247001 := zq (af (bd (bd (bv (zr HO_247001.out) hb) (aa ho0)) (aa ho1)) (fun _ h_ => h_.1)); replace HO_247002 := zq (af (bd (bd (bv (zr HO_247002.out) hb) (aa ho0)) (aa ho1)) (fun _ h_ => h_.1)); have HO256 := zq (ag (aW ho2 (aY (zr HO_7.out))) (Xc (zs2 GE242.out GE246.out))); replace HO_7 := zq (ay (zr HO_7.out) (aa ho2) hb); replace BK242 := zq (Xg (zk BK242.out) hb); replace BK246 := zq (Xg (zk BK246.out) hb); replace HB := zq (Xe (zs2 GE242.out GE246.out) hb); (try clear hb); (try clear hk); (try clear ho0); (try clear ho1); (try clear ho2); have Z60 := cz4 BK242.out; obtain ⟨Ao61, co61, eo61⟩ := ah HO250.out; subst eo61; obtain ⟨Ao62, co62, eo62⟩ := ah HO253.out; subst eo62; obtain ⟨Ao63, co63, eo63⟩ := ah HO256.out; subst eo63))
      refine bodyPost_ret (Xa6 rfl _ _ gb242 30 #[.int .i64 t247, .slice Ao61 t248.length co61, .slice Ao62 t251.length co62, .slice Ao63 t254.length co63] (0, 0) _ rfl (by (with_reducible repeat (first | refine Xd ?_ _ | refine Xf ?_ | refine Xb ?_ _)); refine Xk (cs := #[.int .i64 t247, .slice Ao61 t248.length co61, .slice Ao62 t251.length co62, .slice none 0 0]) ?_ 3 _ rfl; (with_reducible repeat (first | refine Xd ?_ _ | refine Xf ?_ | refine Xb ?_ _)); refine Xk (cs := #[.int .i64 t247, .slice Ao61 t248.length co61, .slice none 0 0, .slice none 0 0]) ?_ 2 _ rfl; (with_reducible repeat (first | refine Xd ?_ _ | refine Xf ?_ | refine Xb ?_ _)); refine Xk (cs := #[.int .i64 t247, .slice none 0 0, .slice none 0 0, .slice none 0 0]) ?_ 1 _ rfl; (with_reducible repeat (first | refine Xd ?_ _ | refine Xf ?_ | refine Xb ?_ _)); refine Xk (cs := #[.int .i64 x243000_1, .slice none 0 0, .slice none 0 0, .slice none 0 0]) ?_ 0 _ rfl; (with_reducible repeat (first | refine Xd ?_ _ | refine Xf ?_ | refine Xb ?_ _)); exact BK242.out) Try.underlying30 rfl J17) rfl ?_
      exact ⟨_, _, _, J1, by (with_reducible repeat (first | apply Kd.R_alloc | apply ai | apply ak)); exact af (fR4 (al HO250.out BK242.out J14)) (fun _ hk => hk.1.1.1), by (with_reducible repeat (first | apply Kd.R_alloc | apply ai | apply ak)); exact af (fR4 (al HO253.out BK242.out J14)) (fun _ hk => hk.1.1.1), by (with_reducible repeat (first | apply Kd.R_alloc | apply ai | apply ak)); exact af (fR4 (al HO256.out BK242.out J14)) (fun _ hk => trivial), J57⟩
    ·have c48b2 : (x247002_1.length == l1.length) = false := by first | simpa using c48 | (simp at c48 ⊢; omega)
     refine yv H ?_; clear H; rintro ⟨t258, t259, t262, t265, t268⟩ A64 H
     dsimp only at H
     obtain ⟨rfl, rfl, rfl, rfl, rfl⟩ := yp5 H
     have hnb65 := NB246_242.out
     have hnc65 := NB242_246.out
     have Z66 := cz4 BK246.out
     obtain ⟨Ao67, co67, eo67⟩ := ah HO_247002.out
     subst eo67
     obtain ⟨Ao68, co68, eo68⟩ := ah HO_7.out
     subst eo68
     go_wp2_with (first | ((with_reducible refine Xi (f := 13) rfl ?_); refine gL 63 Try.func13 #[.slice A0 l0.length c0, .slice Ao68 x7_1.length co68] (X2.calls k1 _ _ l0 _ _ x7_1 t258 t259 t262 t265 t268 _ (zc (ac HR0.out HB.out)) HC0.out (zc ((an HO_7.out).2.2)) ((an HO_7.out).2.1) A64.out) ?_; rintro e w69 ⟨v260, v263, v266, rfl, ho0, ho1, ho2, hb⟩; refine ⟨_, rfl, ?_⟩; have HO261 := zq (ag (aW (aW ho0 (aY (zr HO_247001.out))) (aY (zr HO_247002.out))) (Xc (zs2 GE242.out GE246.out))); have HO264 := zq (ag (aW (aW ho1 (aY (zr HO_247001.out))) (aY (zr HO_247002.out))) (Xc (zs2 GE242.out GE246.out))); have HO267 := zq (ag (aW ho2 (aY (zr HO_7.out))) (Xc (zs2 GE242.out GE246.out))); replace BK242 := zq (Xg (zk BK242.out) hb); replace HB := zq (Xe (zs2 GE242.out GE246.out) hb); (try clear hb); (try clear hk); (try clear ho0); (try clear ho1); (try clear ho2); have Z70 := cz4 BK242.out; obtain ⟨Ao71, co71, eo71⟩ := ah HO261.out; subst eo71; obtain ⟨Ao72, co72, eo72⟩ := ah HO264.out; subst eo72; obtain ⟨Ao73, co73, eo73⟩ := ah HO267.out; subst eo73))
     refine bodyPost_ret (Xa6 rfl _ _ gb242 30 #[.int .i64 t258, .slice Ao71 t259.length co71, .slice Ao72 t262.length co72, .slice Ao73 t265.length co73] (0, 0) _ rfl (by (with_reducible repeat (first | refine Xd ?_ _ | refine Xf ?_ | refine Xb ?_ _)); refine Xk (cs := #[.int .i64 t258, .slice Ao71 t259.length co71, .slice Ao72 t262.length co72, .slice none 0 0]) ?_ 3 _ rfl; (with_reducible repeat (first | refine Xd ?_ _ | refine Xf ?_ | refine Xb ?_ _)); refine Xk (cs := #[.int .i64 t258, .slice Ao71 t259.length co71, .slice none 0 0, .slice none 0 0]) ?_ 2 _ rfl; (with_reducible repeat (first | refine Xd ?_ _ | refine Xf ?_ | refine Xb ?_ _)); refine Xk (cs := #[.int .i64 t258, .slice none 0 0, .slice none 0 0, .slice none 0 0]) ?_ 1 _ rfl; (with_reducible repeat (first | refine Xd ?_ _ | refine Xf ?_ | refine Xb ?_ _)); refine Xk (cs := #[.int .i64 x243000_1, .slice none 0 0, .slice none 0 0, .slice none 0 0]) ?_ 0 _ rfl; (with_reducible repeat (first | refine Xd ?_ _ | refine Xf ?_ | refine Xb ?_ _)); exact BK242.out) Try.underlying30 rfl J17) rfl ?_
     exact ⟨_, _, _, J1, by (with_reducible repeat (first | apply Kd.R_alloc | apply ai | apply ak)); exact af (fR4 (al HO261.out BK242.out J14)) (fun _ hk => hk.1.1.1), by (with_reducible repeat (first | apply Kd.R_alloc | apply ai | apply ak)); exact af (fR4 (al HO264.out BK242.out J14)) (fun _ hk => hk.1.1.1), by (with_reducible repeat (first | apply Kd.R_alloc | apply ai | apply ak)); exact af (fR4 (al HO267.out BK242.out J14)) (fun _ hk => trivial), J57⟩
   refine yj H ?_; clear H; intro c11b0 H
   refine yj H ?_; clear H; intro c12b0 H
   refine yi H ?_; clear H; intro c13 H
   have c13b0 := decide_eq_true c13
   have c13b1 : decide (0 < (Xa5 l1 x16_1).length) = true := decide_eq_true J29
   clear c13
   have HC14 := zq H
   clear H
   have p269 : 0 ≤ (x16_1 : Int) := of_decide_eq_true J2
   have q269 : x16_1 < (l1.length : Int) := of_decide_eq_true J2
   obtain ⟨ad269, A269_0, c269_0, e269, hx269_0, hl269_0, hi269_0⟩ := at_L5 HR1.out x16_1 p269 q269
   cases e269
   replace hx269_0 := yh HB hx269_0
   have HR269_0 := zq hi269_0
   have HC269_0 := zq hl269_0
   clear hi269_0 hl269_0
   replace p269 := eq_true p269
   replace q269 := eq_true q269
   have p270 : 0 ≤ (0 : Int) := J29
   have q270 : 0 < ((Xa5 l1 x16_1).length : Int) := of_decide_eq_true J2
   obtain ⟨ad270, A270_1, c270_1, A270_2, c270_2, A270_3, c270_3, e270, hx270_0, hx270_1, hx270_2, hx270_3, hl270_1, hi270_1, hl270_2, hi270_2, hl270_3, hi270_3⟩ := Xb4 HR269_0.out 0 p270 q270
   cases e270
   have qi270 : (0 < (Xa5 l1 x16_1).length) = True := eq_true J29
   (try rw [show ((0 : Int)).toNat = 0 from rfl] at hx270_0)
   (try rw [show 0 * 4 = 0 from rfl] at hx270_0)
   (try rw [Addr.add_zero'] at hx270_0)
   (try rw [show ((0 : Int)).toNat = 0 from rfl] at hx270_1)
   (try rw [show 0 * 4 = 0 from rfl] at hx270_1)
   (try rw [Addr.add_zero'] at hx270_1)
   (try rw [show ((0 : Int)).toNat = 0 from rfl] at hx270_2)
   (try rw [show 0 * 4 = 0 from rfl] at hx270_2)
   (try rw [Addr.add_zero'] at hx270_2)
   (try rw [show ((0 : Int)).toNat = 0 from rfl] at hx270_3)
   (try rw [show 0 * 4 = 0 from rfl] at hx270_3)
   (try rw [Addr.add_zero'] at hx270_3)
   replace hx270_0 := yh HB hx270_0
   replace hx270_1 := yh HB hx270_1
   replace hx270_2 := yh HB hx270_2
   replace hx270_3 := yh HB hx270_3
   have HR270_1 := zq hi270_1
   have HC270_1 := zq hl270_1
   clear hi270_1 hl270_1
   have HR270_2 := zq hi270_2
   have HC270_2 := zq hl270_2
   clear hi270_2 hl270_2
   have HR270_3 := zq hi270_3
   have HC270_3 := zq hl270_3
   clear hi270_3 hl270_3
   replace p270 := eq_true p270
   replace q270 := eq_true q270
   go_upto_region 8 with (first | ((with_reducible refine Xj (N := 10) rfl ?_); (try (refine Xw J63 ?_; dsimp only)); refine bxw 10 30 #[.int .i64 0, .slice none 0 0, .slice none 0 0, .slice none 0 0] ?_; intro gb271 hg w15 hbox hb; replace HO_7 := zq (ab (zr HO_7.out) hb); replace HO_247001 := zq (ab (zr HO_247001.out) hb); replace HO_247002 := zq (ab (zr HO_247002.out) hb); have BK271 := zq (hbox); have GW271 := zq ((by rw [hg]; exact (Xc (zs2 GE242.out GE246.out)) : w.heap.size ≤ gb271)); have GE271 := zq ((by rw [hg]; exact (Xc (zs2 GE242.out GE246.out)) : w.heap.size ≤ gb271)); replace HB := zq (Xe (zs2 GE242.out GE246.out) hb); have NB242_271 := zq ((by rw [hg]; exact Nat.ne_of_lt (Xbd (g := gb242) (o := .cells #[.int .i64 x243000_1, .slice none 0 0, .slice none 0 0, .slice none 0 0] 30 (0, 0)) (zk BK242.out)) : gb242 ≠ gb271)); have NB271_242 := zq ((by rw [hg]; exact Nat.ne_of_gt (Xbd (g := gb242) (o := .cells #[.int .i64 x243000_1, .slice none 0 0, .slice none 0 0, .slice none 0 0] 30 (0, 0)) (zk BK242.out)) : gb271 ≠ gb242)); replace BK242 := zq (Xg (zk BK242.out) hb); have NB246_271 := zq ((by rw [hg]; exact Nat.ne_of_lt (Xbd (g := gb246) (o := .cells #[.int .i64 3, .slice Ao6 t243.length co6, u247002, .slice none 0 0] 30 (0, 0)) (zk BK246.out)) : gb246 ≠ gb271)); have NB271_246 := zq ((by rw [hg]; exact Nat.ne_of_gt (Xbd (g := gb246) (o := .cells #[.int .i64 3, .slice Ao6 t243.length co6, u247002, .slice none 0 0] 30 (0, 0)) (zk BK246.out)) : gb271 ≠ gb246)); replace BK246 := zq (Xg (zk BK246.out) hb); clear hb hbox hg; have hnb16 := NB271_242.out; have hnc16 := NB242_271.out; have hnb17 := NB271_246.out; have hnc17 := NB246_271.out; have Z18 := cz4 BK271.out))
   (try simp only [Act.put, List.setIfInBounds_toArray, List.set_cons_zero, List.set_cons_succ])
   go_cut [27] (fun v27 wc => ∃ (kq : Nat) (x27_13 : Bool), v27 = .bool x27_13 ∧ Aside0 (X7.j1 kq l0 l1 x7_1 l1 (l1.length : Int) x16_1 x27_13 3 t243 x247002_1 ((Xa (Xa5 l1 x16_1) 0).f0) ((Xa (Xa5 l1 x16_1) 0).f1) ((Xa (Xa5 l1 x16_1) 0).f2) ((Xa (Xa5 l1 x16_1) 0).f3) = some (r1, r2, r3, r4, r5)) ∧ Aside0 (kq ≤ k1) ∧ Aside0 (Kd.R k38 38 wc w.heap.size (fun _ => True) u7 x7_1) ∧ Aside0 (Kd.R (Kd.int .i64) 3 wc w.heap.size (fun k_ => some k_ ≠ (u247002 : Value).ownBlock) (.slice Ao6 t243.length co6) t243) ∧ Aside0 (Kd.R (Kd.int .i64) 3 wc w.heap.size (fun k_ => some k_ ≠ ((.slice Ao6 t243.length co6) : Value).ownBlock) u247002 x247002_1) ∧ Aside0 (wc.heap[gb242]? = some (.cells #[.int .i64 x243000_1, (.slice none 0 0), (.slice none 0 0), (.slice none 0 0)] 30 (0, 0))) ∧ Aside0 (wc.heap[gb246]? = some (.cells #[.int .i64 3, (.slice Ao6 t243.length co6), u247002, (.slice none 0 0)] 30 (0, 0))) ∧ Aside0 (wc.heap[gb271]? = some (.cells #[.int .i64 ((Xa (Xa5 l1 x16_1) 0).f0), (.slice A270_1 ((Xa (Xa5 l1 x16_1) 0).f1).length c270_1), (.slice A270_2 ((Xa (Xa5 l1 x16_1) 0).f2).length c270_2), (.slice A270_3 ((Xa (Xa5 l1 x16_1) 0).f3).length c270_3)] 30 (0, 0))) ∧ Aside0 (Below w.heap.size w wc))
   case first =>
    have H := HC14.out
    clear HC14
    refine yt H ?_ ?_ <;> clear H <;> rintro c19 H
    ·have c19b0 : decide (0 < (((Xa (Xa5 l1 x16_1) 0).f1).length : Int)) = false := decide_eq_false c19
     have c19b1 : decide (0 < ((Xa (Xa5 l1 x16_1) 0).f1).length) = false := decide_eq_false J29
     clear c19
     (first | rw [c19b0] | (simp only [Xan, Xaq]; rw [c19b0]) | skip)
     have H' := zq H
     clear H
     have hnb23 := NB271_242.out
     have hnc23 := NB242_271.out
     have hnb24 := NB271_246.out
     have hnc24 := NB246_271.out
     have Z25 := cz4 BK271.out
     go_wp2
     go_meet
     case rel => exact ⟨_, ((((Xa (Xa5 l1 x16_1) 0).f0) == 5)), J4, H', ⟨J85⟩, ⟨J135⟩, ⟨J133⟩, ⟨J134⟩, ⟨J52⟩, ⟨J53⟩, ⟨J30⟩, ⟨J39⟩⟩
    have c19b0 := decide_eq_true c19
    have c19b1 : decide (0 < ((Xa (Xa5 l1 x16_1) 0).f1).length) = true := decide_eq_true J29
    clear c19
    (first | rw [c19b0] | (simp only [Xan, Xaq]; rw [c19b0]) | skip)
    have H' := zq H
    clear H
    have hnb20 := NB271_242.out
    have hnc20 := NB242_271.out
    have hnb21 := NB271_246.out
    have hnc21 := NB246_271.out
    have Z22 := cz4 BK271.out
    go_wp2
    go_meet
    case rel => exact ⟨_, (true), J4, H', ⟨J85⟩, ⟨J135⟩, ⟨J133⟩, ⟨J134⟩, ⟨J52⟩, ⟨J53⟩, ⟨J30⟩, ⟨J39⟩⟩
   case rest =>
    clear HC14
    try clear c1
    try clear c10b0
    try clear c11b0
    try clear c12b0
    try clear c13
    try clear c13b0
    try clear c13b1
    try clear Z18
    try clear Z9
    try clear hx269_0
    try clear hx270_0
    try clear hx270_1
    try clear hx270_2
    try clear hx270_3
    try clear p269
    try clear p270
    try clear q269
    try clear q270
    obtain ⟨kq, x27_13, rfl, HA, HJ13, HO_7, HO_247001, HO_247002, BK242, BK246, BK271, HB⟩ := hcut
    cases kq with
    | zero => exact absurd HA.out (by simp [X7.j1])
    | succ kj13 =>
     have H := HA.out
     clear HA
     simp only [X7.j1] at H
     refine yC H ?_ ?_ <;> clear H <;> rintro rfl H
     ·obtain ⟨rfl, rfl, rfl, rfl, rfl⟩ := yp5 H
      have hnb27 := NB242_246.out
      have hnc27 := NB246_242.out
      have hnb28 := NB242_271.out
      have hnc28 := NB271_242.out
      have Z29 := cz4 BK242.out
      go_wp2
      refine bodyPost_ret (Xa6 rfl _ _ gb242 30 #[.int .i64 0, .slice none 0 0, .slice none 0 0, .slice none 0 0] (0, 0) _ rfl (by (with_reducible repeat (first | refine Xd ?_ _ | refine Xf ?_ | refine Xb ?_ _)); refine Xk (cs := #[.int .i64 0, .slice none 0 0, .slice none 0 0, .slice none 0 0]) ?_ 3 _ rfl; (with_reducible repeat (first | refine Xd ?_ _ | refine Xf ?_ | refine Xb ?_ _)); refine Xk (cs := #[.int .i64 0, .slice none 0 0, .slice none 0 0, .slice none 0 0]) ?_ 2 _ rfl; (with_reducible repeat (first | refine Xd ?_ _ | refine Xf ?_ | refine Xb ?_ _)); refine Xk (cs := #[.int .i64 0, .slice none 0 0, .slice none 0 0, .slice none 0 0]) ?_ 1 _ rfl; (with_reducible repeat (first | refine Xd ?_ _ | refine Xf ?_ | refine Xb ?_ _)); refine Xk (cs := #[.int .i64 x243000_1, .slice none 0 0, .slice none 0 0, .slice none 0 0]) ?_ 0 _ rfl; (with_reducible repeat (first | refine Xd ?_ _ | refine Xf ?_ | refine Xb ?_ _)); exact BK242.out) Try.underlying30 rfl J17) rfl ?_
      exact ⟨_, _, _, J1, J8, J8, J8, J39⟩
     refine yE H ?_ ?_ <;> clear H <;> rintro ⟨c30b0, c30b1, c30⟩ H
     ·refine yv H ?_; clear H; rintro t275 A40 H
      refine yu H ?_ ?_ <;> clear H <;> rintro c41 H
      ·have LMc41 := zq c41
       clear c41
       obtain ⟨y278, hy278⟩ : ∃ y_ : List (S38), y_ = (x7_1 ++ t275) := ⟨_, rfl⟩
       replace H : (X7.l0 kj13 l0 l1 y278 l1 (l1.length : Int) (wrap64 (x16_1 + 1)) 3 t243 x247002_1) = some (r1, r2, r3, r4, r5) := by first | (rw [hy278]; with_reducible exact H) | (have H2_ := (Option.bind_some _ _).symm.trans H; rw [hy278]; with_reducible exact H2_) | (have H2_ := (Option.bind_some _ _).symm.trans H; with_reducible exact H2_) | with_reducible exact H | (rw [hy278]; exact H) | exact H
       have Ny278 := zq hy278
       clear hy278
       have H' := zq H
       clear H
       have hnb42 := NB271_242.out
       have hnc42 := NB242_271.out
       have hnb43 := NB271_246.out
       have hnc43 := NB246_271.out
       have Z44 := cz4 BK271.out
       go_wp2_with (first | ((with_reducible refine Xi (f := 51) rfl ?_); refine gL 25 Try.func51 #[.agg #[.int .i64 ((Xa (Xa5 l1 x16_1) 0).f0), .slice A270_1 ((Xa (Xa5 l1 x16_1) 0).f1).length c270_1, .slice A270_2 ((Xa (Xa5 l1 x16_1) 0).f2).length c270_2, .slice A270_3 ((Xa (Xa5 l1 x16_1) 0).f3).length c270_3]] (Xad.calls kj13 ((Xa (Xa5 l1 x16_1) 0).f0) _ _ ((Xa (Xa5 l1 x16_1) 0).f1) _ _ ((Xa (Xa5 l1 x16_1) 0).f2) (fun k_ => k_ < w.heap.size) _ _ ((Xa (Xa5 l1 x16_1) 0).f3) t275 _ (zc (ac HR270_1.out HB.out)) HC270_1.out (zc (ac HR270_2.out HB.out)) HC270_2.out (be HC270_3.out (bu (Kd.C_F k38_heap HR270_3.out) (zs3 GE242.out GE246.out GE271.out))) A40.out) ?_; rintro e w45 ⟨v276, rfl, ho0, hb⟩; refine ⟨_, rfl, ?_⟩; have HO277 := zq (bD (aj (ok' := fun k_ => some k_ ≠ (u7 : Value).ownBlock ∧ some k_ ≠ (.slice Ao6 t243.length co6 : Value).ownBlock ∧ some k_ ≠ (u247002 : Value).ownBlock ∧ k_ ≠ gb242 ∧ k_ ≠ gb246 ∧ k_ ≠ gb271) ho0 (fun k_ hk_ => ⟨Or.elim hk_ (fun hs_ => fun e_ => Nat.not_le.2 hs_ (aa HO_7.out k_ e_.symm)) (fun hn_ => (Kd.fresh' (aY (zr HO_7.out)) k_ hn_)), Or.elim hk_ (fun hs_ => fun e_ => Nat.not_le.2 hs_ (aa HO_247001.out k_ e_.symm)) (fun hn_ => (Kd.fresh' (aY (zr HO_247001.out)) k_ hn_)), Or.elim hk_ (fun hs_ => fun e_ => Nat.not_le.2 hs_ (aa HO_247002.out k_ e_.symm)) (fun hn_ => (Kd.fresh' (aY (zr HO_247002.out)) k_ hn_)), Or.elim hk_ (fun hs_ => fun e_ => Nat.not_le.2 hs_ (by rw [e_]; exact GW242.out)) (fun hn_ => (Kd.freshB (g := gb242) (o := .cells #[.int .i64 x243000_1, .slice none 0 0, .slice none 0 0, .slice none 0 0] 30 (0, 0)) (zk BK242.out) k_ hn_)), Or.elim hk_ (fun hs_ => fun e_ => Nat.not_le.2 hs_ (by rw [e_]; exact GW246.out)) (fun hn_ => (Kd.freshB (g := gb246) (o := .cells #[.int .i64 3, .slice Ao6 t243.length co6, u247002, .slice none 0 0] 30 (0, 0)) (zk BK246.out) k_ hn_)), Or.elim hk_ (fun hs_ => fun e_ => Nat.not_le.2 hs_ (by rw [e_]; exact GW271.out)) (fun hn_ => (Kd.freshB (g := gb271) (o := .cells #[.int .i64 ((Xa (Xa5 l1 x16_1) 0).f0), .slice A270_1 ((Xa (Xa5 l1 x16_1) 0).f1).length c270_1, .slice A270_2 ((Xa (Xa5 l1 x16_1) 0).f2).length c270_2, .slice A270_3 ((Xa (Xa5 l1 x16_1) 0).f3).length c270_3] 30 (0, 0)) (zk BK271.out) k_ hn_))⟩)) (Xc (zs3 GE242.out GE246.out GE271.out))); replace HO_7 := zq (ab (zr HO_7.out) hb); replace HO_247001 := zq (ab (zr HO_247001.out) hb); replace HO_247002 := zq (ab (zr HO_247002.out) hb); replace BK242 := zq (Xg (zk BK242.out) hb); replace BK246 := zq (Xg (zk BK246.out) hb); replace HB := zq (Xe (zs3 GE242.out GE246.out GE271.out) hb); (try clear hb); (try clear hk); (try clear ho0); obtain ⟨Ao47, co47, eo47⟩ := bn HO277.out; subst eo47) | ((with_reducible refine Xa0 (b := .append) (xs := #[.tmp 23, .tmp 25]) rfl ?_); (try (refine Xw J63 ?_; dsimp only)); at_builtin; refine aI k38 (w0 := w) w.heap.size rfl (.tmp 23) (.tmp 25) 24 38 (.agg #[(.int .i64 0), (.int .i64 0)]) 16 rfl Try.underlying24 Xdo rfl J14 J29 u7 x7_1 t275 _ _ _ (fun _ => True) (fun _ => False) rfl rfl ?aO ?aR (fun _ _ h => h) (fun _ h => h.elim) ?aF ?aB ?aS ?aL ?_; (case aR => repeat (first | exact (av HO277.out).2.2 | (with_reducible refine Kd.C_alloc ?_ _) | (with_reducible refine au ?_ _) | (with_reducible refine Kd.C_drew ?_))); (case aB => exact (zs3 GE242.out GE246.out GE271.out)); (case aF => exact (fun _ _ => trivial)); (case aO => exact (zr HO_7.out)); (case aS => exact (Xc (zs3 GE242.out GE246.out GE271.out))); (case aL => have := LMc41.out; omega); intro v279 w46 ho hb hg hat; rw [← Ny278.out] at ho; replace HO_247001 := zq (a9 (zr HO_247001.out) (aK (zr HO_7.out)) J14 hg); replace HO_247002 := zq (a9 (zr HO_247002.out) (aK (zr HO_7.out)) J14 hg); replace BK242 := zq (Xa9 (g := gb242) (o := .cells #[.int .i64 x243000_1, .slice none 0 0, .slice none 0 0, .slice none 0 0] 30 (0, 0)) (zk BK242.out) hg (bk HO_7.out BK242.out J14)); replace BK246 := zq (Xa9 (g := gb246) (o := .cells #[.int .i64 3, .slice Ao6 t243.length co6, u247002, .slice none 0 0] 30 (0, 0)) (zk BK246.out) hg (bk HO_7.out BK246.out J14)); replace HB := zq (hb); have HO280 := zq (ho); clear HO_7; clear ho hb hg hat))
       go_roundg kj13
       case measure => have := HK1.out; have := HJ13.out; omega
       case rel => exact ⟨(y278), (wrap64 (x16_1 + 1)), (x243000_1), (x247002_1), (u247002), J4, H', ⟨by have := HK1.out; have := HJ13.out; omega⟩, ⟨by (with_reducible repeat (first | apply Kd.R_alloc | apply ai | apply ak)); exact HO280.out⟩, ⟨by (with_reducible repeat (first | apply Kd.R_alloc | apply ai | apply ak)); exact HO_247001.out⟩, ⟨by (with_reducible repeat (first | apply Kd.R_alloc | apply ai | apply ak)); exact HO_247002.out⟩, ⟨by (with_reducible repeat (first | refine Xd ?_ _ | refine Xf ?_ | refine Xb ?_ _)); exact BK242.out⟩, ⟨by (with_reducible repeat (first | refine Xd ?_ _ | refine Xf ?_ | refine Xb ?_ _)); exact BK246.out⟩, ⟨J39⟩⟩
      ·exact absurd H J83
     clear c30
     refine yi H ?_; clear H; intro c31 H
     have LMc31 := zq c31
     clear c31
     obtain ⟨y272, hy272⟩ : ∃ y_ : List Int, y_ = (x247002_1 ++ ((Xa (Xa5 l1 x16_1) 0).f2)) := ⟨_, rfl⟩
     replace H : (X7.l0 kj13 l0 l1 x7_1 l1 (l1.length : Int) (wrap64 (x16_1 + 1)) 3 t243 y272) = some (r1, r2, r3, r4, r5) := by first | (rw [hy272]; with_reducible exact H) | (have H2_ := (Option.bind_some _ _).symm.trans H; rw [hy272]; with_reducible exact H2_) | (have H2_ := (Option.bind_some _ _).symm.trans H; with_reducible exact H2_) | with_reducible exact H | (rw [hy272]; exact H) | exact H
     have Ny272 := zq hy272
     clear hy272
     have H' := zq H
     clear H
     have hnb32 := NB271_242.out
     have hnc32 := NB242_271.out
     have hnb33 := NB271_246.out
     have hnc33 := NB246_271.out
     have Z34 := cz4 BK271.out
     have hnb35 := NB246_242.out
     have hnc35 := NB242_246.out
     have Z36 := cz4 BK246.out
     go_wp2_with (first | ((with_reducible refine Xa0 (b := .append) (xs := #[.tmp 43, .tmp 45]) rfl ?_); (try (refine Xw J63 ?_; dsimp only)); at_builtin; refine aI (Kd.int .i64) (w0 := w) w.heap.size rfl (.tmp 43) (.tmp 45) 23 3 (.int .i64 0) 8 rfl Try.underlying23 Xcm rfl J14 J29 u247002 x247002_1 ((Xa (Xa5 l1 x16_1) 0).f2) _ _ _ (fun k_ => some k_ ≠ (.slice Ao6 t243.length co6 : Value).ownBlock) (fun _ => False) rfl rfl ?aO ?aR (fun _ _ h => h) (fun _ h => h.elim) ?aF ?aB ?aS ?aL ?_; (case aR => repeat (first | exact (ac HR270_2.out HB.out) | (with_reducible refine Kd.C_alloc ?_ _) | (with_reducible refine au ?_ _) | (with_reducible refine Kd.C_drew ?_))); (case aB => exact (zs3 GE242.out GE246.out GE271.out)); (case aF => exact (fun k_ hk => Kd.fresh' (aY (zr HO_247001.out)) k_ hk)); (case aO => exact (zr HO_247002.out)); (case aS => exact (Xc (zs3 GE242.out GE246.out GE271.out))); (case aL => have := LMc31.out; omega); intro v273 w37 ho hb hg hat; rw [← Ny272.out] at ho; replace HO_7 := zq (a9 (zr HO_7.out) (aK (zr HO_247002.out)) J14 hg); replace HO_247001 := zq (bo (ok := (fun _ => True)) (by (with_reducible repeat (first | apply Kd.R_alloc | apply ai | apply ak)); exact af HO_247001.out (fun _ hk => ⟨trivial, hk⟩)) hg hat); replace BK242 := zq (Xa9 (g := gb242) (o := .cells #[.int .i64 x243000_1, .slice none 0 0, .slice none 0 0, .slice none 0 0] 30 (0, 0)) (zk BK242.out) hg (bk HO_247002.out BK242.out J14)); replace BK246 := zq (Xa9 (g := gb246) (o := .cells #[.int .i64 3, .slice Ao6 t243.length co6, u247002, .slice none 0 0] 30 (0, 0)) (zk BK246.out) hg (bk HO_247002.out BK246.out J14)); replace BK271 := zq (Xa9 (g := gb271) (o := .cells #[.int .i64 ((Xa (Xa5 l1 x16_1) 0).f0), .slice A270_1 ((Xa (Xa5 l1 x16_1) 0).f1).length c270_1, .slice A270_2 ((Xa (Xa5 l1 x16_1) 0).f2).length c270_2, .slice A270_3 ((Xa (Xa5 l1 x16_1) 0).f3).length c270_3] 30 (0, 0)) (zk BK271.out) hg (bk HO_247002.out BK271.out J14)); replace HB := zq (hb); have HO274 := zq (ho); clear HO_247002; clear ho hb hg hat; obtain ⟨Ao38, co38, eo38⟩ := ah HO274.out; subst eo38; have Z39 := cz4 BK246.out))
     go_roundg kj13
     case measure => have := HK1.out; have := HJ13.out; omega
     case rel => exact ⟨(x7_1), (wrap64 (x16_1 + 1)), (x243000_1), (y272), (.slice Ao38 y272.length co38), J4, H', ⟨by have := HK1.out; have := HJ13.out; omega⟩, ⟨by (with_reducible repeat (first | apply Kd.R_alloc | apply ai | apply ak)); exact af (aX (p := ⟨gb246, 2, none⟩) (al HO_7.out BK246.out J14) (fun _ hk => hk.2) (.slice Ao38 y272.length co38)) (fun _ hk => trivial)⟩, ⟨by (with_reducible repeat (first | apply Kd.R_alloc | apply ai | apply ak)); exact af (aX (p := ⟨gb246, 2, none⟩) (al HO_247001.out BK246.out J14) (fun _ hk => hk.2) (.slice Ao38 y272.length co38)) (fun _ hk => hk.1.2)⟩, ⟨by (with_reducible repeat (first | apply Kd.R_alloc | apply ai | apply ak)); exact af (aX (p := ⟨gb246, 2, none⟩) (al HO274.out BK246.out J14) (fun _ hk => hk.2) (.slice Ao38 y272.length co38)) (fun _ hk => hk.1)⟩, ⟨by (with_reducible repeat (first | refine Xd ?_ _ | refine Xf ?_ | refine Xb ?_ _)); refine Xab ?_ NB242_246.out _; (with_reducible repeat (first | refine Xd ?_ _ | refine Xf ?_ | refine Xb ?_ _)); exact BK242.out⟩, ⟨by (with_reducible repeat (first | refine Xd ?_ _ | refine Xf ?_ | refine Xb ?_ _)); refine Xk (cs := #[.int .i64 3, .slice Ao6 t243.length co6, u247002, .slice none 0 0]) ?_ 2 _ rfl; (with_reducible repeat (first | refine Xd ?_ _ | refine Xf ?_ | refine Xb ?_ _)); exact BK246.out⟩, ⟨J39⟩⟩
end Go.Proofs.Ytecdklheppcihaa.HTightTells
