/- What the Go functions of this claim answer, told as functions of numbers and lists, and that other memory stays as it was: words and walks, shortened by a program. -/
import Derived.Test.YtfjhiiaahbjaiaaDoorSSystemFirstx0
import Derived.Test.YtfjhiiaahbjaiaaDoorSSystemFirstx2
import Derived.Test.YtfjhiiaahbjaiaaDoorSSystemFirstx4
namespace Go.Proofs.YtfjhiiaahbjaiaaDoor.HSystemFirst
open Go.RowKit Go.Proofs.YtfjhiiaahbjaiaaDoorW.PrintWords Go.Proofs.YtfjhiiaahbjaiaaDoorW.PrintLast Go.Proofs.YtfjhiiaahbjaiaaDoorW.PrintMore
attribute [local go_sem] Xby Xbw Xcb Xca Xbp Xbo Xbx Xbv
set_option linter.unusedVariables false
set_option linter.unusedSimpArgs false
mutual
def deckleref11_Numbers.j0 : Nat → List Int → List (S40) → Int → Bool → Option (Int × List Int × List Int × (List (S40)) × Bool)
 | 0, _, _, _, _ => none
 | k + 1, x0, x1, x6, x28 => if x28 = true then (some (0, ([] : List Int), ([] : List Int), ([] : List (S40)), false)) else ((some (([] : List Int) : List Int)).bind fun y133 => (if y133.length + x0.length < 17592186044416 then ((some (y133 ++ x0 : List Int)).bind fun y136 => (if x6 = 0 then (deckleref11_Numbers.j1 k x1 x6 2 y136) else (deckleref11_Numbers.j1 k x1 x6 1 y136))) else (none)))
def deckleref11_Numbers.j1 : Nat → List (S40) → Int → Int → List Int → Option (Int × List Int × List Int × (List (S40)) × Bool)
 | 0, _, _, _, _ => none
 | k + 1, x1, x6, x140000, x140001 => deckleref11_Numbers.l0 k x1 x6 0 x140000 x140001
def deckleref11_Numbers.l0 : Nat → List (S40) → Int → Int → Int → List Int → Option (Int × List Int × List Int × (List (S40)) × Bool)
 | 0, _, _, _, _, _ => none
 | k + 1, x1, x6, x9, x140000, x140001 => if x9 < x6 then (if 0 ≤ x9 then (if x9 < (x1.length : Int) then ((X4.f k ((Xv x1 x9).f0) ((Xv x1 x9).f1)).bind fun t141 => (if t141 = true then ((Xs.f k ((Xv x1 x9).f0) ((Xv x1 x9).f1)).bind fun bt143 => (if bt143.2 = true then (if x140000 = 1 then (if bt143.1 = 0 then (deckleref11_Numbers.l0 k x1 x6 (wrap64 (x9 + 1)) x140000 x140001) else (if bt143.1 = 1 then (deckleref11_Numbers.l0 k x1 x6 (wrap64 (x9 + 1)) x140000 x140001) else (deckleref11_Numbers.l0 k x1 x6 (wrap64 (x9 + 1)) 2 x140001))) else (deckleref11_Numbers.l0 k x1 x6 (wrap64 (x9 + 1)) x140000 x140001)) else (deckleref11_Numbers.l0 k x1 x6 (wrap64 (x9 + 1)) 4 x140001))) else (some (0, ([] : List Int), ([] : List Int), ([] : List (S40)), false)))) else (none)) else (none)) else (deckleref11_Numbers.l1 k x1 x6 0 x140000 x140001 ([] : List Int) ([] : List (S40)))
def deckleref11_Numbers.l1 : Nat → List (S40) → Int → Int → Int → List Int → List Int → List (S40) → Option (Int × List Int × List Int × (List (S40)) × Bool)
 | 0, _, _, _, _, _, _, _ => none
 | k + 1, x1, x6, x13, x140000, x140001, x140002, x140003 => if x13 < x6 then (if 0 ≤ x13 then (if x13 < (x1.length : Int) then ((Xs.f k ((Xv x1 x13).f0) ((Xv x1 x13).f1)).bind fun bt146 => (if x140000 = 4 then (if x140003.length < 8796093022208 then (deckleref11_Numbers.l1 k x1 x6 (wrap64 (x13 + 1)) x140000 x140001 x140002 (x140003 ++ [(⟨(Xv x1 x13).f0, (Xv x1 x13).f1⟩ : S40)])) else (none)) else (if x140002.length < 17592186044416 then (deckleref11_Numbers.l1 k x1 x6 (wrap64 (x13 + 1)) x140000 x140001 (x140002 ++ [bt146.1]) x140003) else (none)))) else (none)) else (none)) else (some (x140000, x140001, x140002, x140003, true))
end
def deckleref11_Numbers.f (k : Nat) (l0 : List Int) (l1 : List (S40)) : Option (Int × List Int × List Int × (List (S40)) × Bool) := (Xl.f k l0).bind fun bt131 => (if bt131.2 = true then (deckleref11_Numbers.j0 k l0 l1 bt131.1 (bt131.1 != (l1.length : Int))) else (deckleref11_Numbers.j0 k l0 l1 bt131.1 true))
theorem deckleref11_Numbers.mono_l : ∀ k, (∀ y0 y1 y2 y3, LeO (deckleref11_Numbers.j0 k y0 y1 y2 y3) (deckleref11_Numbers.j0 (k + 1) y0 y1 y2 y3)) ∧ (∀ y0 y1 y2 y3, LeO (deckleref11_Numbers.j1 k y0 y1 y2 y3) (deckleref11_Numbers.j1 (k + 1) y0 y1 y2 y3)) ∧ (∀ y0 y1 y2 y3 y4, LeO (deckleref11_Numbers.l0 k y0 y1 y2 y3 y4) (deckleref11_Numbers.l0 (k + 1) y0 y1 y2 y3 y4)) ∧ (∀ y0 y1 y2 y3 y4 y5 y6, LeO (deckleref11_Numbers.l1 k y0 y1 y2 y3 y4 y5 y6) (deckleref11_Numbers.l1 (k + 1) y0 y1 y2 y3 y4 y5 y6))
 | 0 => ⟨fun _ _ _ _ r h => by simp [deckleref11_Numbers.j0] at h, fun _ _ _ _ r h => by simp [deckleref11_Numbers.j1] at h, fun _ _ _ _ _ r h => by simp [deckleref11_Numbers.l0] at h, fun _ _ _ _ _ _ _ r h => by simp [deckleref11_Numbers.l1] at h⟩
 | k + 1 => by
  obtain ⟨ih0, ih1, ih2, ih3⟩ := deckleref11_Numbers.mono_l k
  refine ⟨?_, ?_, ?_, ?_⟩
  ·intro y0 y1 y2 y3
   unfold deckleref11_Numbers.j0
   have im0 := @X4.mono
   have im1 := @Xs.mono
   have im2 := @Xl.mono
   exact mz3
  ·intro y0 y1 y2 y3
   unfold deckleref11_Numbers.j1
   have im0 := @X4.mono
   have im1 := @Xs.mono
   have im2 := @Xl.mono
   exact mz3
  ·intro y0 y1 y2 y3 y4
   unfold deckleref11_Numbers.l0
   have im0 := @X4.mono
   have im1 := @Xs.mono
   have im2 := @Xl.mono
   exact mz3
  ·intro y0 y1 y2 y3 y4 y5 y6
   unfold deckleref11_Numbers.l1
   have im0 := @X4.mono
   have im1 := @Xs.mono
   have im2 := @Xl.mono
   exact mz3
theorem deckleref11_Numbers.mono : ∀ a0 a1 k, LeO (deckleref11_Numbers.f k a0 a1) (deckleref11_Numbers.f (k + 1) a0 a1) := by
 intro a0 a1 k
 obtain ⟨ih0, ih1, ih2, ih3⟩ := deckleref11_Numbers.mono_l k
 unfold deckleref11_Numbers.f
 have im0 := @X4.mono
 have im1 := @Xs.mono
 have im2 := @Xl.mono
 exact mz3
def deckleref11_Numbers.T23 : Bool × List (List Nat × List Nat) := (true, [([], []), ([0], [0]), ([], []), ([], []), ([2, 3], [2, 3]), ([4], [4]), ([5], [5]), ([1, 6], [1, 6]), ([0, 1, 2, 3, 4, 5, 6, 7], []), ([8, 7, 7, 0, 1, 2, 3, 4, 5, 6, 7], [7, 8])])
def deckleref11_Numbers.B23 : List Nat := [0, 1, 0, 0, 12, 28, 60, 127, 255, 511]
theorem deckleref11_Numbers.tab23 : Xc8 .any (opsOf Tryd.f52 23) = deckleref11_Numbers.T23 := J8
theorem deckleref11_Numbers.bits23 : Xdc deckleref11_Numbers.T23.2 deckleref11_Numbers.B23 = true := J8
set_option maxHeartbeats 8000000 in
set_option maxRecDepth 100000 in
theorem deckleref11_Numbers.calls (k : Nat) (A0 : Option Addr) (c0 : Nat) (l0 : List Int) (A1 : Option Addr) (c1 : Nat) (l1 : List (S40)) (r1 : Int) (r2 : List Int) (r3 : List Int) (r4 : List (S40)) (r5 : Bool) (w : World) (hr0 : Kd.C (Kd.int .i64) w A0 l0.length l0) (hc0 : l0.length ≤ c0) (hr1 : Kd.C k40 w A1 l1.length l1) (hc1 : l1.length ≤ c1) (h : deckleref11_Numbers.f k l0 l1 = some (r1, r2, r3, r4, r5)) :
  Calls Tryd.prog 52 #[.slice A0 l0.length c0, .slice A1 l1.length c1] w fun e w' => ∃ v1_ v2_ v3_ : Value, e = .returned (.tuple #[.agg #[.int .i64 r1, v1_, v2_, v3_], .bool r5]) ∧ Kd.R (Kd.int .i64) 3 w' w.heap.size (fun k_ => some k_ ≠ (v2_ : Value).ownBlock) v1_ r2 ∧ Kd.R (Kd.int .i64) 3 w' w.heap.size (fun k_ => some k_ ≠ (v1_ : Value).ownBlock) v2_ r3 ∧ Kd.R k40 40 w' w.heap.size (fun _ => True) v3_ r4 ∧ Below w.heap.size w w' := by
 have hu32 := Tryd.underlying32
 have hu40 := Tryd.underlying40
 have HR0 := zq hr0
 have HC0 := zq hc0
 clear hr0 hc0
 have HR1 := zq hr1
 have HC1 := zq hc1
 clear hr1 hc1
 have HB := zq (Below.refl w.heap.size w)
 unfold deckleref11_Numbers.f at h
 have H := h
 clear h
 refine yv H ?_; clear H; rintro ⟨t131, t132⟩ A3 H
 dsimp only at H
 have HC4 := zq H
 clear H
 go_enter Tryd.func52, Tryd.ntmps52
 go_upto_region 2 with (first | ((with_reducible refine Xk (N := 4) rfl ?_); (try (refine Xaz Xa5 ?_; dsimp only)); refine bxw 4 32 #[.int .i64 0, .slice none 0 0, .slice none 0 0, .slice none 0 0] ?_; intro gb130 hg w5 hbox hb; have BK130 := zq (hbox); have GE130 := zq ((J12 : w.heap.size ≤ gb130)); replace HB := zq (Xd J0 hb); clear hb hbox hg) | ((with_reducible refine Xg (f := 70) rfl ?_); refine Xt (some 18) rfl rfl Tryd.func70 J8 rfl #[.slice A0 l0.length c0] rfl J1 ?_; (with_reducible refine (Xl.calls k _ _ l0 t131 t132 _ ?side1 ?side2 A3.out).mono ?_); (case side1 => exact zc (Kd.C_below HR0.out HB.out)); (case side2 => exact HC0.out); rintro e w' ⟨rfl, ⟨nd, rfl⟩⟩; refine ⟨_, rfl, ?_⟩))
 (try simp only [Act.put, List.setIfInBounds_toArray, List.set_cons_zero, List.set_cons_succ])
 go_cut [28] (fun v28 wc => ∃ (kq : Nat) (x28_3 : Bool), v28 = .bool x28_3 ∧ Aside0 (deckleref11_Numbers.j0 kq l0 l1 t131 x28_3 = some (r1, r2, r3, r4, r5)) ∧ Aside0 (kq ≤ k) ∧ Aside0 (wc.heap[gb130]? = some (.cells #[.int .i64 0, (.slice none 0 0), (.slice none 0 0), (.slice none 0 0)] 32 (0, 0))) ∧ Aside0 (Below w.heap.size w wc))
 case first =>
  have H := HC4.out
  clear HC4
  refine yC H ?_ ?_ <;> clear H <;> rintro rfl H
  ·have H' := zq H
   clear H
   go_wp2
   go_meet
   case rel => exact ⟨_, ((t131 != (l1.length : Int))), J4, H', ⟨J31⟩, ⟨J42⟩, ⟨J92⟩⟩
  have H' := zq H
  clear H
  go_wp2
  go_meet
  case rel => exact ⟨_, (true), J4, H', ⟨J31⟩, ⟨J42⟩, ⟨J92⟩⟩
 case rest =>
  clear HC4
  try clear c1
  obtain ⟨kq, x28_3, rfl, HA, HJ3, BK130, HB⟩ := hcut
  cases kq with
  | zero => exact absurd HA.out (by simp [deckleref11_Numbers.j0])
  | succ kj3 =>
   have H := HA.out
   clear HA
   simp only [deckleref11_Numbers.j0] at H
   refine yC H ?_ ?_ <;> clear H <;> rintro rfl H
   ·obtain ⟨rfl, rfl, rfl, rfl, rfl⟩ := yp5 H
    obtain ⟨hcz8_0, hcz8_1, hcz8_2, hcz8_3, hfz8_0, hfz8_1, hfz8_2, hfz8_3⟩ := cz4 BK130.out
    go_wp2
    refine bodyPost_ret (Xa1 rfl _ _ gb130 32 #[.int .i64 0, .slice none 0 0, .slice none 0 0, .slice none 0 0] (0, 0) _ rfl (by (with_reducible repeat (first | refine Xc ?_ _ | refine Xe ?_ | refine Xb ?_ _)); refine Xj (cs := #[.int .i64 0, .slice none 0 0, .slice none 0 0, .slice none 0 0]) ?_ 3 _ rfl; (with_reducible repeat (first | refine Xc ?_ _ | refine Xe ?_ | refine Xb ?_ _)); refine Xj (cs := #[.int .i64 0, .slice none 0 0, .slice none 0 0, .slice none 0 0]) ?_ 2 _ rfl; (with_reducible repeat (first | refine Xc ?_ _ | refine Xe ?_ | refine Xb ?_ _)); refine Xj (cs := #[.int .i64 0, .slice none 0 0, .slice none 0 0, .slice none 0 0]) ?_ 1 _ rfl; (with_reducible repeat (first | refine Xc ?_ _ | refine Xe ?_ | refine Xb ?_ _)); refine Xj (cs := #[.int .i64 0, .slice none 0 0, .slice none 0 0, .slice none 0 0]) ?_ 0 _ rfl; (with_reducible repeat (first | refine Xc ?_ _ | refine Xe ?_ | refine Xb ?_ _)); exact BK130.out) Tryd.underlying32 rfl J8) rfl ?_
    exact ⟨_, _, _, J2, J9, J9, J9, J92⟩
   obtain ⟨y133, hy133⟩ : ∃ y_ : List Int, y_ = (([] : List Int)) := ⟨_, rfl⟩
   replace H : (if y133.length + l0.length < 17592186044416 then ((some (y133 ++ l0 : List Int)).bind fun y136 => (if t131 = 0 then (deckleref11_Numbers.j1 kj3 l1 t131 2 y136) else (deckleref11_Numbers.j1 kj3 l1 t131 1 y136))) else (none)) = some (r1, r2, r3, r4, r5) := by first | (rw [hy133]; with_reducible exact H) | (have H2_ := (Option.bind_some _ _).symm.trans H; rw [hy133]; with_reducible exact H2_) | (have H2_ := (Option.bind_some _ _).symm.trans H; with_reducible exact H2_) | with_reducible exact H | (rw [hy133]; exact H) | exact H
   have Ny133 := zq hy133
   clear hy133
   refine yi H ?_; clear H; intro c9 H
   have LMc9 := zq c9
   clear c9
   obtain ⟨y136, hy136⟩ : ∃ y_ : List Int, y_ = (y133 ++ l0) := ⟨_, rfl⟩
   replace H : (if t131 = 0 then (deckleref11_Numbers.j1 kj3 l1 t131 2 y136) else (deckleref11_Numbers.j1 kj3 l1 t131 1 y136)) = some (r1, r2, r3, r4, r5) := by first | (rw [hy136]; with_reducible exact H) | (have H2_ := (Option.bind_some _ _).symm.trans H; rw [hy136]; with_reducible exact H2_) | (have H2_ := (Option.bind_some _ _).symm.trans H; with_reducible exact H2_) | with_reducible exact H | (rw [hy136]; exact H) | exact H
   have Ny136 := zq hy136
   clear hy136
   have HC10 := zq H
   clear H
   go_upto_if 35 with (first | ((with_reducible refine Xk (N := 30) rfl ?_); (try (refine Xaz Xa5 ?_; dsimp only)); refine Kd.R_lit (Kd.int .i64) _ 3 ?hg (N := 30) ?hd (xs := ([] : List Int)) (inner := []) (ok := fun _ => True) (okp := fun _ => True) ?hr ?hp (fun _ hk => hk) trivial (Below.refl _ _) (Nat.le_refl _) J88 ?_; (case hd => rfl); (case hg => rfl); (case hr => first | (go_simp; done) | (go_simp; rfl)); (case hp => exact (Reps.none _ _)); intro v134 w11 ho12 hb hg_ hnew_; clear hg_ hnew_; (first | rw [← Ny133.out] at ho12 | (simp only [Int.reduceToNat] at ho12; rw [← Ny133.out] at ho12)); have n0_ := zq (Kd.R_lower ho12 (Xf (zs1 GE130.out))); have n1_ := zq (Xh (g := gb130) (o := .cells #[.int .i64 0, .slice none 0 0, .slice none 0 0, .slice none 0 0] 32 (0, 0)) (zk BK130.out) hb); have n2_ := zq (Xd (zs1 GE130.out) hb); clear BK130; clear HB; have HO135 := n0_; have BK130 := n1_; have HB := n2_; clear n0_ n1_ n2_; clear hb ho12) | ((with_reducible refine Xbt (b := .append) (xs := #[.tmp 30, .tmp 31]) rfl ?_); (try (refine Xaz Xa5 ?_; dsimp only)); at_builtin; refine Kd.R_append_rows (Kd.int .i64) (w0 := w) w.heap.size rfl (.tmp 30) (.tmp 31) 29 3 (.int .i64 0) 8 rfl Tryd.underlying29 info3 rfl J11 J35 v134 y133 l0 _ _ _ (fun _ => True) (fun _ => False) rfl rfl ?aO ?aR (fun _ _ h => h) (fun _ h => h.elim) ?aF ?aB ?aS ?aL ?_; (case aR => repeat (first | exact (Kd.C_below HR0.out HB.out) | (with_reducible refine Kd.C_alloc ?_ _) | (with_reducible refine Kd.C_drewN ?_ _) | (with_reducible refine Kd.C_drew ?_))); (case aB => exact (zs1 GE130.out)); (case aF => exact (fun _ _ => trivial)); (case aO => exact (zr HO135.out)); (case aS => exact (Xf (zs1 GE130.out))); (case aL => have := LMc9.out; omega); intro v137 w13 ho hb hg hat; rw [← Ny136.out] at ho; have n0_ := zq (Xb7 (g := gb130) (o := .cells #[.int .i64 0, .slice none 0 0, .slice none 0 0, .slice none 0 0] 32 (0, 0)) (zk BK130.out) hg (Kd.R_ne HO135.out BK130.out J11)); have n1_ := zq (hb); have n2_ := zq (ho); clear BK130; clear HB; clear HO135; have BK130 := n0_; have HB := n1_; have HO138 := n2_; clear n0_ n1_ n2_; clear ho hb hg hat; obtain ⟨Ao14, co14, eo14⟩ := Kd.R_slice HO138.out; subst eo14) | ((with_reducible refine Xk (N := 8) rfl ?_); (try (refine Xaz Xa5 ?_; dsimp only)); refine Xc9 ?hg (N := 8) ?hd (cs := #[.int .i64 0, .slice none 0 0, .slice none 0 0, .slice none 0 0]) (t := 32) ?hr ?_; (case hd => rfl); (case hg => rfl); (case hr => first | (go_simp; done) | (go_simp; rfl)); intro gb139 hg w15 hbox hb; have n0_ := zq (Kd.R_below (zr HO138.out) hb); have n1_ := zq (Xh (g := gb130) (o := .cells #[.int .i64 0, .slice none 0 0, .slice none 0 0, .slice none 0 0] 32 (0, 0)) (zk BK130.out) hb); have n2_ := zq (Xd (zs1 GE130.out) hb); have n3_ := zq (hbox); have n4_ := zq ((by rw [hg]; exact (Xf (zs1 GE130.out)) : w.heap.size ≤ gb139)); have n5_ := zq ((by rw [hg]; exact (Xf (zs1 GE130.out)) : w.heap.size ≤ gb139)); have n6_ := zq ((by rw [hg]; exact Nat.ne_of_lt (Xbe (g := gb130) (o := .cells #[.int .i64 0, .slice none 0 0, .slice none 0 0, .slice none 0 0] 32 (0, 0)) (zk BK130.out)) : gb130 ≠ gb139)); have n7_ := zq ((by rw [hg]; exact Nat.ne_of_gt (Xbe (g := gb130) (o := .cells #[.int .i64 0, .slice none 0 0, .slice none 0 0, .slice none 0 0] 32 (0, 0)) (zk BK130.out)) : gb139 ≠ gb130)); clear HO138; clear BK130; clear HB; have HO138 := n0_; have BK130 := n1_; have HB := n2_; have BK139 := n3_; have GW139 := n4_; have GE139 := n5_; have NB130_139 := n6_; have NB139_130 := n7_; clear n0_ n1_ n2_ n3_ n4_ n5_ n6_ n7_; clear hb hbox hg; have hnb16 := NB139_130.out; have hnc16 := NB130_139.out; have hcz17_0 : w15.cell? ⟨gb139, 0, none⟩ = some (.int .i64 0) := (Xm BK139.out 0).trans rfl; have hcz17_1 : w15.cell? ⟨gb139, 1, none⟩ = some (.slice none 0 0) := (Xm BK139.out 1).trans rfl; have hcz17_2 : w15.cell? ⟨gb139, 2, none⟩ = some (.slice none 0 0) := (Xm BK139.out 2).trans rfl; have hcz17_3 : w15.cell? ⟨gb139, 3, none⟩ = some (.slice none 0 0) := (Xm BK139.out 3).trans rfl; have hfz17_0 := Xa8 BK139.out 0; have hfz17_1 := Xa8 BK139.out 1; have hfz17_2 := Xa8 BK139.out 2; have hfz17_3 := Xa8 BK139.out 3))
   (try simp only [Act.put, List.setIfInBounds_toArray, List.set_cons_zero, List.set_cons_succ])
   go_cut [] (fun wc => ∃ (kq : Nat) (x140000_9 : Int), Aside0 (deckleref11_Numbers.j1 kq l1 t131 x140000_9 y136 = some (r1, r2, r3, r4, r5)) ∧ Aside0 (kq ≤ kj3) ∧ Aside0 (Kd.R (Kd.int .i64) 3 wc w.heap.size (fun _ => True) (.slice Ao14 y136.length co14) y136) ∧ Aside0 (wc.heap[gb130]? = some (.cells #[.int .i64 0, (.slice none 0 0), (.slice none 0 0), (.slice none 0 0)] 32 (0, 0))) ∧ Aside0 (wc.heap[gb139]? = some (.cells #[.int .i64 x140000_9, (.slice Ao14 y136.length co14), (.slice none 0 0), (.slice none 0 0)] 32 (0, 0))) ∧ Aside0 (Below w.heap.size w wc))
   case first =>
    have H := HC10.out
    clear HC10
    refine yE H ?_ ?_ <;> clear H <;> rintro ⟨c18b0, c18b1, c18⟩ H
    ·(first | rw [c18b0] | (simp only [Xbd, Xbh]; rw [c18b0]) | skip)
     have H' := zq H
     clear H
     go_wp2
     go_meet
     case rel => exact ⟨_, (1), H', ⟨J137⟩, ⟨by (with_reducible repeat (first | apply Kd.R_alloc | apply Kd.R_drewN | apply Kd.R_drew)); exact Kd.R_mono (Kd.R_far (p := ⟨gb139, 3, none⟩) (Kd.R_far (p := ⟨gb139, 2, none⟩) (Kd.R_far (p := ⟨gb139, 1, none⟩) (Kd.R_far (p := ⟨gb139, 0, none⟩) (Kd.R_types HO138.out BK139.out J11) (fun _ hk => hk.2) (.int .i64 1)) (fun _ hk => hk.2) (.slice Ao14 y136.length co14)) (fun _ hk => hk.2) (.slice none 0 0)) (fun _ hk => hk.2) (.slice none 0 0)) (fun _ hk => trivial)⟩, ⟨by (with_reducible repeat (first | refine Xc ?_ _ | refine Xe ?_ | refine Xb ?_ _)); refine Xab ?_ NB130_139.out _; (with_reducible repeat (first | refine Xc ?_ _ | refine Xe ?_ | refine Xb ?_ _)); refine Xab ?_ NB130_139.out _; (with_reducible repeat (first | refine Xc ?_ _ | refine Xe ?_ | refine Xb ?_ _)); refine Xab ?_ NB130_139.out _; (with_reducible repeat (first | refine Xc ?_ _ | refine Xe ?_ | refine Xb ?_ _)); refine Xab ?_ NB130_139.out _; (with_reducible repeat (first | refine Xc ?_ _ | refine Xe ?_ | refine Xb ?_ _)); exact BK130.out⟩, ⟨by (with_reducible repeat (first | refine Xc ?_ _ | refine Xe ?_ | refine Xb ?_ _)); refine Xj (cs := #[.int .i64 1, .slice Ao14 y136.length co14, .slice none 0 0, .slice none 0 0]) ?_ 3 _ rfl; (with_reducible repeat (first | refine Xc ?_ _ | refine Xe ?_ | refine Xb ?_ _)); refine Xj (cs := #[.int .i64 1, .slice Ao14 y136.length co14, .slice none 0 0, .slice none 0 0]) ?_ 2 _ rfl; (with_reducible repeat (first | refine Xc ?_ _ | refine Xe ?_ | refine Xb ?_ _)); refine Xj (cs := #[.int .i64 1, .slice none 0 0, .slice none 0 0, .slice none 0 0]) ?_ 1 _ rfl; (with_reducible repeat (first | refine Xc ?_ _ | refine Xe ?_ | refine Xb ?_ _)); refine Xj (cs := #[.int .i64 0, .slice none 0 0, .slice none 0 0, .slice none 0 0]) ?_ 0 _ rfl; (with_reducible repeat (first | refine Xc ?_ _ | refine Xe ?_ | refine Xb ?_ _)); exact BK139.out⟩, ⟨J10⟩⟩
    clear c18
    (first | rw [c18b0] | (simp only [Xbd, Xbh]; rw [c18b0]) | skip)
    have H' := zq H
    clear H
    have hnb19 := NB139_130.out
    have hnc19 := NB130_139.out
    obtain ⟨hcz20_0, hcz20_1, hcz20_2, hcz20_3, hfz20_0, hfz20_1, hfz20_2, hfz20_3⟩ := cz4 BK139.out
    go_wp2
    go_meet
    case rel => exact ⟨_, (2), H', ⟨J137⟩, ⟨by (with_reducible repeat (first | apply Kd.R_alloc | apply Kd.R_drewN | apply Kd.R_drew)); exact Kd.R_mono (Kd.R_far (p := ⟨gb139, 0, none⟩) (Kd.R_far (p := ⟨gb139, 3, none⟩) (Kd.R_far (p := ⟨gb139, 2, none⟩) (Kd.R_far (p := ⟨gb139, 1, none⟩) (Kd.R_far (p := ⟨gb139, 0, none⟩) (Kd.R_types HO138.out BK139.out J11) (fun _ hk => hk.2) (.int .i64 1)) (fun _ hk => hk.2) (.slice Ao14 y136.length co14)) (fun _ hk => hk.2) (.slice none 0 0)) (fun _ hk => hk.2) (.slice none 0 0)) (fun _ hk => hk.2) (.int .i64 2)) (fun _ hk => trivial)⟩, ⟨by (with_reducible repeat (first | refine Xc ?_ _ | refine Xe ?_ | refine Xb ?_ _)); refine Xab ?_ NB130_139.out _; (with_reducible repeat (first | refine Xc ?_ _ | refine Xe ?_ | refine Xb ?_ _)); refine Xab ?_ NB130_139.out _; (with_reducible repeat (first | refine Xc ?_ _ | refine Xe ?_ | refine Xb ?_ _)); refine Xab ?_ NB130_139.out _; (with_reducible repeat (first | refine Xc ?_ _ | refine Xe ?_ | refine Xb ?_ _)); refine Xab ?_ NB130_139.out _; (with_reducible repeat (first | refine Xc ?_ _ | refine Xe ?_ | refine Xb ?_ _)); refine Xab ?_ NB130_139.out _; (with_reducible repeat (first | refine Xc ?_ _ | refine Xe ?_ | refine Xb ?_ _)); exact BK130.out⟩, ⟨by (with_reducible repeat (first | refine Xc ?_ _ | refine Xe ?_ | refine Xb ?_ _)); refine Xj (cs := #[.int .i64 1, .slice Ao14 y136.length co14, .slice none 0 0, .slice none 0 0]) ?_ 0 _ rfl; (with_reducible repeat (first | refine Xc ?_ _ | refine Xe ?_ | refine Xb ?_ _)); refine Xj (cs := #[.int .i64 1, .slice Ao14 y136.length co14, .slice none 0 0, .slice none 0 0]) ?_ 3 _ rfl; (with_reducible repeat (first | refine Xc ?_ _ | refine Xe ?_ | refine Xb ?_ _)); refine Xj (cs := #[.int .i64 1, .slice Ao14 y136.length co14, .slice none 0 0, .slice none 0 0]) ?_ 2 _ rfl; (with_reducible repeat (first | refine Xc ?_ _ | refine Xe ?_ | refine Xb ?_ _)); refine Xj (cs := #[.int .i64 1, .slice none 0 0, .slice none 0 0, .slice none 0 0]) ?_ 1 _ rfl; (with_reducible repeat (first | refine Xc ?_ _ | refine Xe ?_ | refine Xb ?_ _)); refine Xj (cs := #[.int .i64 0, .slice none 0 0, .slice none 0 0, .slice none 0 0]) ?_ 0 _ rfl; (with_reducible repeat (first | refine Xc ?_ _ | refine Xe ?_ | refine Xb ?_ _)); exact BK139.out⟩, ⟨J10⟩⟩
   case rest =>
    clear HC10
    try clear c1
    try clear c9
    try clear hcz17_0
    try clear hcz17_1
    try clear hcz17_2
    try clear hcz17_3
    try clear hfz17_0
    try clear hfz17_1
    try clear hfz17_2
    try clear hfz17_3
    obtain ⟨kq, x140000_9, HA, HJ9, HO_140001, BK130, BK139, HB⟩ := hcut
    cases kq with
    | zero => exact absurd HA.out (by simp [deckleref11_Numbers.j1])
    | succ kj9 =>
     have H := HA.out
     clear HA
     simp only [deckleref11_Numbers.j1] at H
     have H' := zq H
     clear H
     go_wp2
     go_loopg [9] kj9 (fun kq v9 w' => ∃ (x9_3 : Int) (x131000_3 : Int) (x140000_3 : Int), v9 = .int .i64 x9_3 ∧ Aside0 (deckleref11_Numbers.l0 kq l1 t131 x9_3 x140000_3 y136 = some (r1, r2, r3, r4, r5)) ∧ Aside0 (kq ≤ kj9) ∧ Aside0 (Kd.R (Kd.int .i64) 3 w' w.heap.size (fun _ => True) (.slice Ao14 y136.length co14) y136) ∧ Aside0 (w'.heap[gb130]? = some (.cells #[.int .i64 x131000_3, (.slice none 0 0), (.slice none 0 0), (.slice none 0 0)] 32 (0, 0))) ∧ Aside0 (w'.heap[gb139]? = some (.cells #[.int .i64 x140000_3, (.slice Ao14 y136.length co14), (.slice none 0 0), (.slice none 0 0)] 32 (0, 0))) ∧ Aside0 (Below w.heap.size w w'))
     case atStart => exact ⟨(0), (0), (x140000_9), J4, H', ⟨Nat.le_refl _⟩, ⟨J95⟩, ⟨J42⟩, ⟨J78⟩, ⟨J10⟩⟩
     case round =>
      clear H'
      try clear c1
      try clear c9
      try clear hcz17_0
      try clear hcz17_1
      try clear hcz17_2
      try clear hcz17_3
      try clear hfz17_0
      try clear hfz17_1
      try clear hfz17_2
      try clear hfz17_3
      obtain ⟨x9_3, x131000_3, x140000_3, rfl, HA, HK3, HO_140001, BK130, BK139, HB⟩ := hrel
      cases gk with
      | zero => exact absurd HA.out (by simp [deckleref11_Numbers.l0])
      | succ k3 =>
       have H := HA.out
       clear HA
       simp only [deckleref11_Numbers.l0] at H
       refine yD H ?_ ?_ <;> clear H <;> rintro c21b0 H
       ·refine yu H ?_ ?_ <;> clear H <;> rintro c22 H
        ·have c22b0 : decide (0 ≤ x9_3) = true := decide_eq_true c22
         clear c22
         refine yu H ?_ ?_ <;> clear H <;> rintro c23 H
         ·have c23b0 : decide (x9_3 < (l1.length : Int)) = true := decide_eq_true c23
          clear c23
          refine yv H ?_; clear H; rintro t141 A24 H
          refine yC H ?_ ?_ <;> clear H <;> rintro rfl H
          ·refine yv H ?_; clear H; rintro ⟨t143, t144⟩ A26 H
           dsimp only at H
           refine yC H ?_ ?_ <;> clear H <;> rintro rfl H
           ·refine yF H ?_ ?_ <;> clear H <;> rintro ⟨c28b0, c28b1, c28⟩ H
            ·clear c28
             refine yF H ?_ ?_ <;> clear H <;> rintro ⟨c29b0, c29b1, c29⟩ H
             ·clear c29
              have H' := zq H
              clear H
              have p140 : 0 ≤ (x9_3 : Int) := of_decide_eq_true J3
              have q140 : x9_3 < (l1.length : Int) := of_decide_eq_true J3
              obtain ⟨ad140, e140, hx140_0, hx140_1⟩ := Xcf HR1.out x9_3 p140 q140
              cases e140
              replace hx140_0 := yh HB hx140_0
              replace hx140_1 := yh HB hx140_1
              replace p140 := eq_true p140
              replace q140 := eq_true q140
              go_wp2_with (first | ((with_reducible refine Xg (f := 71) rfl ?_); refine Xt (some 46) rfl rfl Tryd.func71 J8 rfl #[.agg #[.int .i64 ((Xv l1 x9_3).f0), .int .i64 ((Xv l1 x9_3).f1)]] rfl J1 ?_; (with_reducible refine (X4.calls k3 ((Xv l1 x9_3).f0) ((Xv l1 x9_3).f1) true _ A24.out).mono ?_); rintro e w30 ⟨rfl, hb⟩; refine ⟨_, rfl, ?_⟩; replace HO_140001 := zq (Kd.R_below (zr HO_140001.out) hb); replace BK130 := zq (Xh (g := gb130) (o := .cells #[.int .i64 x131000_3, .slice none 0 0, .slice none 0 0, .slice none 0 0] 32 (0, 0)) (zk BK130.out) hb); replace BK139 := zq (Xh (g := gb139) (o := .cells #[.int .i64 x140000_3, .slice Ao14 y136.length co14, .slice none 0 0, .slice none 0 0] 32 (0, 0)) (zk BK139.out) hb); replace HB := zq (Xd (zs2 GE130.out GE139.out) hb); (try clear hb); (try clear hk); have p142 : 0 ≤ (x9_3 : Int) := of_decide_eq_true J3; have q142 : x9_3 < (l1.length : Int) := of_decide_eq_true J3; obtain ⟨ad142, e142, hx142_0, hx142_1⟩ := Xcf HR1.out x9_3 p142 q142; obtain rfl : ad140 = ad142 := (by injection e142); replace hx142_0 := yh HB hx142_0; replace hx142_1 := yh HB hx142_1; replace p142 := eq_true p142; replace q142 := eq_true q142) | ((with_reducible refine Xg (f := 72) rfl ?_); refine Xt (some 55) rfl rfl Tryd.func72 J8 rfl #[.agg #[.int .i64 ((Xv l1 x9_3).f0), .int .i64 ((Xv l1 x9_3).f1)]] rfl J1 ?_; (with_reducible refine (Xs.calls k3 ((Xv l1 x9_3).f0) ((Xv l1 x9_3).f1) t143 true _ A26.out).mono ?_); rintro e w31 ⟨rfl, hb⟩; refine ⟨_, rfl, ?_⟩; replace HO_140001 := zq (Kd.R_below (zr HO_140001.out) hb); replace BK130 := zq (Xh (g := gb130) (o := .cells #[.int .i64 x131000_3, .slice none 0 0, .slice none 0 0, .slice none 0 0] 32 (0, 0)) (zk BK130.out) hb); replace BK139 := zq (Xh (g := gb139) (o := .cells #[.int .i64 x140000_3, .slice Ao14 y136.length co14, .slice none 0 0, .slice none 0 0] 32 (0, 0)) (zk BK139.out) hb); replace HB := zq (Xd (zs2 GE130.out GE139.out) hb); (try clear hb); (try clear hk); have hnb32 := NB139_130.out; have hnc32 := NB130_139.out; obtain ⟨hcz33_0, hcz33_1, hcz33_2, hcz33_3, hfz33_0, hfz33_1, hfz33_2, hfz33_3⟩ := cz4 BK139.out))
              go_roundg k3
              case measure => have := HJ3.out; have := HJ9.out; have := HK3.out; omega
              case rel => exact ⟨(wrap64 (x9_3 + 1)), (x131000_3), (x140000_3), J4, H', ⟨J115⟩, ⟨J95⟩, ⟨J42⟩, ⟨J78⟩, ⟨J10⟩⟩
             ·refine yF H ?_ ?_ <;> clear H <;> rintro ⟨c34b0, c34b1, c34⟩ H
              ·clear c34
               have H' := zq H
               clear H
               have p140 : 0 ≤ (x9_3 : Int) := of_decide_eq_true J3
               have q140 : x9_3 < (l1.length : Int) := of_decide_eq_true J3
               obtain ⟨ad140, e140, hx140_0, hx140_1⟩ := Xcf HR1.out x9_3 p140 q140
               cases e140
               replace hx140_0 := yh HB hx140_0
               replace hx140_1 := yh HB hx140_1
               replace p140 := eq_true p140
               replace q140 := eq_true q140
               go_wp2_with (first | ((with_reducible refine Xg (f := 71) rfl ?_); refine Xt (some 46) rfl rfl Tryd.func71 J8 rfl #[.agg #[.int .i64 ((Xv l1 x9_3).f0), .int .i64 ((Xv l1 x9_3).f1)]] rfl J1 ?_; (with_reducible refine (X4.calls k3 ((Xv l1 x9_3).f0) ((Xv l1 x9_3).f1) true _ A24.out).mono ?_); rintro e w35 ⟨rfl, hb⟩; refine ⟨_, rfl, ?_⟩; replace HO_140001 := zq (Kd.R_below (zr HO_140001.out) hb); replace BK130 := zq (Xh (g := gb130) (o := .cells #[.int .i64 x131000_3, .slice none 0 0, .slice none 0 0, .slice none 0 0] 32 (0, 0)) (zk BK130.out) hb); replace BK139 := zq (Xh (g := gb139) (o := .cells #[.int .i64 x140000_3, .slice Ao14 y136.length co14, .slice none 0 0, .slice none 0 0] 32 (0, 0)) (zk BK139.out) hb); replace HB := zq (Xd (zs2 GE130.out GE139.out) hb); (try clear hb); (try clear hk); have p142 : 0 ≤ (x9_3 : Int) := of_decide_eq_true J3; have q142 : x9_3 < (l1.length : Int) := of_decide_eq_true J3; obtain ⟨ad142, e142, hx142_0, hx142_1⟩ := Xcf HR1.out x9_3 p142 q142; obtain rfl : ad140 = ad142 := (by injection e142); replace hx142_0 := yh HB hx142_0; replace hx142_1 := yh HB hx142_1; replace p142 := eq_true p142; replace q142 := eq_true q142) | ((with_reducible refine Xg (f := 72) rfl ?_); refine Xt (some 55) rfl rfl Tryd.func72 J8 rfl #[.agg #[.int .i64 ((Xv l1 x9_3).f0), .int .i64 ((Xv l1 x9_3).f1)]] rfl J1 ?_; (with_reducible refine (Xs.calls k3 ((Xv l1 x9_3).f0) ((Xv l1 x9_3).f1) t143 true _ A26.out).mono ?_); rintro e w36 ⟨rfl, hb⟩; refine ⟨_, rfl, ?_⟩; replace HO_140001 := zq (Kd.R_below (zr HO_140001.out) hb); replace BK130 := zq (Xh (g := gb130) (o := .cells #[.int .i64 x131000_3, .slice none 0 0, .slice none 0 0, .slice none 0 0] 32 (0, 0)) (zk BK130.out) hb); replace BK139 := zq (Xh (g := gb139) (o := .cells #[.int .i64 x140000_3, .slice Ao14 y136.length co14, .slice none 0 0, .slice none 0 0] 32 (0, 0)) (zk BK139.out) hb); replace HB := zq (Xd (zs2 GE130.out GE139.out) hb); (try clear hb); (try clear hk); have hnb37 := NB139_130.out; have hnc37 := NB130_139.out; obtain ⟨hcz38_0, hcz38_1, hcz38_2, hcz38_3, hfz38_0, hfz38_1, hfz38_2, hfz38_3⟩ := cz4 BK139.out))
               go_roundg k3
               case measure => have := HJ3.out; have := HJ9.out; have := HK3.out; omega
               case rel => exact ⟨(wrap64 (x9_3 + 1)), (x131000_3), (x140000_3), J4, H', ⟨J115⟩, ⟨J95⟩, ⟨J42⟩, ⟨J78⟩, ⟨J10⟩⟩
              ·have H' := zq H
               clear H
               have p140 : 0 ≤ (x9_3 : Int) := of_decide_eq_true J3
               have q140 : x9_3 < (l1.length : Int) := of_decide_eq_true J3
               obtain ⟨ad140, e140, hx140_0, hx140_1⟩ := Xcf HR1.out x9_3 p140 q140
               cases e140
               replace hx140_0 := yh HB hx140_0
               replace hx140_1 := yh HB hx140_1
               replace p140 := eq_true p140
               replace q140 := eq_true q140
               go_wp2_with (first | ((with_reducible refine Xg (f := 71) rfl ?_); refine Xt (some 46) rfl rfl Tryd.func71 J8 rfl #[.agg #[.int .i64 ((Xv l1 x9_3).f0), .int .i64 ((Xv l1 x9_3).f1)]] rfl J1 ?_; (with_reducible refine (X4.calls k3 ((Xv l1 x9_3).f0) ((Xv l1 x9_3).f1) true _ A24.out).mono ?_); rintro e w39 ⟨rfl, hb⟩; refine ⟨_, rfl, ?_⟩; replace HO_140001 := zq (Kd.R_below (zr HO_140001.out) hb); replace BK130 := zq (Xh (g := gb130) (o := .cells #[.int .i64 x131000_3, .slice none 0 0, .slice none 0 0, .slice none 0 0] 32 (0, 0)) (zk BK130.out) hb); replace BK139 := zq (Xh (g := gb139) (o := .cells #[.int .i64 x140000_3, .slice Ao14 y136.length co14, .slice none 0 0, .slice none 0 0] 32 (0, 0)) (zk BK139.out) hb); replace HB := zq (Xd (zs2 GE130.out GE139.out) hb); (try clear hb); (try clear hk); have p142 : 0 ≤ (x9_3 : Int) := of_decide_eq_true J3; have q142 : x9_3 < (l1.length : Int) := of_decide_eq_true J3; obtain ⟨ad142, e142, hx142_0, hx142_1⟩ := Xcf HR1.out x9_3 p142 q142; obtain rfl : ad140 = ad142 := (by injection e142); replace hx142_0 := yh HB hx142_0; replace hx142_1 := yh HB hx142_1; replace p142 := eq_true p142; replace q142 := eq_true q142) | ((with_reducible refine Xg (f := 72) rfl ?_); refine Xt (some 55) rfl rfl Tryd.func72 J8 rfl #[.agg #[.int .i64 ((Xv l1 x9_3).f0), .int .i64 ((Xv l1 x9_3).f1)]] rfl J1 ?_; (with_reducible refine (Xs.calls k3 ((Xv l1 x9_3).f0) ((Xv l1 x9_3).f1) t143 true _ A26.out).mono ?_); rintro e w40 ⟨rfl, hb⟩; refine ⟨_, rfl, ?_⟩; replace HO_140001 := zq (Kd.R_below (zr HO_140001.out) hb); replace BK130 := zq (Xh (g := gb130) (o := .cells #[.int .i64 x131000_3, .slice none 0 0, .slice none 0 0, .slice none 0 0] 32 (0, 0)) (zk BK130.out) hb); replace BK139 := zq (Xh (g := gb139) (o := .cells #[.int .i64 x140000_3, .slice Ao14 y136.length co14, .slice none 0 0, .slice none 0 0] 32 (0, 0)) (zk BK139.out) hb); replace HB := zq (Xd (zs2 GE130.out GE139.out) hb); (try clear hb); (try clear hk); have hnb41 := NB139_130.out; have hnc41 := NB130_139.out; obtain ⟨hcz42_0, hcz42_1, hcz42_2, hcz42_3, hfz42_0, hfz42_1, hfz42_2, hfz42_3⟩ := cz4 BK139.out))
               go_roundg k3
               case measure => have := HJ3.out; have := HJ9.out; have := HK3.out; omega
               case rel => exact ⟨(wrap64 (x9_3 + 1)), (x131000_3), (2), J4, H', ⟨J115⟩, ⟨by (with_reducible repeat (first | apply Kd.R_alloc | apply Kd.R_drewN | apply Kd.R_drew)); exact Kd.R_mono (Kd.R_far (p := ⟨gb139, 0, none⟩) (Kd.R_types HO_140001.out BK139.out J11) (fun _ hk => hk.2) (.int .i64 2)) (fun _ hk => trivial)⟩, ⟨J40⟩, ⟨J91⟩, ⟨J10⟩⟩
            ·have H' := zq H
             clear H
             have p140 : 0 ≤ (x9_3 : Int) := of_decide_eq_true J3
             have q140 : x9_3 < (l1.length : Int) := of_decide_eq_true J3
             obtain ⟨ad140, e140, hx140_0, hx140_1⟩ := Xcf HR1.out x9_3 p140 q140
             cases e140
             replace hx140_0 := yh HB hx140_0
             replace hx140_1 := yh HB hx140_1
             replace p140 := eq_true p140
             replace q140 := eq_true q140
             go_wp2_with (first | ((with_reducible refine Xg (f := 71) rfl ?_); refine Xt (some 46) rfl rfl Tryd.func71 J8 rfl #[.agg #[.int .i64 ((Xv l1 x9_3).f0), .int .i64 ((Xv l1 x9_3).f1)]] rfl J1 ?_; (with_reducible refine (X4.calls k3 ((Xv l1 x9_3).f0) ((Xv l1 x9_3).f1) true _ A24.out).mono ?_); rintro e w43 ⟨rfl, hb⟩; refine ⟨_, rfl, ?_⟩; replace HO_140001 := zq (Kd.R_below (zr HO_140001.out) hb); replace BK130 := zq (Xh (g := gb130) (o := .cells #[.int .i64 x131000_3, .slice none 0 0, .slice none 0 0, .slice none 0 0] 32 (0, 0)) (zk BK130.out) hb); replace BK139 := zq (Xh (g := gb139) (o := .cells #[.int .i64 x140000_3, .slice Ao14 y136.length co14, .slice none 0 0, .slice none 0 0] 32 (0, 0)) (zk BK139.out) hb); replace HB := zq (Xd (zs2 GE130.out GE139.out) hb); (try clear hb); (try clear hk); have p142 : 0 ≤ (x9_3 : Int) := of_decide_eq_true J3; have q142 : x9_3 < (l1.length : Int) := of_decide_eq_true J3; obtain ⟨ad142, e142, hx142_0, hx142_1⟩ := Xcf HR1.out x9_3 p142 q142; obtain rfl : ad140 = ad142 := (by injection e142); replace hx142_0 := yh HB hx142_0; replace hx142_1 := yh HB hx142_1; replace p142 := eq_true p142; replace q142 := eq_true q142) | ((with_reducible refine Xg (f := 72) rfl ?_); refine Xt (some 55) rfl rfl Tryd.func72 J8 rfl #[.agg #[.int .i64 ((Xv l1 x9_3).f0), .int .i64 ((Xv l1 x9_3).f1)]] rfl J1 ?_; (with_reducible refine (Xs.calls k3 ((Xv l1 x9_3).f0) ((Xv l1 x9_3).f1) t143 true _ A26.out).mono ?_); rintro e w44 ⟨rfl, hb⟩; refine ⟨_, rfl, ?_⟩; replace HO_140001 := zq (Kd.R_below (zr HO_140001.out) hb); replace BK130 := zq (Xh (g := gb130) (o := .cells #[.int .i64 x131000_3, .slice none 0 0, .slice none 0 0, .slice none 0 0] 32 (0, 0)) (zk BK130.out) hb); replace BK139 := zq (Xh (g := gb139) (o := .cells #[.int .i64 x140000_3, .slice Ao14 y136.length co14, .slice none 0 0, .slice none 0 0] 32 (0, 0)) (zk BK139.out) hb); replace HB := zq (Xd (zs2 GE130.out GE139.out) hb); (try clear hb); (try clear hk); have hnb45 := NB139_130.out; have hnc45 := NB130_139.out; obtain ⟨hcz46_0, hcz46_1, hcz46_2, hcz46_3, hfz46_0, hfz46_1, hfz46_2, hfz46_3⟩ := cz4 BK139.out))
             go_roundg k3
             case measure => have := HJ3.out; have := HJ9.out; have := HK3.out; omega
             case rel => exact ⟨(wrap64 (x9_3 + 1)), (x131000_3), (x140000_3), J4, H', ⟨J115⟩, ⟨J95⟩, ⟨J42⟩, ⟨J78⟩, ⟨J10⟩⟩
           ·have H' := zq H
            clear H
            have p140 : 0 ≤ (x9_3 : Int) := of_decide_eq_true J3
            have q140 : x9_3 < (l1.length : Int) := of_decide_eq_true J3
            obtain ⟨ad140, e140, hx140_0, hx140_1⟩ := Xcf HR1.out x9_3 p140 q140
            cases e140
            replace hx140_0 := yh HB hx140_0
            replace hx140_1 := yh HB hx140_1
            replace p140 := eq_true p140
            replace q140 := eq_true q140
            go_wp2_with (first | ((with_reducible refine Xg (f := 71) rfl ?_); refine Xt (some 46) rfl rfl Tryd.func71 J8 rfl #[.agg #[.int .i64 ((Xv l1 x9_3).f0), .int .i64 ((Xv l1 x9_3).f1)]] rfl J1 ?_; (with_reducible refine (X4.calls k3 ((Xv l1 x9_3).f0) ((Xv l1 x9_3).f1) true _ A24.out).mono ?_); rintro e w47 ⟨rfl, hb⟩; refine ⟨_, rfl, ?_⟩; replace HO_140001 := zq (Kd.R_below (zr HO_140001.out) hb); replace BK130 := zq (Xh (g := gb130) (o := .cells #[.int .i64 x131000_3, .slice none 0 0, .slice none 0 0, .slice none 0 0] 32 (0, 0)) (zk BK130.out) hb); replace BK139 := zq (Xh (g := gb139) (o := .cells #[.int .i64 x140000_3, .slice Ao14 y136.length co14, .slice none 0 0, .slice none 0 0] 32 (0, 0)) (zk BK139.out) hb); replace HB := zq (Xd (zs2 GE130.out GE139.out) hb); (try clear hb); (try clear hk); have p142 : 0 ≤ (x9_3 : Int) := of_decide_eq_true J3; have q142 : x9_3 < (l1.length : Int) := of_decide_eq_true J3; obtain ⟨ad142, e142, hx142_0, hx142_1⟩ := Xcf HR1.out x9_3 p142 q142; obtain rfl : ad140 = ad142 := (by injection e142); replace hx142_0 := yh HB hx142_0; replace hx142_1 := yh HB hx142_1; replace p142 := eq_true p142; replace q142 := eq_true q142) | ((with_reducible refine Xg (f := 72) rfl ?_); refine Xt (some 55) rfl rfl Tryd.func72 J8 rfl #[.agg #[.int .i64 ((Xv l1 x9_3).f0), .int .i64 ((Xv l1 x9_3).f1)]] rfl J1 ?_; (with_reducible refine (Xs.calls k3 ((Xv l1 x9_3).f0) ((Xv l1 x9_3).f1) t143 false _ A26.out).mono ?_); rintro e w48 ⟨rfl, hb⟩; refine ⟨_, rfl, ?_⟩; replace HO_140001 := zq (Kd.R_below (zr HO_140001.out) hb); replace BK130 := zq (Xh (g := gb130) (o := .cells #[.int .i64 x131000_3, .slice none 0 0, .slice none 0 0, .slice none 0 0] 32 (0, 0)) (zk BK130.out) hb); replace BK139 := zq (Xh (g := gb139) (o := .cells #[.int .i64 x140000_3, .slice Ao14 y136.length co14, .slice none 0 0, .slice none 0 0] 32 (0, 0)) (zk BK139.out) hb); replace HB := zq (Xd (zs2 GE130.out GE139.out) hb); (try clear hb); (try clear hk); have hnb49 := NB139_130.out; have hnc49 := NB130_139.out; obtain ⟨hcz50_0, hcz50_1, hcz50_2, hcz50_3, hfz50_0, hfz50_1, hfz50_2, hfz50_3⟩ := cz4 BK139.out))
            go_roundg k3
            case measure => have := HJ3.out; have := HJ9.out; have := HK3.out; omega
            case rel => exact ⟨(wrap64 (x9_3 + 1)), (x131000_3), (4), J4, H', ⟨J115⟩, ⟨by (with_reducible repeat (first | apply Kd.R_alloc | apply Kd.R_drewN | apply Kd.R_drew)); exact Kd.R_mono (Kd.R_far (p := ⟨gb139, 0, none⟩) (Kd.R_types HO_140001.out BK139.out J11) (fun _ hk => hk.2) (.int .i64 4)) (fun _ hk => trivial)⟩, ⟨J40⟩, ⟨J91⟩, ⟨J10⟩⟩
          ·obtain ⟨rfl, rfl, rfl, rfl, rfl⟩ := yp5 H
           have p140 : 0 ≤ (x9_3 : Int) := of_decide_eq_true J3
           have q140 : x9_3 < (l1.length : Int) := of_decide_eq_true J3
           obtain ⟨ad140, e140, hx140_0, hx140_1⟩ := Xcf HR1.out x9_3 p140 q140
           cases e140
           replace hx140_0 := yh HB hx140_0
           replace hx140_1 := yh HB hx140_1
           replace p140 := eq_true p140
           replace q140 := eq_true q140
           go_wp2_with (first | ((with_reducible refine Xg (f := 71) rfl ?_); refine Xt (some 46) rfl rfl Tryd.func71 J8 rfl #[.agg #[.int .i64 ((Xv l1 x9_3).f0), .int .i64 ((Xv l1 x9_3).f1)]] rfl J1 ?_; (with_reducible refine (X4.calls k3 ((Xv l1 x9_3).f0) ((Xv l1 x9_3).f1) false _ A24.out).mono ?_); rintro e w51 ⟨rfl, hb⟩; refine ⟨_, rfl, ?_⟩; replace HO_140001 := zq (Kd.R_below (zr HO_140001.out) hb); replace BK130 := zq (Xh (g := gb130) (o := .cells #[.int .i64 x131000_3, .slice none 0 0, .slice none 0 0, .slice none 0 0] 32 (0, 0)) (zk BK130.out) hb); replace BK139 := zq (Xh (g := gb139) (o := .cells #[.int .i64 x140000_3, .slice Ao14 y136.length co14, .slice none 0 0, .slice none 0 0] 32 (0, 0)) (zk BK139.out) hb); replace HB := zq (Xd (zs2 GE130.out GE139.out) hb); (try clear hb); (try clear hk); have hnb52 := NB130_139.out; have hnc52 := NB139_130.out; obtain ⟨hcz53_0, hcz53_1, hcz53_2, hcz53_3, hfz53_0, hfz53_1, hfz53_2, hfz53_3⟩ := cz4 BK130.out))
           refine bodyPost_ret (Xa1 rfl _ _ gb130 32 #[.int .i64 0, .slice none 0 0, .slice none 0 0, .slice none 0 0] (0, 0) _ rfl (by (with_reducible repeat (first | refine Xc ?_ _ | refine Xe ?_ | refine Xb ?_ _)); refine Xj (cs := #[.int .i64 0, .slice none 0 0, .slice none 0 0, .slice none 0 0]) ?_ 3 _ rfl; (with_reducible repeat (first | refine Xc ?_ _ | refine Xe ?_ | refine Xb ?_ _)); refine Xj (cs := #[.int .i64 0, .slice none 0 0, .slice none 0 0, .slice none 0 0]) ?_ 2 _ rfl; (with_reducible repeat (first | refine Xc ?_ _ | refine Xe ?_ | refine Xb ?_ _)); refine Xj (cs := #[.int .i64 0, .slice none 0 0, .slice none 0 0, .slice none 0 0]) ?_ 1 _ rfl; (with_reducible repeat (first | refine Xc ?_ _ | refine Xe ?_ | refine Xb ?_ _)); refine Xj (cs := #[.int .i64 x131000_3, .slice none 0 0, .slice none 0 0, .slice none 0 0]) ?_ 0 _ rfl; (with_reducible repeat (first | refine Xc ?_ _ | refine Xe ?_ | refine Xb ?_ _)); exact BK130.out) Tryd.underlying32 rfl J8) rfl ?_
           exact ⟨_, _, _, J2, J9, J9, J9, J10⟩
         ·exact absurd H J88
        ·exact absurd H J88
       have H' := zq H
       clear H
       go_wp2
       go_loopg [13] k3 (fun kq v13 w' => ∃ (x13_4 : Int) (x140002_4 : List Int) (x140003_4 : List (S40)) (u140002 : Value) (u140003 : Value), v13 = .int .i64 x13_4 ∧ Aside0 (deckleref11_Numbers.l1 kq l1 t131 x13_4 x140000_3 y136 x140002_4 x140003_4 = some (r1, r2, r3, r4, r5)) ∧ Aside0 (kq ≤ k3) ∧ Aside0 (Kd.R (Kd.int .i64) 3 w' w.heap.size (fun k_ => some k_ ≠ (u140002 : Value).ownBlock) (.slice Ao14 y136.length co14) y136) ∧ Aside0 (Kd.R (Kd.int .i64) 3 w' w.heap.size (fun k_ => some k_ ≠ ((.slice Ao14 y136.length co14) : Value).ownBlock) u140002 x140002_4) ∧ Aside0 (Kd.R k40 40 w' w.heap.size (fun _ => True) u140003 x140003_4) ∧ Aside0 (w'.heap[gb130]? = some (.cells #[.int .i64 x131000_3, (.slice none 0 0), (.slice none 0 0), (.slice none 0 0)] 32 (0, 0))) ∧ Aside0 (w'.heap[gb139]? = some (.cells #[.int .i64 x140000_3, (.slice Ao14 y136.length co14), u140002, u140003] 32 (0, 0))) ∧ Aside0 (Below w.heap.size w w'))
       case atStart => exact ⟨(0), (([] : List Int)), (([] : List (S40))), (.slice none 0 0), (.slice none 0 0), J4, H', ⟨Nat.le_refl _⟩, ⟨by (with_reducible repeat (first | apply Kd.R_alloc | apply Kd.R_drewN | apply Kd.R_drew)); exact Kd.R_mono HO_140001.out (fun _ hk => (by simp [Value.ownBlock]))⟩, ⟨J9⟩, ⟨J9⟩, ⟨J42⟩, ⟨J78⟩, ⟨J10⟩⟩
       case round =>
        clear H'
        try clear c1
        try clear c9
        try clear c21b0
        try clear hcz17_0
        try clear hcz17_1
        try clear hcz17_2
        try clear hcz17_3
        try clear hfz17_0
        try clear hfz17_1
        try clear hfz17_2
        try clear hfz17_3
        obtain ⟨x13_4, x140002_4, x140003_4, u140002, u140003, rfl, HA, HK4, HO_140001, HO_140002, HO_140003, BK130, BK139, HB⟩ := hrel
        cases gk with
        | zero => exact absurd HA.out (by simp [deckleref11_Numbers.l1])
        | succ k4 =>
         have H := HA.out
         clear HA
         simp only [deckleref11_Numbers.l1] at H
         refine yd H ?_ ?_ <;> clear H <;> rintro c54b0 H
         ·obtain ⟨rfl, rfl, rfl, rfl, rfl⟩ := yp5 H
          have hnb74 := NB139_130.out
          have hnc74 := NB130_139.out
          obtain ⟨hcz75_0, hcz75_1, hcz75_2, hcz75_3, hfz75_0, hfz75_1, hfz75_2, hfz75_3⟩ := cz4 BK139.out
          obtain ⟨hcz76_0, hcz76_1, hcz76_2, hcz76_3, hfz76_0, hfz76_1, hfz76_2, hfz76_3⟩ := cz4 BK130.out
          obtain ⟨Ao77, co77, eo77⟩ := Kd.R_slice HO_140002.out
          subst eo77
          obtain ⟨Ao78, co78, eo78⟩ := Kd.R_slice HO_140003.out
          subst eo78
          go_wp2
          refine bodyPost_ret (Xa1 rfl _ _ gb130 32 #[.int .i64 x140000_3, .slice Ao14 y136.length co14, .slice Ao77 x140002_4.length co77, .slice Ao78 x140003_4.length co78] (0, 0) _ rfl (by (with_reducible repeat (first | refine Xc ?_ _ | refine Xe ?_ | refine Xb ?_ _)); refine Xj (cs := #[.int .i64 x140000_3, .slice Ao14 y136.length co14, .slice Ao77 x140002_4.length co77, .slice none 0 0]) ?_ 3 _ rfl; (with_reducible repeat (first | refine Xc ?_ _ | refine Xe ?_ | refine Xb ?_ _)); refine Xj (cs := #[.int .i64 x140000_3, .slice Ao14 y136.length co14, .slice none 0 0, .slice none 0 0]) ?_ 2 _ rfl; (with_reducible repeat (first | refine Xc ?_ _ | refine Xe ?_ | refine Xb ?_ _)); refine Xj (cs := #[.int .i64 x140000_3, .slice none 0 0, .slice none 0 0, .slice none 0 0]) ?_ 1 _ rfl; (with_reducible repeat (first | refine Xc ?_ _ | refine Xe ?_ | refine Xb ?_ _)); refine Xj (cs := #[.int .i64 x131000_3, .slice none 0 0, .slice none 0 0, .slice none 0 0]) ?_ 0 _ rfl; (with_reducible repeat (first | refine Xc ?_ _ | refine Xe ?_ | refine Xb ?_ _)); exact BK130.out) Tryd.underlying32 rfl J8) rfl ?_
          exact ⟨_, _, _, J2, by (with_reducible repeat (first | apply Kd.R_alloc | apply Kd.R_drewN | apply Kd.R_drew)); exact Kd.R_mono (Kd.R_far (p := ⟨gb130, 3, none⟩) (Kd.R_far (p := ⟨gb130, 2, none⟩) (Kd.R_far (p := ⟨gb130, 1, none⟩) (Kd.R_far (p := ⟨gb130, 0, none⟩) (Kd.R_types HO_140001.out BK130.out J11) (fun _ hk => hk.2) (.int .i64 x140000_3)) (fun _ hk => hk.2) (.slice Ao14 y136.length co14)) (fun _ hk => hk.2) (.slice Ao77 x140002_4.length co77)) (fun _ hk => hk.2) (.slice Ao78 x140003_4.length co78)) (fun _ hk => hk.1), by (with_reducible repeat (first | apply Kd.R_alloc | apply Kd.R_drewN | apply Kd.R_drew)); exact Kd.R_mono (Kd.R_far (p := ⟨gb130, 3, none⟩) (Kd.R_far (p := ⟨gb130, 2, none⟩) (Kd.R_far (p := ⟨gb130, 1, none⟩) (Kd.R_far (p := ⟨gb130, 0, none⟩) (Kd.R_types HO_140002.out BK130.out J11) (fun _ hk => hk.2) (.int .i64 x140000_3)) (fun _ hk => hk.2) (.slice Ao14 y136.length co14)) (fun _ hk => hk.2) (.slice Ao77 x140002_4.length co77)) (fun _ hk => hk.2) (.slice Ao78 x140003_4.length co78)) (fun _ hk => hk.1), by (with_reducible repeat (first | apply Kd.R_alloc | apply Kd.R_drewN | apply Kd.R_drew)); exact Kd.R_mono (Kd.R_far (p := ⟨gb130, 3, none⟩) (Kd.R_far (p := ⟨gb130, 2, none⟩) (Kd.R_far (p := ⟨gb130, 1, none⟩) (Kd.R_far (p := ⟨gb130, 0, none⟩) (Kd.R_types HO_140003.out BK130.out J11) (fun _ hk => hk.2) (.int .i64 x140000_3)) (fun _ hk => hk.2) (.slice Ao14 y136.length co14)) (fun _ hk => hk.2) (.slice Ao77 x140002_4.length co77)) (fun _ hk => hk.2) (.slice Ao78 x140003_4.length co78)) (fun _ hk => trivial), J10⟩
         refine yj H ?_; clear H; intro c55b0 H
         refine yj H ?_; clear H; intro c56b0 H
         refine yv H ?_; clear H; rintro ⟨t146, t147⟩ A57 H
         dsimp only at H
         refine yE H ?_ ?_ <;> clear H <;> rintro ⟨c58b0, c58b1, c58⟩ H
         ·refine yu H ?_ ?_ <;> clear H <;> rintro c67 H
          ·have LMc67 := zq c67
           clear c67
           obtain ⟨y152, hy152⟩ : ∃ y_ : List Int, y_ = (x140002_4 ++ [t146]) := ⟨_, rfl⟩
           replace H : (deckleref11_Numbers.l1 k4 l1 t131 (wrap64 (x13_4 + 1)) x140000_3 y136 y152 x140003_4) = some (r1, r2, r3, r4, r5) := by first | (rw [hy152]; with_reducible exact H) | (have H2_ := (Option.bind_some _ _).symm.trans H; rw [hy152]; with_reducible exact H2_) | (have H2_ := (Option.bind_some _ _).symm.trans H; with_reducible exact H2_) | with_reducible exact H | (rw [hy152]; exact H) | exact H
           have Ny152 := zq hy152
           clear hy152
           have H' := zq H
           clear H
           have p145 : 0 ≤ (x13_4 : Int) := of_decide_eq_true J3
           have q145 : x13_4 < (l1.length : Int) := of_decide_eq_true J3
           obtain ⟨ad145, e145, hx145_0, hx145_1⟩ := Xcf HR1.out x13_4 p145 q145
           cases e145
           replace hx145_0 := yh HB hx145_0
           replace hx145_1 := yh HB hx145_1
           replace p145 := eq_true p145
           replace q145 := eq_true q145
           go_wp2_with (first | ((with_reducible refine Xg (f := 72) rfl ?_); refine Xt (some 83) rfl rfl Tryd.func72 J8 rfl #[.agg #[.int .i64 ((Xv l1 x13_4).f0), .int .i64 ((Xv l1 x13_4).f1)]] rfl J1 ?_; (with_reducible refine (Xs.calls k4 ((Xv l1 x13_4).f0) ((Xv l1 x13_4).f1) t146 t147 _ A57.out).mono ?_); rintro e w68 ⟨rfl, hb⟩; refine ⟨_, rfl, ?_⟩; replace HO_140001 := zq (Kd.R_below (zr HO_140001.out) hb); replace HO_140002 := zq (Kd.R_below (zr HO_140002.out) hb); replace HO_140003 := zq (Kd.R_below (zr HO_140003.out) hb); replace BK130 := zq (Xh (g := gb130) (o := .cells #[.int .i64 x131000_3, .slice none 0 0, .slice none 0 0, .slice none 0 0] 32 (0, 0)) (zk BK130.out) hb); replace BK139 := zq (Xh (g := gb139) (o := .cells #[.int .i64 x140000_3, .slice Ao14 y136.length co14, u140002, u140003] 32 (0, 0)) (zk BK139.out) hb); replace HB := zq (Xd (zs2 GE130.out GE139.out) hb); (try clear hb); (try clear hk); have hnb69 := NB139_130.out; have hnc69 := NB130_139.out; obtain ⟨hcz70_0, hcz70_1, hcz70_2, hcz70_3, hfz70_0, hfz70_1, hfz70_2, hfz70_3⟩ := cz4 BK139.out) | ((with_reducible refine Xbt (b := .append) (xs := #[.tmp 99, .tmp 101]) rfl ?_); (try (refine Xaz Xa5 ?_; dsimp only)); at_builtin; refine Kd.R_append (Kd.int .i64) (w0 := w) w.heap.size rfl (.tmp 99) (.tmp 101) 29 3 (.int .i64 0) 8 rfl Tryd.underlying29 info3 rfl J11 J35 u140002 x140002_4 t146 [.int .i64 t146] (fun k_ => some k_ ≠ (.slice Ao14 y136.length co14 : Value).ownBlock) (fun _ => False) rfl rfl ?aP (fun _ hk => hk.elim) ?aF ?aO ?aB ?aS ?aL ?_; (case aP => exact rfl); (case aB => exact (zs2 GE130.out GE139.out)); (case aF => exact (fun k_ hk => Kd.fresh' (Kd.R_lt (zr HO_140001.out)) k_ hk)); (case aO => exact (zr HO_140002.out)); (case aS => exact (Xf (zs2 GE130.out GE139.out))); (case aL => have := LMc67.out; omega); intro v153 w71 ho hb hg hat; rw [← Ny152.out] at ho; replace HO_140001 := zq (Kd.R_after (ok := (fun _ => True)) (by (with_reducible repeat (first | apply Kd.R_alloc | apply Kd.R_drewN | apply Kd.R_drew)); exact Kd.R_mono HO_140001.out (fun _ hk => ⟨trivial, hk⟩)) hg hat); replace HO_140003 := zq (Kd.R_over' (zr HO_140003.out) (Kd.R_typed (zr HO_140002.out)) J11 hg); replace BK130 := zq (Xb7 (g := gb130) (o := .cells #[.int .i64 x131000_3, .slice none 0 0, .slice none 0 0, .slice none 0 0] 32 (0, 0)) (zk BK130.out) hg (Kd.R_ne HO_140002.out BK130.out J11)); replace BK139 := zq (Xb7 (g := gb139) (o := .cells #[.int .i64 x140000_3, .slice Ao14 y136.length co14, u140002, u140003] 32 (0, 0)) (zk BK139.out) hg (Kd.R_ne HO_140002.out BK139.out J11)); replace HB := zq (hb); have HO154 := zq (ho); clear HO_140002; clear ho hb hg hat; obtain ⟨Ao72, co72, eo72⟩ := Kd.R_slice HO154.out; subst eo72; obtain ⟨hcz73_0, hcz73_1, hcz73_2, hcz73_3, hfz73_0, hfz73_1, hfz73_2, hfz73_3⟩ := cz4 BK139.out))
           go_roundg k4
           case measure => have := HJ3.out; have := HJ9.out; have := HK3.out; have := HK4.out; omega
           case rel => exact ⟨(wrap64 (x13_4 + 1)), (y152), (x140003_4), (.slice Ao72 y152.length co72), (u140003), J4, H', ⟨by have := HJ3.out; have := HJ9.out; have := HK3.out; have := HK4.out; omega⟩, ⟨by (with_reducible repeat (first | apply Kd.R_alloc | apply Kd.R_drewN | apply Kd.R_drew)); exact Kd.R_mono (Kd.R_far (p := ⟨gb139, 2, none⟩) (Kd.R_types HO_140001.out BK139.out J11) (fun _ hk => hk.2) (.slice Ao72 y152.length co72)) (fun _ hk => hk.1.2)⟩, ⟨by (with_reducible repeat (first | apply Kd.R_alloc | apply Kd.R_drewN | apply Kd.R_drew)); exact Kd.R_mono (Kd.R_far (p := ⟨gb139, 2, none⟩) (Kd.R_types HO154.out BK139.out J11) (fun _ hk => hk.2) (.slice Ao72 y152.length co72)) (fun _ hk => hk.1)⟩, ⟨by (with_reducible repeat (first | apply Kd.R_alloc | apply Kd.R_drewN | apply Kd.R_drew)); exact Kd.R_mono (Kd.R_far (p := ⟨gb139, 2, none⟩) (Kd.R_types HO_140003.out BK139.out J11) (fun _ hk => hk.2) (.slice Ao72 y152.length co72)) (fun _ hk => trivial)⟩, ⟨J40⟩, ⟨by (with_reducible repeat (first | refine Xc ?_ _ | refine Xe ?_ | refine Xb ?_ _)); refine Xj (cs := #[.int .i64 x140000_3, .slice Ao14 y136.length co14, u140002, u140003]) ?_ 2 _ rfl; (with_reducible repeat (first | refine Xc ?_ _ | refine Xe ?_ | refine Xb ?_ _)); exact BK139.out⟩, ⟨J10⟩⟩
          ·exact absurd H J88
         clear c58
         refine yi H ?_; clear H; intro c59 H
         have LMc59 := zq c59
         clear c59
         obtain ⟨y149, hy149⟩ : ∃ y_ : List (S40), y_ = (x140003_4 ++ [(⟨(Xv l1 x13_4).f0, (Xv l1 x13_4).f1⟩ : S40)]) := ⟨_, rfl⟩
         replace H : (deckleref11_Numbers.l1 k4 l1 t131 (wrap64 (x13_4 + 1)) x140000_3 y136 x140002_4 y149) = some (r1, r2, r3, r4, r5) := by first | (rw [hy149]; with_reducible exact H) | (have H2_ := (Option.bind_some _ _).symm.trans H; rw [hy149]; with_reducible exact H2_) | (have H2_ := (Option.bind_some _ _).symm.trans H; with_reducible exact H2_) | with_reducible exact H | (rw [hy149]; exact H) | exact H
         have Ny149 := zq hy149
         clear hy149
         have H' := zq H
         clear H
         have p145 : 0 ≤ (x13_4 : Int) := of_decide_eq_true J3
         have q145 : x13_4 < (l1.length : Int) := of_decide_eq_true J3
         obtain ⟨ad145, e145, hx145_0, hx145_1⟩ := Xcf HR1.out x13_4 p145 q145
         cases e145
         replace hx145_0 := yh HB hx145_0
         replace hx145_1 := yh HB hx145_1
         replace p145 := eq_true p145
         replace q145 := eq_true q145
         try go_wp2_with (first | ((with_reducible refine Xg (f := 72) rfl ?_); refine Xt (some 83) rfl rfl Tryd.func72 J8 rfl #[.agg #[.int .i64 ((Xv l1 x13_4).f0), .int .i64 ((Xv l1 x13_4).f1)]] rfl J1 ?_; (with_reducible refine (Xs.calls k4 ((Xv l1 x13_4).f0) ((Xv l1 x13_4).f1) t146 t147 _ A57.out).mono ?_); rintro e w60 ⟨rfl, hb⟩; refine ⟨_, rfl, ?_⟩; replace HO_140001 := zq (Kd.R_below (zr HO_140001.out) hb); replace HO_140002 := zq (Kd.R_below (zr HO_140002.out) hb); replace HO_140003 := zq (Kd.R_below (zr HO_140003.out) hb); replace BK130 := zq (Xh (g := gb130) (o := .cells #[.int .i64 x131000_3, .slice none 0 0, .slice none 0 0, .slice none 0 0] 32 (0, 0)) (zk BK130.out) hb); replace BK139 := zq (Xh (g := gb139) (o := .cells #[.int .i64 x140000_3, .slice Ao14 y136.length co14, u140002, u140003] 32 (0, 0)) (zk BK139.out) hb); replace HB := zq (Xd (zs2 GE130.out GE139.out) hb); (try clear hb); (try clear hk); have hnb61 := NB139_130.out; have hnc61 := NB130_139.out; obtain ⟨hcz62_0, hcz62_1, hcz62_2, hcz62_3, hfz62_0, hfz62_1, hfz62_2, hfz62_3⟩ := cz4 BK139.out))
         replace HO_140001 := zq (Kd.R_drew HO_140001.out)
         replace HO_140002 := zq (Kd.R_drew HO_140002.out)
         replace HO_140003 := zq (Kd.R_drew HO_140003.out)
         replace BK130 := zq (Xe BK130.out)
         replace BK139 := zq (Xe BK139.out)
         replace HB := zq (X8 HB.out)
         have p148 : 0 ≤ (x13_4 : Int) := of_decide_eq_true J3
         have q148 : x13_4 < (l1.length : Int) := of_decide_eq_true J3
         obtain ⟨ad148, e148, hx148_0, hx148_1⟩ := Xcf HR1.out x13_4 p148 q148
         have hw148_1 := hx148_1
         have hw148_0 := hx148_0
         obtain rfl : ad145 = ad148 := (by injection e148)
         replace hx148_0 := yh HB hx148_0
         replace hx148_1 := yh HB hx148_1
         replace p148 := eq_true p148
         replace q148 := eq_true q148
         refine Xeh (n := 10) (S := fun w' => w'.cell? ⟨gb139, 0, none⟩ = some (.int .i64 x140000_3) ∧ w'.cell? ⟨gb139, 1, none⟩ = some (.slice Ao14 y136.length co14) ∧ w'.cell? ⟨gb139, 2, none⟩ = some (u140002) ∧ w'.cell? ⟨gb139, 3, none⟩ = some (u140003) ∧ w'.cell? (ad145.add ((x13_4).toNat * 2)) = some (.int .i64 ((Xv l1 x13_4).f0)) ∧ w'.cell? ⟨(ad145.add ((x13_4).toNat * 2)).block, (ad145.add ((x13_4).toNat * 2)).off + 1, none⟩ = some (.int .i64 ((Xv l1 x13_4).f1))) (ds := [9]) #[Z,Z,Z,Z,Z,Z,Z,Z,Z,Z] J8 rfl rfl ⟨(Xm BK139.out 0).trans rfl, (Xm BK139.out 1).trans rfl, (Xm BK139.out 2).trans rfl, (Xm BK139.out 3).trans rfl, ((HB.out.cell (World.block_lt_of_cell? w _ hw148_0)).trans hw148_0), ((HB.out.cell (World.block_lt_of_cell? w _ hw148_1)).trans hw148_1)⟩ (fun hHeld => ?_); refine Xc7 deckleref11_Numbers.tab23 deckleref11_Numbers.bits23 (fun HT_ HW_ => ?_)
         generalize w60.drew = w63 at HO_140001 HO_140002 HO_140003 BK130 BK139 HB hx148_0 hx148_1 hHeld ⊢
         refine Xbs (i := 0) (N := some 89) (v := ?_) (a' := ?_) #[Y,Z,Z,Z,Z,Z,Z,Z,Z,Z] rfl rfl (Xbc HT_.out J8) (fun _ _ _ h => h) (Or.inl ⟨Xa5, ?_⟩) ?_ ?_
         rotate_left
         ·exact pz0
         rotate_left
         ·exact pz1
         refine Xbs (i := 2) (N := some 91) (v := ?_) (a' := ?_) #[Y,Z,Y,Z,Z,Z,Z,Z,Z,Z] rfl rfl (Xbc HT_.out J8) (fun _ _ _ h => h) (Or.inl ⟨Xa5, ?_⟩) ?_ ?_
         rotate_left
         ·exact pz0
         rotate_left
         ·exact pz1
         refine Xbs (i := 3) (N := some 92) (v := ?_) (a' := ?_) #[Y,Z,Y,Y,Z,Z,Z,Z,Z,Z] rfl rfl (Xbc HT_.out J8) (fun _ _ _ h => h) (Or.inl ⟨Xa5, ?_⟩) ?_ ?_
         rotate_left
         ·exact pz0
         rotate_left
         ·exact pz1
         refine Xbs (i := 4) (N := some 93) (v := ?_) (a' := ?_) #[Y,Z,Y,Y,Y,Z,Z,Z,Z,Z] rfl rfl (Xbc HT_.out J8) (fun _ _ _ h => h) (Or.inl ⟨Xa5, ?_⟩) ?_ ?_
         rotate_left
         ·exact pz0
         rotate_left
         ·exact pz1
         refine Xd1 (i := 1) (N := some 90) (v := ?_) (a' := ?_) #[Y,Y,Y,Y,Y,Z,Z,Z,Z,Z] rfl rfl (Xcw HT_.out HW_.out J8) (fun _ _ _ h => h) (Or.inl ⟨Xa5, ?_⟩) hHeld ?_ ?_
         rotate_left
         ·rintro w' ⟨s0, s1, s2, s3, s4, s5⟩
          go_simp
          with_reducible rfl
         rotate_left
         ·exact pz1
         refine Xd1 (i := 5) (N := some 94) (v := ?_) (a' := ?_) #[Y,Y,Y,Y,Y,Y,Z,Z,Z,Z] rfl rfl (Xcw HT_.out HW_.out J8) (fun _ _ _ h => h) (Or.inl ⟨Xa5, ?_⟩) hHeld ?_ ?_
         rotate_left
         ·rintro w' ⟨s0, s1, s2, s3, s4, s5⟩
          go_simp
          with_reducible rfl
         rotate_left
         ·exact pz1
         refine Xdy (i := 6) (N := some 95) #[Y,Y,Y,Y,Y,Y,Y,Z,Z,Z] rfl rfl (Xct HT_.out J8) J11 (fun K hK => ?_)
         refine value_ (w1 := ?_) (v := ?_) Xa5 rfl ?_ ?_
         rotate_left 2
         ·go_simp
          constructor
          ·rfl
          ·rfl
         refine hK.out _ _ ⟨(Xm (Xb BK139.out _) 0).trans rfl, (Xm (Xb BK139.out _) 1).trans rfl, (Xm (Xb BK139.out _) 2).trans rfl, (Xm (Xb BK139.out _) 3).trans rfl, (World.cell?_alloc_lt _ _ _ (World.block_lt_of_cell? _ _ (((HB.out.cell (World.block_lt_of_cell? w _ hw148_0)).trans hw148_0)))).trans (((HB.out.cell (World.block_lt_of_cell? w _ hw148_0)).trans hw148_0)), (World.cell?_alloc_lt _ _ _ (World.block_lt_of_cell? _ _ (((HB.out.cell (World.block_lt_of_cell? w _ hw148_1)).trans hw148_1)))).trans (((HB.out.cell (World.block_lt_of_cell? w _ hw148_1)).trans hw148_1))⟩ (fun hHeld => ?_)
         clear hK K
         refine Xcl (a' := ?_) ?_ ?_
         rotate_left
         ·show Act.put _ (some 95) _ = _
          simp only [Act.put, List.setIfInBounds_toArray, List.set_cons_zero, List.set_cons_succ, Xbd, Xbh]
          rfl
         refine Xdy (i := 7) (N := some 96) #[Y,Y,Y,Y,Y,Y,Y,Y,Z,Z] rfl rfl (Xct HT_.out J8) J11 (fun K hK => ?_)
         refine Kd.R_append_step k40 (w0 := w) w.heap.size Xa5 (.tmp 90) (.tmp 95) 30 40 (.agg #[(.int .i64 0), (.int .i64 0)]) 16 rfl Tryd.underlying30 info40 rfl J11 J35 u140003 x140003_4 (⟨(Xv l1 x13_4).f0, (Xv l1 x13_4).f1⟩ : S40) [.int .i64 ((Xv l1 x13_4).f0), .int .i64 ((Xv l1 x13_4).f1)] (fun _ => True) (fun _ => False) rfl rfl ?aP (fun _ hk => hk.elim) ?aF ?aO ?aB ?aS ?aL ?_
         (case aP => exact Xde _ _ _ (⟨(Xv l1 x13_4).f0, (Xv l1 x13_4).f1⟩ : S40))
         (case aB => exact (zs2 GE130.out GE139.out))
         (case aF => exact (fun _ _ => trivial))
         (case aO => exact (zr HO_140003.out))
         (case aS => exact (Xf (zs2 GE130.out GE139.out)))
         (case aL => have := LMc59.out; omega)
         intro v150 w64 ho hb hg hat
         rw [← Ny149.out] at ho
         replace HO_140001 := zq (Kd.R_over' (zr HO_140001.out) (Kd.R_typed (zr HO_140003.out)) J11 hg)
         replace HO_140002 := zq (Kd.R_over' (zr HO_140002.out) (Kd.R_typed (zr HO_140003.out)) J11 hg)
         replace BK130 := zq (Xb7 (g := gb130) (o := .cells #[.int .i64 x131000_3, .slice none 0 0, .slice none 0 0, .slice none 0 0] 32 (0, 0)) (zk BK130.out) hg (Kd.R_ne HO_140003.out BK130.out J11))
         replace BK139 := zq (Xb7 (g := gb139) (o := .cells #[.int .i64 x140000_3, .slice Ao14 y136.length co14, u140002, u140003] 32 (0, 0)) (zk BK139.out) hg (Kd.R_ne HO_140003.out BK139.out J11))
         replace HB := zq (hb)
         have HO151 := zq (ho)
         clear HO_140003
         clear ho hb hg hat
         obtain ⟨Ao65, co65, eo65⟩ := Kd.R_slice HO151.out
         (first | subst eo65 | (injection eo65 with f1_ f2_ f3_; have f4_ := f1_.symm; have f5_ := f3_.symm; clear f1_ f2_ f3_; subst f4_; subst f5_))
         refine hK.out _ _ ⟨(Xm BK139.out 0).trans rfl, (Xm BK139.out 1).trans rfl, (Xm BK139.out 2).trans rfl, (Xm BK139.out 3).trans rfl, ((HB.out.cell (World.block_lt_of_cell? w _ hw148_0)).trans hw148_0), ((HB.out.cell (World.block_lt_of_cell? w _ hw148_1)).trans hw148_1)⟩ (fun hHeld => ?_)
         clear hK K
         refine Xcl (a' := ?_) ?_ ?_
         rotate_left
         ·show Act.put _ (some 96) _ = _
          simp only [Act.put, List.setIfInBounds_toArray, List.set_cons_zero, List.set_cons_succ, Xbd, Xbh]
          rfl
         refine Xbs (i := 8) (N := some 97) (v := ?_) (a' := ?_) #[Y,Y,Y,Y,Y,Y,Y,Y,Y,Z] rfl rfl (Xbc HT_.out J8) (fun _ _ _ h => h) (Or.inl ⟨Xa5, ?_⟩) ?_ ?_
         rotate_left
         ·exact pz0
         rotate_left
         ·exact pz1
         refine last_ (i := 9) (N := none) #[Y,Y,Y,Y,Y,Y,Y,Y,Y,Y] rfl rfl (Xct HT_.out J8) J11 (fun K hK => ?_)
         have hs66 : w64.cell? ⟨gb139, 3, none⟩ = some (u140003) := (Xm BK139.out 3).trans rfl
         have hfs66 := Xa8 BK139.out 3
         have hns66_0 := NB130_139.out
         have hms66_0 := NB139_130.out
         refine skip_ (w1 := ?_) Xa5 rfl ?_ ?_
         rotate_left
         ·go_simp
          rfl
         refine hK.out _ _ ?_
         clear hK K
         refine done_ (Xdz HT_.out J8) ?_
         try go_wp2
         go_roundg k4
         case measure => have := HJ3.out; have := HJ9.out; have := HK3.out; have := HK4.out; omega
         case rel => exact ⟨(wrap64 (x13_4 + 1)), (x140002_4), (y149), (u140002), (.slice Ao65 y149.length co65), J4, H', ⟨by have := HJ3.out; have := HJ9.out; have := HK3.out; have := HK4.out; omega⟩, ⟨by (with_reducible repeat (first | apply Kd.R_alloc | apply Kd.R_drewN | apply Kd.R_drew)); exact Kd.R_mono (Kd.R_far (p := ⟨gb139, 3, none⟩) (Kd.R_types HO_140001.out BK139.out J11) (fun _ hk => hk.2) (.slice Ao65 y149.length co65)) (fun _ hk => hk.1)⟩, ⟨by (with_reducible repeat (first | apply Kd.R_alloc | apply Kd.R_drewN | apply Kd.R_drew)); exact Kd.R_mono (Kd.R_far (p := ⟨gb139, 3, none⟩) (Kd.R_types HO_140002.out BK139.out J11) (fun _ hk => hk.2) (.slice Ao65 y149.length co65)) (fun _ hk => hk.1)⟩, ⟨by (with_reducible repeat (first | apply Kd.R_alloc | apply Kd.R_drewN | apply Kd.R_drew)); exact Kd.R_mono (Kd.R_far (p := ⟨gb139, 3, none⟩) (Kd.R_types HO151.out BK139.out J11) (fun _ hk => hk.2) (.slice Ao65 y149.length co65)) (fun _ hk => trivial)⟩, ⟨J40⟩, ⟨by (with_reducible repeat (first | refine Xc ?_ _ | refine Xe ?_ | refine Xb ?_ _)); refine Xj (cs := #[.int .i64 x140000_3, .slice Ao14 y136.length co14, u140002, u140003]) ?_ 3 _ rfl; (with_reducible repeat (first | refine Xc ?_ _ | refine Xe ?_ | refine Xb ?_ _)); exact BK139.out⟩, ⟨J10⟩⟩
end Go.Proofs.YtfjhiiaahbjaiaaDoor.HSystemFirst
