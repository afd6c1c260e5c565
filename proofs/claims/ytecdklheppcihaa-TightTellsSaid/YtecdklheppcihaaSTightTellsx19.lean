/- Words and walks, shortened by a program: what this claim's functions answer, and that other memory stays. -/
import Derived.Test.YtecdklheppcihaaSTightTellsx0
import Derived.Test.YtecdklheppcihaaSTightTellsx15
import Derived.Test.YtecdklheppcihaaSTightTellsx16
import Derived.Test.YtecdklheppcihaaSTightTellsx18
namespace Go.Proofs.Ytecdklheppcihaa.HTightTells
open Go.RowKit Go.Proofs.YtecdklheppcihaaW.PrintWords Go.Proofs.YtecdklheppcihaaW.PrintWords.Kd Go.Proofs.YtecdklheppcihaaW.PrintLast Go.Proofs.YtecdklheppcihaaW.PrintMore Go.Proofs.YtecdklheppcihaaW.PrintMore.Kd
attribute [local go_sem] Xbp Xbn Xbu Xbt Xbg Xbf Xbo Xbm
set_option linter.unusedVariables false
set_option linter.unusedSimpArgs false
mutual
def deckleref11_Numbers.j0 : Nat → List Int → List (S38) → Int → Bool → Option (Int × List Int × List Int × (List (S38)) × Bool)
 | 0, _, _, _, _ => none
 | k + 1, x0, x1, x6, x28 => if x28 = true then (some (0, ([] : List Int), ([] : List Int), ([] : List (S38)), false)) else ((some (([] : List Int) : List Int)).bind fun y626 => (if y626.length + x0.length < 17592186044416 then ((some (y626 ++ x0 : List Int)).bind fun y629 => (if x6 = 0 then (deckleref11_Numbers.j1 k x1 x6 2 y629) else (deckleref11_Numbers.j1 k x1 x6 1 y629))) else (none)))
def deckleref11_Numbers.j1 : Nat → List (S38) → Int → Int → List Int → Option (Int × List Int × List Int × (List (S38)) × Bool)
 | 0, _, _, _, _ => none
 | k + 1, x1, x6, x633000, x633001 => deckleref11_Numbers.l0 k x1 x6 0 x633000 x633001
def deckleref11_Numbers.l0 : Nat → List (S38) → Int → Int → Int → List Int → Option (Int × List Int × List Int × (List (S38)) × Bool)
 | 0, _, _, _, _, _ => none
 | k + 1, x1, x6, x9, x633000, x633001 => if x9 < x6 then (if 0 ≤ x9 then (if x9 < (x1.length : Int) then ((Xar.f k ((Xt x1 x9).f0) ((Xt x1 x9).f1)).bind fun t634 => (if t634 = true then ((Xu.f k ((Xt x1 x9).f0) ((Xt x1 x9).f1)).bind fun bt636 => (if bt636.2 = true then (if x633000 = 1 then (if bt636.1 = 0 then (deckleref11_Numbers.l0 k x1 x6 (wrap64 (x9 + 1)) x633000 x633001) else (if bt636.1 = 1 then (deckleref11_Numbers.l0 k x1 x6 (wrap64 (x9 + 1)) x633000 x633001) else (deckleref11_Numbers.l0 k x1 x6 (wrap64 (x9 + 1)) 2 x633001))) else (deckleref11_Numbers.l0 k x1 x6 (wrap64 (x9 + 1)) x633000 x633001)) else (deckleref11_Numbers.l0 k x1 x6 (wrap64 (x9 + 1)) 4 x633001))) else (some (0, ([] : List Int), ([] : List Int), ([] : List (S38)), false)))) else (none)) else (none)) else (deckleref11_Numbers.l1 k x1 x6 0 x633000 x633001 ([] : List Int) ([] : List (S38)))
def deckleref11_Numbers.l1 : Nat → List (S38) → Int → Int → Int → List Int → List Int → List (S38) → Option (Int × List Int × List Int × (List (S38)) × Bool)
 | 0, _, _, _, _, _, _, _ => none
 | k + 1, x1, x6, x13, x633000, x633001, x633002, x633003 => if x13 < x6 then (if 0 ≤ x13 then (if x13 < (x1.length : Int) then ((Xu.f k ((Xt x1 x13).f0) ((Xt x1 x13).f1)).bind fun bt639 => (if x633000 = 4 then (if x633003.length < 8796093022208 then (deckleref11_Numbers.l1 k x1 x6 (wrap64 (x13 + 1)) x633000 x633001 x633002 (x633003 ++ [(⟨(Xt x1 x13).f0, (Xt x1 x13).f1⟩ : S38)])) else (none)) else (if x633002.length < 17592186044416 then (deckleref11_Numbers.l1 k x1 x6 (wrap64 (x13 + 1)) x633000 x633001 (x633002 ++ [bt639.1]) x633003) else (none)))) else (none)) else (none)) else (some (x633000, x633001, x633002, x633003, true))
end
def deckleref11_Numbers.f (k : Nat) (l0 : List Int) (l1 : List (S38)) : Option (Int × List Int × List Int × (List (S38)) × Bool) := (Xv.f k l0).bind fun bt624 => (if bt624.2 = true then (deckleref11_Numbers.j0 k l0 l1 bt624.1 (bt624.1 != (l1.length : Int))) else (deckleref11_Numbers.j0 k l0 l1 bt624.1 true))
def deckleref11_Numbers.T23 : Bool × List (List Nat × List Nat) := (true, [([], []), ([0], [0]), ([], []), ([], []), ([2, 3], [2, 3]), ([4], [4]), ([5], [5]), ([1, 6], [1, 6]), ([0, 1, 2, 3, 4, 5, 6, 7], []), ([8, 7, 7, 0, 1, 2, 3, 4, 5, 6, 7], [7, 8])])
def deckleref11_Numbers.B23 : List Nat := [0, 1, 0, 0, 12, 28, 60, 127, 255, 511]
theorem deckleref11_Numbers.tab23 : Xch .any (opsOf Try.f14 23) = deckleref11_Numbers.T23 := J17
theorem deckleref11_Numbers.bits23 : Xcf deckleref11_Numbers.T23.2 deckleref11_Numbers.B23 = true := J17
set_option maxHeartbeats 8000000 in
set_option maxRecDepth 100000 in
theorem deckleref11_Numbers.calls (k : Nat) (A0 : Option Addr) (c0 : Nat) (l0 : List Int) (A1 : Option Addr) (c1 : Nat) (l1 : List (S38)) (r1 : Int) (r2 : List Int) (r3 : List Int) (r4 : List (S38)) (r5 : Bool) (w : World) (hr0 : Kd.C (Kd.int .i64) w A0 l0.length l0) (hc0 : l0.length ≤ c0) (hr1 : Kd.C k38 w A1 l1.length l1) (hc1 : l1.length ≤ c1) (h : deckleref11_Numbers.f k l0 l1 = some (r1, r2, r3, r4, r5)) :
  Calls Try.prog 14 #[.slice A0 l0.length c0, .slice A1 l1.length c1] w fun e w' => ∃ v1_ v2_ v3_ : Value, e = .returned (.tuple #[.agg #[.int .i64 r1, v1_, v2_, v3_], .bool r5]) ∧ Kd.R (Kd.int .i64) 3 w' w.heap.size (fun k_ => some k_ ≠ (v2_ : Value).ownBlock) v1_ r2 ∧ Kd.R (Kd.int .i64) 3 w' w.heap.size (fun k_ => some k_ ≠ (v1_ : Value).ownBlock) v2_ r3 ∧ Kd.R k38 38 w' w.heap.size (fun _ => True) v3_ r4 ∧ Below w.heap.size w w' := by
 have hu30 := Try.underlying30
 have hu38 := Try.underlying38
 have HR0 := zq hr0
 have HC0 := zq hc0
 clear hr0 hc0
 have HR1 := zq hr1
 have HC1 := zq hc1
 clear hr1 hc1
 have HB := zq (Below.refl w.heap.size w)
 unfold deckleref11_Numbers.f at h
 have H := h
 clear h
 refine yv H ?_; clear H; rintro ⟨t624, t625⟩ A3 H
 dsimp only at H
 have HC4 := zq H
 clear H
 go_enter Try.func14, Try.ntmps14
 go_upto_region 2 with (first | ((with_reducible refine Xj (N := 4) rfl ?_); (try (refine Xw J63 ?_; dsimp only)); refine bxw 4 30 #[.int .i64 0, .slice none 0 0, .slice none 0 0, .slice none 0 0] ?_; intro gb623 hg w5 hbox hb; have BK623 := zq (hbox); have GE623 := zq ((J22 : w.heap.size ≤ gb623)); replace HB := zq (Xe J0 hb); clear hb hbox hg) | ((with_reducible refine Xi (f := 39) rfl ?_); refine gL 18 Try.func39 #[.slice A0 l0.length c0] (Xv.calls k _ _ l0 t624 t625 _ (zc (ac HR0.out HB.out)) HC0.out A3.out) ?_; rintro e w' ⟨rfl, ⟨nd, rfl⟩⟩; refine ⟨_, rfl, ?_⟩))
 (try simp only [Act.put, List.setIfInBounds_toArray, List.set_cons_zero, List.set_cons_succ])
 go_cut [28] (fun v28 wc => ∃ (kq : Nat) (x28_3 : Bool), v28 = .bool x28_3 ∧ Aside0 (deckleref11_Numbers.j0 kq l0 l1 t624 x28_3 = some (r1, r2, r3, r4, r5)) ∧ Aside0 (kq ≤ k) ∧ Aside0 (wc.heap[gb623]? = some (.cells #[.int .i64 0, (.slice none 0 0), (.slice none 0 0), (.slice none 0 0)] 30 (0, 0))) ∧ Aside0 (Below w.heap.size w wc))
 case first =>
  have H := HC4.out
  clear HC4
  refine yC H ?_ ?_ <;> clear H <;> rintro rfl H
  ·have H' := zq H
   clear H
   go_wp2
   go_meet
   case rel => exact ⟨_, ((t624 != (l1.length : Int))), J4, H', ⟨J32⟩, ⟨J48⟩, ⟨J96⟩⟩
  have H' := zq H
  clear H
  go_wp2
  go_meet
  case rel => exact ⟨_, (true), J4, H', ⟨J32⟩, ⟨J48⟩, ⟨J96⟩⟩
 case rest =>
  clear HC4
  try clear c1
  obtain ⟨kq, x28_3, rfl, HA, HJ3, BK623, HB⟩ := hcut
  cases kq with
  | zero => exact absurd HA.out (by simp [deckleref11_Numbers.j0])
  | succ kj3 =>
   have H := HA.out
   clear HA
   simp only [deckleref11_Numbers.j0] at H
   refine yC H ?_ ?_ <;> clear H <;> rintro rfl H
   ·obtain ⟨rfl, rfl, rfl, rfl, rfl⟩ := yp5 H
    have Z8 := cz4 BK623.out
    go_wp2
    refine bodyPost_ret (Xa6 rfl _ _ gb623 30 #[.int .i64 0, .slice none 0 0, .slice none 0 0, .slice none 0 0] (0, 0) _ rfl (by (with_reducible repeat (first | refine Xd ?_ _ | refine Xf ?_ | refine Xb ?_ _)); refine Xk (cs := #[.int .i64 0, .slice none 0 0, .slice none 0 0, .slice none 0 0]) ?_ 3 _ rfl; (with_reducible repeat (first | refine Xd ?_ _ | refine Xf ?_ | refine Xb ?_ _)); refine Xk (cs := #[.int .i64 0, .slice none 0 0, .slice none 0 0, .slice none 0 0]) ?_ 2 _ rfl; (with_reducible repeat (first | refine Xd ?_ _ | refine Xf ?_ | refine Xb ?_ _)); refine Xk (cs := #[.int .i64 0, .slice none 0 0, .slice none 0 0, .slice none 0 0]) ?_ 1 _ rfl; (with_reducible repeat (first | refine Xd ?_ _ | refine Xf ?_ | refine Xb ?_ _)); refine Xk (cs := #[.int .i64 0, .slice none 0 0, .slice none 0 0, .slice none 0 0]) ?_ 0 _ rfl; (with_reducible repeat (first | refine Xd ?_ _ | refine Xf ?_ | refine Xb ?_ _)); exact BK623.out) Try.underlying30 rfl J17) rfl ?_
    exact ⟨_, _, _, J1, J8, J8, J8, J96⟩
   refine yl H ?_; clear H; rintro y626 Ny626 H
   refine yi H ?_; clear H; intro c9 H
   have LMc9 := zq c9
   clear c9
   refine yl H ?_; clear H; rintro y629 Ny629 H
   have HC10 := zq H
   clear H
   go_upto_if 35 with (first | ((with_reducible refine Xj (N := 30) rfl ?_); (try (refine Xw J63 ?_; dsimp only)); refine b7 (Kd.int .i64) _ 3 ?hg (N := 30) ?hd (xs := ([] : List Int)) (inner := []) (ok := fun _ => True) (okp := fun _ => True) ?hr ?hp (fun _ hk => hk) trivial (Below.refl _ _) (Nat.le_refl _) J83 ?_; (case hd => rfl); (case hg => rfl); (case hr => first | (go_simp; done) | (go_simp; rfl)); (case hp => exact (Reps.none _ _)); intro v627 w11 ho12 hb hg_ hnew_; clear hg_ hnew_; (first | rw [← Ny626.out] at ho12 | (simp only [Int.reduceToNat] at ho12; rw [← Ny626.out] at ho12)); have n0_ := zq (ag ho12 (Xc (zs1 GE623.out))); have n1_ := zq (Xg (zk BK623.out) hb); have n2_ := zq (Xe (zs1 GE623.out) hb); clear BK623; clear HB; have HO628 := n0_; have BK623 := n1_; have HB := n2_; clear n0_ n1_ n2_; clear hb ho12) | ((with_reducible refine Xa0 (b := .append) (xs := #[.tmp 30, .tmp 31]) rfl ?_); (try (refine Xw J63 ?_; dsimp only)); at_builtin; refine aI (Kd.int .i64) (w0 := w) w.heap.size rfl (.tmp 30) (.tmp 31) 23 3 (.int .i64 0) 8 rfl Try.underlying23 Xcm rfl J14 J29 v627 y626 l0 _ _ _ (fun _ => True) (fun _ => False) rfl rfl ?aO ?aR (fun _ _ h => h) (fun _ h => h.elim) ?aF ?aB ?aS ?aL ?_; (case aR => repeat (first | exact (ac HR0.out HB.out) | (with_reducible refine Kd.C_alloc ?_ _) | (with_reducible refine au ?_ _) | (with_reducible refine Kd.C_drew ?_))); (case aB => exact (zs1 GE623.out)); (case aF => exact (fun _ _ => trivial)); (case aO => exact (zr HO628.out)); (case aS => exact (Xc (zs1 GE623.out))); (case aL => have := LMc9.out; omega); intro v630 w13 ho hb hg hat; rw [← Ny629.out] at ho; have n0_ := zq (Xa9 (g := gb623) (o := .cells #[.int .i64 0, .slice none 0 0, .slice none 0 0, .slice none 0 0] 30 (0, 0)) (zk BK623.out) hg (bk HO628.out BK623.out J14)); have n1_ := zq (hb); have n2_ := zq (ho); clear BK623; clear HB; clear HO628; have BK623 := n0_; have HB := n1_; have HO631 := n2_; clear n0_ n1_ n2_; clear ho hb hg hat; obtain ⟨Ao14, co14, eo14⟩ := ah HO631.out; subst eo14) | ((with_reducible refine Xj (N := 8) rfl ?_); (try (refine Xw J63 ?_; dsimp only)); refine box_event ?hg (N := 8) ?hd (cs := #[.int .i64 0, .slice none 0 0, .slice none 0 0, .slice none 0 0]) (t := 30) ?hr ?_; (case hd => rfl); (case hg => rfl); (case hr => first | (go_simp; done) | (go_simp; rfl)); intro gb632 hg w15 hbox hb; have n0_ := zq (ab (zr HO631.out) hb); have n1_ := zq (Xg (zk BK623.out) hb); have n2_ := zq (Xe (zs1 GE623.out) hb); have n3_ := zq (hbox); have n4_ := zq ((by rw [hg]; exact (Xc (zs1 GE623.out)) : w.heap.size ≤ gb632)); have n5_ := zq ((by rw [hg]; exact (Xc (zs1 GE623.out)) : w.heap.size ≤ gb632)); have n6_ := zq ((by rw [hg]; exact Nat.ne_of_lt (Xbd (g := gb623) (o := .cells #[.int .i64 0, .slice none 0 0, .slice none 0 0, .slice none 0 0] 30 (0, 0)) (zk BK623.out)) : gb623 ≠ gb632)); have n7_ := zq ((by rw [hg]; exact Nat.ne_of_gt (Xbd (g := gb623) (o := .cells #[.int .i64 0, .slice none 0 0, .slice none 0 0, .slice none 0 0] 30 (0, 0)) (zk BK623.out)) : gb632 ≠ gb623)); clear HO631; clear BK623; clear HB; have HO631 := n0_; have BK623 := n1_; have HB := n2_; have BK632 := n3_; have GW632 := n4_; have GE632 := n5_; have NB623_632 := n6_; have NB632_623 := n7_; clear n0_ n1_ n2_ n3_ n4_ n5_ n6_ n7_; clear hb hbox hg; have hnb16 := NB632_623.out; have hnc16 := NB623_632.out; have hcz17_0 : w15.cell? ⟨gb632, 0, none⟩ = some (.int .i64 0) := (Xx BK632.out 0).trans rfl; have hcz17_1 : w15.cell? ⟨gb632, 1, none⟩ = some (.slice none 0 0) := (Xx BK632.out 1).trans rfl; have hcz17_2 : w15.cell? ⟨gb632, 2, none⟩ = some (.slice none 0 0) := (Xx BK632.out 2).trans rfl; have hcz17_3 : w15.cell? ⟨gb632, 3, none⟩ = some (.slice none 0 0) := (Xx BK632.out 3).trans rfl; have hfz17_0 := Xa3 BK632.out 0; have hfz17_1 := Xa3 BK632.out 1; have hfz17_2 := Xa3 BK632.out 2; have hfz17_3 := Xa3 BK632.out 3))
   (try simp only [Act.put, List.setIfInBounds_toArray, List.set_cons_zero, List.set_cons_succ])
   go_cut [] (fun wc => ∃ (kq : Nat) (x633000_9 : Int), Aside0 (deckleref11_Numbers.j1 kq l1 t624 x633000_9 y629 = some (r1, r2, r3, r4, r5)) ∧ Aside0 (kq ≤ kj3) ∧ Aside0 (Kd.R (Kd.int .i64) 3 wc w.heap.size (fun _ => True) (.slice Ao14 y629.length co14) y629) ∧ Aside0 (wc.heap[gb623]? = some (.cells #[.int .i64 0, (.slice none 0 0), (.slice none 0 0), (.slice none 0 0)] 30 (0, 0))) ∧ Aside0 (wc.heap[gb632]? = some (.cells #[.int .i64 x633000_9, (.slice Ao14 y629.length co14), (.slice none 0 0), (.slice none 0 0)] 30 (0, 0))) ∧ Aside0 (Below w.heap.size w wc))
   case first =>
    have H := HC10.out
    clear HC10
    refine yE H ?_ ?_ <;> clear H <;> rintro ⟨c18b0, c18b1, c18⟩ H
    ·(first | rw [c18b0] | (simp only [Xan, Xaq]; rw [c18b0]) | skip)
     have H' := zq H
     clear H
     go_wp2
     go_meet
     case rel => exact ⟨_, (1), H', ⟨by have := HJ3.out; first | omega | exact Nat.le_refl _⟩, ⟨by (with_reducible repeat (first | apply Kd.R_alloc | apply ai | apply ak)); exact af (fR4 (al HO631.out BK632.out J14)) (fun _ hk => trivial)⟩, ⟨by (with_reducible repeat (first | refine Xd ?_ _ | refine Xf ?_ | refine Xb ?_ _)); refine Xab ?_ NB623_632.out _; (with_reducible repeat (first | refine Xd ?_ _ | refine Xf ?_ | refine Xb ?_ _)); refine Xab ?_ NB623_632.out _; (with_reducible repeat (first | refine Xd ?_ _ | refine Xf ?_ | refine Xb ?_ _)); refine Xab ?_ NB623_632.out _; (with_reducible repeat (first | refine Xd ?_ _ | refine Xf ?_ | refine Xb ?_ _)); refine Xab ?_ NB623_632.out _; (with_reducible repeat (first | refine Xd ?_ _ | refine Xf ?_ | refine Xb ?_ _)); exact BK623.out⟩, ⟨by (with_reducible repeat (first | refine Xd ?_ _ | refine Xf ?_ | refine Xb ?_ _)); refine Xk (cs := #[.int .i64 1, .slice Ao14 y629.length co14, .slice none 0 0, .slice none 0 0]) ?_ 3 _ rfl; (with_reducible repeat (first | refine Xd ?_ _ | refine Xf ?_ | refine Xb ?_ _)); refine Xk (cs := #[.int .i64 1, .slice Ao14 y629.length co14, .slice none 0 0, .slice none 0 0]) ?_ 2 _ rfl; (with_reducible repeat (first | refine Xd ?_ _ | refine Xf ?_ | refine Xb ?_ _)); refine Xk (cs := #[.int .i64 1, .slice none 0 0, .slice none 0 0, .slice none 0 0]) ?_ 1 _ rfl; (with_reducible repeat (first | refine Xd ?_ _ | refine Xf ?_ | refine Xb ?_ _)); refine Xk (cs := #[.int .i64 0, .slice none 0 0, .slice none 0 0, .slice none 0 0]) ?_ 0 _ rfl; (with_reducible repeat (first | refine Xd ?_ _ | refine Xf ?_ | refine Xb ?_ _)); exact BK632.out⟩, ⟨J12⟩⟩
    clear c18
    (first | rw [c18b0] | (simp only [Xan, Xaq]; rw [c18b0]) | skip)
    have H' := zq H
    clear H
    have hnb19 := NB632_623.out
    have hnc19 := NB623_632.out
    have Z20 := cz4 BK632.out
    go_wp2
    go_meet
    case rel => exact ⟨_, (2), H', ⟨by have := HJ3.out; first | omega | exact Nat.le_refl _⟩, ⟨by (with_reducible repeat (first | apply Kd.R_alloc | apply ai | apply ak)); exact af (fR5 (al HO631.out BK632.out J14)) (fun _ hk => trivial)⟩, ⟨by (with_reducible repeat (first | refine Xd ?_ _ | refine Xf ?_ | refine Xb ?_ _)); refine Xab ?_ NB623_632.out _; (with_reducible repeat (first | refine Xd ?_ _ | refine Xf ?_ | refine Xb ?_ _)); refine Xab ?_ NB623_632.out _; (with_reducible repeat (first | refine Xd ?_ _ | refine Xf ?_ | refine Xb ?_ _)); refine Xab ?_ NB623_632.out _; (with_reducible repeat (first | refine Xd ?_ _ | refine Xf ?_ | refine Xb ?_ _)); refine Xab ?_ NB623_632.out _; (with_reducible repeat (first | refine Xd ?_ _ | refine Xf ?_ | refine Xb ?_ _)); refine Xab ?_ NB623_632.out _; (with_reducible repeat (first | refine Xd ?_ _ | refine Xf ?_ | refine Xb ?_ _)); exact BK623.out⟩, ⟨by (with_reducible repeat (first | refine Xd ?_ _ | refine Xf ?_ | refine Xb ?_ _)); refine Xk (cs := #[.int .i64 1, .slice Ao14 y629.length co14, .slice none 0 0, .slice none 0 0]) ?_ 0 _ rfl; (with_reducible repeat (first | refine Xd ?_ _ | refine Xf ?_ | refine Xb ?_ _)); refine Xk (cs := #[.int .i64 1, .slice Ao14 y629.length co14, .slice none 0 0, .slice none 0 0]) ?_ 3 _ rfl; (with_reducible repeat (first | refine Xd ?_ _ | refine Xf ?_ | refine Xb ?_ _)); refine Xk (cs := #[.int .i64 1, .slice Ao14 y629.length co14, .slice none 0 0, .slice none 0 0]) ?_ 2 _ rfl; (with_reducible repeat (first | refine Xd ?_ _ | refine Xf ?_ | refine Xb ?_ _)); refine Xk (cs := #[.int .i64 1, .slice none 0 0, .slice none 0 0, .slice none 0 0]) ?_ 1 _ rfl; (with_reducible repeat (first | refine Xd ?_ _ | refine Xf ?_ | refine Xb ?_ _)); refine Xk (cs := #[.int .i64 0, .slice none 0 0, .slice none 0 0, .slice none 0 0]) ?_ 0 _ rfl; (with_reducible repeat (first | refine Xd ?_ _ | refine Xf ?_ | refine Xb ?_ _)); exact BK632.out⟩, ⟨J12⟩⟩
   case rest =>
    clear HC10
    try clear c1
    try clear c9
    try clear hcz17_0
    try clear hcz17_1
    try clear hcz17_2
    try clear hcz17_3
    try clear hfz17_0
    try clear hfz17_1
    try clear hfz17_2
    try clear hfz17_3
    obtain ⟨kq, x633000_9, HA, HJ9, HO_633001, BK623, BK632, HB⟩ := hcut
    cases kq with
    | zero => exact absurd HA.out (by simp [deckleref11_Numbers.j1])
    | succ kj9 =>
     have H := HA.out
     clear HA
     simp only [deckleref11_Numbers.j1] at H
     have H' := zq H
     clear H
     go_wp2
     go_loopg [9] kj9 (fun kq v9 w' => ∃ (x9_3 : Int) (x624000_3 : Int) (x633000_3 : Int), v9 = .int .i64 x9_3 ∧ Aside0 (deckleref11_Numbers.l0 kq l1 t624 x9_3 x633000_3 y629 = some (r1, r2, r3, r4, r5)) ∧ Aside0 (kq ≤ kj9) ∧ Aside0 (Kd.R (Kd.int .i64) 3 w' w.heap.size (fun _ => True) (.slice Ao14 y629.length co14) y629) ∧ Aside0 (w'.heap[gb623]? = some (.cells #[.int .i64 x624000_3, (.slice none 0 0), (.slice none 0 0), (.slice none 0 0)] 30 (0, 0))) ∧ Aside0 (w'.heap[gb632]? = some (.cells #[.int .i64 x633000_3, (.slice Ao14 y629.length co14), (.slice none 0 0), (.slice none 0 0)] 30 (0, 0))) ∧ Aside0 (Below w.heap.size w w'))
     case atStart => exact ⟨(0), (0), (x633000_9), J4, H', ⟨Nat.le_refl _⟩, ⟨J98⟩, ⟨J48⟩, ⟨J78⟩, ⟨J12⟩⟩
     case round =>
      clear H'
      try clear c1
      try clear c9
      try clear hcz17_0
      try clear hcz17_1
      try clear hcz17_2
      try clear hcz17_3
      try clear hfz17_0
      try clear hfz17_1
      try clear hfz17_2
      try clear hfz17_3
      obtain ⟨x9_3, x624000_3, x633000_3, rfl, HA, HK3, HO_633001, BK623, BK632, HB⟩ := hrel
      cases gk with
      | zero => exact absurd HA.out (by simp [deckleref11_Numbers.l0])
      | succ k3 =>
       have H := HA.out
       clear HA
       simp only [deckleref11_Numbers.l0] at H
       refine yD H ?_ ?_ <;> clear H <;> rintro c21b0 H
       ·refine yu H ?_ ?_ <;> clear H <;> rintro c22 H
        ·have c22b0 : decide (0 ≤ x9_3) = true := decide_eq_true c22
         clear c22
         refine yu H ?_ ?_ <;> clear H <;> rintro c23 H
         ·have c23b0 : decide (x9_3 < (l1.length : Int)) = true := decide_eq_true c23
          clear c23
          refine yv H ?_; clear H; rintro t634 A24 H
          refine yC H ?_ ?_ <;> clear H <;> rintro rfl H
          ·refine yv H ?_; clear H; rintro ⟨t636, t637⟩ A26 H
           dsimp only at H
           refine yC H ?_ ?_ <;> clear H <;> rintro rfl H
           ·refine yF H ?_ ?_ <;> clear H <;> rintro ⟨c28b0, c28b1, c28⟩ H
            ·clear c28
             refine yF H ?_ ?_ <;> clear H <;> rintro ⟨c29b0, c29b1, c29⟩ H
             ·clear c29
              have H' := zq H
              clear H
              obtain ⟨ad633, e633, hx633_0, hx633_1, p633, q633⟩ := rdD HR1.out HB.out x9_3
              cases e633
              go_wp2_with (first | ((with_reducible refine Xi (f := 40) rfl ?_); refine gL 46 Try.func40 #[.agg #[.int .i64 ((Xt l1 x9_3).f0), .int .i64 ((Xt l1 x9_3).f1)]] (Xar.calls k3 ((Xt l1 x9_3).f0) ((Xt l1 x9_3).f1) true _ A24.out) ?_; rintro e w30 ⟨rfl, hb⟩; refine ⟨_, rfl, ?_⟩; replace HO_633001 := zq (ab (zr HO_633001.out) hb); replace BK623 := zq (Xg (zk BK623.out) hb); replace BK632 := zq (Xg (zk BK632.out) hb); replace HB := zq (Xe (zs2 GE623.out GE632.out) hb); (try clear hb); (try clear hk); have p635 : 0 ≤ (x9_3 : Int) := of_decide_eq_true J2; have q635 : x9_3 < (l1.length : Int) := of_decide_eq_true J2; obtain ⟨ad635, e635, hx635_0, hx635_1⟩ := Xeb HR1.out x9_3 p635 q635; obtain rfl : ad633 = ad635 := (by injection e635); replace hx635_0 := yh HB hx635_0; replace hx635_1 := yh HB hx635_1; replace p635 := eq_true p635; replace q635 := eq_true q635) | ((with_reducible refine Xi (f := 41) rfl ?_); refine gL 55 Try.func41 #[.agg #[.int .i64 ((Xt l1 x9_3).f0), .int .i64 ((Xt l1 x9_3).f1)]] (Xu.calls k3 ((Xt l1 x9_3).f0) ((Xt l1 x9_3).f1) t636 true _ A26.out) ?_; rintro e w31 ⟨rfl, hb⟩; refine ⟨_, rfl, ?_⟩; replace HO_633001 := zq (ab (zr HO_633001.out) hb); replace BK623 := zq (Xg (zk BK623.out) hb); replace BK632 := zq (Xg (zk BK632.out) hb); replace HB := zq (Xe (zs2 GE623.out GE632.out) hb); (try clear hb); (try clear hk); have hnb32 := NB632_623.out; have hnc32 := NB623_632.out; have Z33 := cz4 BK632.out))
              go_roundg k3
              case measure => have := HJ3.out; have := HJ9.out; have := HK3.out; omega
              case rel => exact ⟨(wrap64 (x9_3 + 1)), (x624000_3), (x633000_3), J4, H', ⟨J120⟩, ⟨J98⟩, ⟨J48⟩, ⟨J78⟩, ⟨J12⟩⟩
             ·refine yF H ?_ ?_ <;> clear H <;> rintro ⟨c34b0, c34b1, c34⟩ H
              ·clear c34
               have H' := zq H
               clear H
               obtain ⟨ad633, e633, hx633_0, hx633_1, p633, q633⟩ := rdD HR1.out HB.out x9_3
               cases e633
               go_wp2_with (first | ((with_reducible refine Xi (f := 40) rfl ?_); refine gL 46 Try.func40 #[.agg #[.int .i64 ((Xt l1 x9_3).f0), .int .i64 ((Xt l1 x9_3).f1)]] (Xar.calls k3 ((Xt l1 x9_3).f0) ((Xt l1 x9_3).f1) true _ A24.out) ?_; rintro e w35 ⟨rfl, hb⟩; refine ⟨_, rfl, ?_⟩; replace HO_633001 := zq (ab (zr HO_633001.out) hb); replace BK623 := zq (Xg (zk BK623.out) hb); replace BK632 := zq (Xg (zk BK632.out) hb); replace HB := zq (Xe (zs2 GE623.out GE632.out) hb); (try clear hb); (try clear hk); have p635 : 0 ≤ (x9_3 : Int) := of_decide_eq_true J2; have q635 : x9_3 < (l1.length : Int) := of_decide_eq_true J2; obtain ⟨ad635, e635, hx635_0, hx635_1⟩ := Xeb HR1.out x9_3 p635 q635; obtain rfl : ad633 = ad635 := (by injection e635); replace hx635_0 := yh HB hx635_0; replace hx635_1 := yh HB hx635_1; replace p635 := eq_true p635; replace q635 := eq_true q635) | ((with_reducible refine Xi (f := 41) rfl ?_); refine gL 55 Try.func41 #[.agg #[.int .i64 ((Xt l1 x9_3).f0), .int .i64 ((Xt l1 x9_3).f1)]] (Xu.calls k3 ((Xt l1 x9_3).f0) ((Xt l1 x9_3).f1) t636 true _ A26.out) ?_; rintro e w36 ⟨rfl, hb⟩; refine ⟨_, rfl, ?_⟩; replace HO_633001 := zq (ab (zr HO_633001.out) hb); replace BK623 := zq (Xg (zk BK623.out) hb); replace BK632 := zq (Xg (zk BK632.out) hb); replace HB := zq (Xe (zs2 GE623.out GE632.out) hb); (try clear hb); (try clear hk); have hnb37 := NB632_623.out; have hnc37 := NB623_632.out; have Z38 := cz4 BK632.out))
               go_roundg k3
               case measure => have := HJ3.out; have := HJ9.out; have := HK3.out; omega
               case rel => exact ⟨(wrap64 (x9_3 + 1)), (x624000_3), (x633000_3), J4, H', ⟨J120⟩, ⟨J98⟩, ⟨J48⟩, ⟨J78⟩, ⟨J12⟩⟩
              ·have H' := zq H
               clear H
               obtain ⟨ad633, e633, hx633_0, hx633_1, p633, q633⟩ := rdD HR1.out HB.out x9_3
               cases e633
               go_wp2_with (first | ((with_reducible refine Xi (f := 40) rfl ?_); refine gL 46 Try.func40 #[.agg #[.int .i64 ((Xt l1 x9_3).f0), .int .i64 ((Xt l1 x9_3).f1)]] (Xar.calls k3 ((Xt l1 x9_3).f0) ((Xt l1 x9_3).f1) true _ A24.out) ?_; rintro e w39 ⟨rfl, hb⟩; refine ⟨_, rfl, ?_⟩; replace HO_633001 := zq (ab (zr HO_633001.out) hb); replace BK623 := zq (Xg (zk BK623.out) hb); replace BK632 := zq (Xg (zk BK632.out) hb); replace HB := zq (Xe (zs2 GE623.out GE632.out) hb); (try clear hb); (try clear hk); have p635 : 0 ≤ (x9_3 : Int) := of_decide_eq_true J2; have q635 : x9_3 < (l1.length : Int) := of_decide_eq_true J2; obtain ⟨ad635, e635, hx635_0, hx635_1⟩ := Xeb HR1.out x9_3 p635 q635; obtain rfl : ad633 = ad635 := (by injection e635); replace hx635_0 := yh HB hx635_0; replace hx635_1 := yh HB hx635_1; replace p635 := eq_true p635; replace q635 := eq_true q635) | ((with_reducible refine Xi (f := 41) rfl ?_); refine gL 55 Try.func41 #[.agg #[.int .i64 ((Xt l1 x9_3).f0), .int .i64 ((Xt l1 x9_3).f1)]] (Xu.calls k3 ((Xt l1 x9_3).f0) ((Xt l1 x9_3).f1) t636 true _ A26.out) ?_; rintro e w40 ⟨rfl, hb⟩; refine ⟨_, rfl, ?_⟩; replace HO_633001 := zq (ab (zr HO_633001.out) hb); replace BK623 := zq (Xg (zk BK623.out) hb); replace BK632 := zq (Xg (zk BK632.out) hb); replace HB := zq (Xe (zs2 GE623.out GE632.out) hb); (try clear hb); (try clear hk); have hnb41 := NB632_623.out; have hnc41 := NB623_632.out; have Z42 := cz4 BK632.out))
               go_roundg k3
               case measure => have := HJ3.out; have := HJ9.out; have := HK3.out; omega
               case rel => exact ⟨(wrap64 (x9_3 + 1)), (x624000_3), (2), J4, H', ⟨J120⟩, ⟨by (with_reducible repeat (first | apply Kd.R_alloc | apply ai | apply ak)); exact af (aX (p := ⟨gb632, 0, none⟩) (al HO_633001.out BK632.out J14) (fun _ hk => hk.2) (.int .i64 2)) (fun _ hk => trivial)⟩, ⟨J44⟩, ⟨J93⟩, ⟨J12⟩⟩
            ·have H' := zq H
             clear H
             obtain ⟨ad633, e633, hx633_0, hx633_1, p633, q633⟩ := rdD HR1.out HB.out x9_3
             cases e633
             go_wp2_with (first | ((with_reducible refine Xi (f := 40) rfl ?_); refine gL 46 Try.func40 #[.agg #[.int .i64 ((Xt l1 x9_3).f0), .int .i64 ((Xt l1 x9_3).f1)]] (Xar.calls k3 ((Xt l1 x9_3).f0) ((Xt l1 x9_3).f1) true _ A24.out) ?_; rintro e w43 ⟨rfl, hb⟩; refine ⟨_, rfl, ?_⟩; replace HO_633001 := zq (ab (zr HO_633001.out) hb); replace BK623 := zq (Xg (zk BK623.out) hb); replace BK632 := zq (Xg (zk BK632.out) hb); replace HB := zq (Xe (zs2 GE623.out GE632.out) hb); (try clear hb); (try clear hk); have p635 : 0 ≤ (x9_3 : Int) := of_decide_eq_true J2; have q635 : x9_3 < (l1.length : Int) := of_decide_eq_true J2; obtain ⟨ad635, e635, hx635_0, hx635_1⟩ := Xeb HR1.out x9_3 p635 q635; obtain rfl : ad633 = ad635 := (by injection e635); replace hx635_0 := yh HB hx635_0; replace hx635_1 := yh HB hx635_1; replace p635 := eq_true p635; replace q635 := eq_true q635) | ((with_reducible refine Xi (f := 41) rfl ?_); refine gL 55 Try.func41 #[.agg #[.int .i64 ((Xt l1 x9_3).f0), .int .i64 ((Xt l1 x9_3).f1)]] (Xu.calls k3 ((Xt l1 x9_3).f0) ((Xt l1 x9_3).f1) t636 true _ A26.out) ?_; rintro e w44 ⟨rfl, hb⟩; refine ⟨_, rfl, ?_⟩; replace HO_633001 := zq (ab (zr HO_633001.out) hb); replace BK623 := zq (Xg (zk BK623.out) hb); replace BK632 := zq (Xg (zk BK632.out) hb); replace HB := zq (Xe (zs2 GE623.out GE632.out) hb); (try clear hb); (try clear hk); have hnb45 := NB632_623.out; have hnc45 := NB623_632.out; have Z46 := cz4 BK632.out))
             go_roundg k3
             case measure => have := HJ3.out; have := HJ9.out; have := HK3.out; omega
             case rel => exact ⟨(wrap64 (x9_3 + 1)), (x624000_3), (x633000_3), J4, H', ⟨J120⟩, ⟨J98⟩, ⟨J48⟩, ⟨J78⟩, ⟨J12⟩⟩
           ·have H' := zq H
            clear H
            obtain ⟨ad633, e633, hx633_0, hx633_1, p633, q633⟩ := rdD HR1.out HB.out x9_3
            cases e633
            go_wp2_with (first | ((with_reducible refine Xi (f := 40) rfl ?_); refine gL 46 Try.func40 #[.agg #[.int .i64 ((Xt l1 x9_3).f0), .int .i64 ((Xt l1 x9_3).f1)]] (Xar.calls k3 ((Xt l1 x9_3).f0) ((Xt l1 x9_3).f1) true _ A24.out) ?_; rintro e w47 ⟨rfl, hb⟩; refine ⟨_, rfl, ?_⟩; replace HO_633001 := zq (ab (zr HO_633001.out) hb); replace BK623 := zq (Xg (zk BK623.out) hb); replace BK632 := zq (Xg (zk BK632.out) hb); replace HB := zq (Xe (zs2 GE623.out GE632.out) hb); (try clear hb); (try clear hk); have p635 : 0 ≤ (x9_3 : Int) := of_decide_eq_true J2; have q635 : x9_3 < (l1.length : Int) := of_decide_eq_true J2; obtain ⟨ad635, e635, hx635_0, hx635_1⟩ := Xeb HR1.out x9_3 p635 q635; obtain rfl : ad633 = ad635 := (by injection e635); replace hx635_0 := yh HB hx635_0; replace hx635_1 := yh HB hx635_1; replace p635 := eq_true p635; replace q635 := eq_true q635) | ((with_reducible refine Xi (f := 41) rfl ?_); refine gL 55 Try.func41 #[.agg #[.int .i64 ((Xt l1 x9_3).f0), .int .i64 ((Xt l1 x9_3).f1)]] (Xu.calls k3 ((Xt l1 x9_3).f0) ((Xt l1 x9_3).f1) t636 false _ A26.out) ?_; rintro e w48 ⟨rfl, hb⟩; refine ⟨_, rfl, ?_⟩; replace HO_633001 := zq (ab (zr HO_633001.out) hb); replace BK623 := zq (Xg (zk BK623.out) hb); replace BK632 := zq (Xg (zk BK632.out) hb); replace HB := zq (Xe (zs2 GE623.out GE632.out) hb); (try clear hb); (try clear hk); have hnb49 := NB632_623.out; have hnc49 := NB623_632.out; have Z50 := cz4 BK632.out))
            go_roundg k3
            case measure => have := HJ3.out; have := HJ9.out; have := HK3.out; omega
            case rel => exact ⟨(wrap64 (x9_3 + 1)), (x624000_3), (4), J4, H', ⟨J120⟩, ⟨by (with_reducible repeat (first | apply Kd.R_alloc | apply ai | apply ak)); exact af (aX (p := ⟨gb632, 0, none⟩) (al HO_633001.out BK632.out J14) (fun _ hk => hk.2) (.int .i64 4)) (fun _ hk => trivial)⟩, ⟨J44⟩, ⟨J93⟩, ⟨J12⟩⟩
          ·obtain ⟨rfl, rfl, rfl, rfl, rfl⟩ := yp5 H
           obtain ⟨ad633, e633, hx633_0, hx633_1, p633, q633⟩ := rdD HR1.out HB.out x9_3
           cases e633
           go_wp2_with (first | ((with_reducible refine Xi (f := 40) rfl ?_); refine gL 46 Try.func40 #[.agg #[.int .i64 ((Xt l1 x9_3).f0), .int .i64 ((Xt l1 x9_3).f1)]] (Xar.calls k3 ((Xt l1 x9_3).f0) ((Xt l1 x9_3).f1) false _ A24.out) ?_; rintro e w51 ⟨rfl, hb⟩; refine ⟨_, rfl, ?_⟩; replace HO_633001 := zq (ab (zr HO_633001.out) hb); replace BK623 := zq (Xg (zk BK623.out) hb); replace BK632 := zq (Xg (zk BK632.out) hb); replace HB := zq (Xe (zs2 GE623.out GE632.out) hb); (try clear hb); (try clear hk); have hnb52 := NB623_632.out; have hnc52 := NB632_623.out; have Z53 := cz4 BK623.out))
           refine bodyPost_ret (Xa6 rfl _ _ gb623 30 #[.int .i64 0, .slice none 0 0, .slice none 0 0, .slice none 0 0] (0, 0) _ rfl (by (with_reducible repeat (first | refine Xd ?_ _ | refine Xf ?_ | refine Xb ?_ _)); refine Xk (cs := #[.int .i64 0, .slice none 0 0, .slice none 0 0, .slice none 0 0]) ?_ 3 _ rfl; (with_reducible repeat (first | refine Xd ?_ _ | refine Xf ?_ | refine Xb ?_ _)); refine Xk (cs := #[.int .i64 0, .slice none 0 0, .slice none 0 0, .slice none 0 0]) ?_ 2 _ rfl; (with_reducible repeat (first | refine Xd ?_ _ | refine Xf ?_ | refine Xb ?_ _)); refine Xk (cs := #[.int .i64 0, .slice none 0 0, .slice none 0 0, .slice none 0 0]) ?_ 1 _ rfl; (with_reducible repeat (first | refine Xd ?_ _ | refine Xf ?_ | refine Xb ?_ _)); refine Xk (cs := #[.int .i64 x624000_3, .slice none 0 0, .slice none 0 0, .slice none 0 0]) ?_ 0 _ rfl; (with_reducible repeat (first | refine Xd ?_ _ | refine Xf ?_ | refine Xb ?_ _)); exact BK623.out) Try.underlying30 rfl J17) rfl ?_
           exact ⟨_, _, _, J1, J8, J8, J8, J12⟩
         ·exact absurd H J83
        ·exact absurd H J83
       have H' := zq H
       clear H
       go_wp2
       go_loopg [13] k3 (fun kq v13 w' => ∃ (x13_4 : Int) (x633002_4 : List Int) (x633003_4 : List (S38)) (u633002 : Value) (u633003 : Value), v13 = .int .i64 x13_4 ∧ Aside0 (deckleref11_Numbers.l1 kq l1 t624 x13_4 x633000_3 y629 x633002_4 x633003_4 = some (r1, r2, r3, r4, r5)) ∧ Aside0 (kq ≤ k3) ∧ Aside0 (Kd.R (Kd.int .i64) 3 w' w.heap.size (fun k_ => some k_ ≠ (u633002 : Value).ownBlock) (.slice Ao14 y629.length co14) y629) ∧ Aside0 (Kd.R (Kd.int .i64) 3 w' w.heap.size (fun k_ => some k_ ≠ ((.slice Ao14 y629.length co14) : Value).ownBlock) u633002 x633002_4) ∧ Aside0 (Kd.R k38 38 w' w.heap.size (fun _ => True) u633003 x633003_4) ∧ Aside0 (w'.heap[gb623]? = some (.cells #[.int .i64 x624000_3, (.slice none 0 0), (.slice none 0 0), (.slice none 0 0)] 30 (0, 0))) ∧ Aside0 (w'.heap[gb632]? = some (.cells #[.int .i64 x633000_3, (.slice Ao14 y629.length co14), u633002, u633003] 30 (0, 0))) ∧ Aside0 (Below w.heap.size w w'))
       case atStart => exact ⟨(0), (([] : List Int)), (([] : List (S38))), (.slice none 0 0), (.slice none 0 0), J4, H', ⟨Nat.le_refl _⟩, ⟨by (with_reducible repeat (first | apply Kd.R_alloc | apply ai | apply ak)); exact af HO_633001.out (fun _ hk => J118)⟩, ⟨J8⟩, ⟨J8⟩, ⟨J48⟩, ⟨J78⟩, ⟨J12⟩⟩
       case round =>
        clear H'
        try clear c1
        try clear c9
        try clear c21b0
        try clear hcz17_0
        try clear hcz17_1
        try clear hcz17_2
        try clear hcz17_3
        try clear hfz17_0
        try clear hfz17_1
        try clear hfz17_2
        try clear hfz17_3
        obtain ⟨x13_4, x633002_4, x633003_4, u633002, u633003, rfl, HA, HK4, HO_633001, HO_633002, HO_633003, BK623, BK632, HB⟩ := hrel
        cases gk with
        | zero => exact absurd HA.out (by simp [deckleref11_Numbers.l1])
        | succ k4 =>
         have H := HA.out
         clear HA
         simp only [deckleref11_Numbers.l1] at H
         refine yd H ?_ ?_ <;> clear H <;> rintro c54b0 H
         ·obtain ⟨rfl, rfl, rfl, rfl, rfl⟩ := yp5 H
          have hnb74 := NB632_623.out
          have hnc74 := NB623_632.out
          have Z75 := cz4 BK632.out
          have Z76 := cz4 BK623.out
          obtain ⟨Ao77, co77, eo77⟩ := ah HO_633002.out
          subst eo77
          obtain ⟨Ao78, co78, eo78⟩ := ah HO_633003.out
          subst eo78
          go_wp2
          refine bodyPost_ret (Xa6 rfl _ _ gb623 30 #[.int .i64 x633000_3, .slice Ao14 y629.length co14, .slice Ao77 x633002_4.length co77, .slice Ao78 x633003_4.length co78] (0, 0) _ rfl (by (with_reducible repeat (first | refine Xd ?_ _ | refine Xf ?_ | refine Xb ?_ _)); refine Xk (cs := #[.int .i64 x633000_3, .slice Ao14 y629.length co14, .slice Ao77 x633002_4.length co77, .slice none 0 0]) ?_ 3 _ rfl; (with_reducible repeat (first | refine Xd ?_ _ | refine Xf ?_ | refine Xb ?_ _)); refine Xk (cs := #[.int .i64 x633000_3, .slice Ao14 y629.length co14, .slice none 0 0, .slice none 0 0]) ?_ 2 _ rfl; (with_reducible repeat (first | refine Xd ?_ _ | refine Xf ?_ | refine Xb ?_ _)); refine Xk (cs := #[.int .i64 x633000_3, .slice none 0 0, .slice none 0 0, .slice none 0 0]) ?_ 1 _ rfl; (with_reducible repeat (first | refine Xd ?_ _ | refine Xf ?_ | refine Xb ?_ _)); refine Xk (cs := #[.int .i64 x624000_3, .slice none 0 0, .slice none 0 0, .slice none 0 0]) ?_ 0 _ rfl; (with_reducible repeat (first | refine Xd ?_ _ | refine Xf ?_ | refine Xb ?_ _)); exact BK623.out) Try.underlying30 rfl J17) rfl ?_
          exact ⟨_, _, _, J1, by (with_reducible repeat (first | apply Kd.R_alloc | apply ai | apply ak)); exact af (fR4 (al HO_633001.out BK623.out J14)) (fun _ hk => hk.1), by (with_reducible repeat (first | apply Kd.R_alloc | apply ai | apply ak)); exact af (fR4 (al HO_633002.out BK623.out J14)) (fun _ hk => hk.1), by (with_reducible repeat (first | apply Kd.R_alloc | apply ai | apply ak)); exact af (fR4 (al HO_633003.out BK623.out J14)) (fun _ hk => trivial), J12⟩
         refine yj H ?_; clear H; intro c55b0 H
         refine yj H ?_; clear H; intro c56b0 H
         refine yv H ?_; clear H; rintro ⟨t639, t640⟩ A57 H
         dsimp only at H
         refine yE H ?_ ?_ <;> clear H <;> rintro ⟨c58b0, c58b1, c58⟩ H
         ·refine yu H ?_ ?_ <;> clear H <;> rintro c67 H
          ·have LMc67 := zq c67
           clear c67
           obtain ⟨y645, hy645⟩ : ∃ y_ : List Int, y_ = (x633002_4 ++ [t639]) := ⟨_, rfl⟩
           replace H : (deckleref11_Numbers.l1 k4 l1 t624 (wrap64 (x13_4 + 1)) x633000_3 y629 y645 x633003_4) = some (r1, r2, r3, r4, r5) := by first | (rw [hy645]; with_reducible exact H) | (have H2_ := (Option.bind_some _ _).symm.trans H; rw [hy645]; with_reducible exact H2_) | (have H2_ := (Option.bind_some _ _).symm.trans H; with_reducible exact H2_) | with_reducible exact H | (rw [hy645]; exact H) | exact H
           have Ny645 := zq hy645
           clear hy645
           have H' := zq H
           clear H
           obtain ⟨ad638, e638, hx638_0, hx638_1, p638, q638⟩ := rdD HR1.out HB.out x13_4
           cases e638
           go_wp2_with (first | ((with_reducible refine Xi (f := 41) rfl ?_); refine gL 83 Try.func41 #[.agg #[.int .i64 ((Xt l1 x13_4).f0), .int .i64 ((Xt l1 x13_4).f1)]] (Xu.calls k4 ((Xt l1 x13_4).f0) ((Xt l1 x13_4).f1) t639 t640 _ A57.out) ?_; rintro e w68 ⟨rfl, hb⟩; refine ⟨_, rfl, ?_⟩; replace HO_633001 := zq (ab (zr HO_633001.out) hb); replace HO_633002 := zq (ab (zr HO_633002.out) hb); replace HO_633003 := zq (ab (zr HO_633003.out) hb); replace BK623 := zq (Xg (zk BK623.out) hb); replace BK632 := zq (Xg (zk BK632.out) hb); replace HB := zq (Xe (zs2 GE623.out GE632.out) hb); (try clear hb); (try clear hk); have hnb69 := NB632_623.out; have hnc69 := NB623_632.out; have Z70 := cz4 BK632.out) | ((with_reducible refine Xa0 (b := .append) (xs := #[.tmp 99, .tmp 101]) rfl ?_); (try (refine Xw J63 ?_; dsimp only)); at_builtin; refine br (Kd.int .i64) (w0 := w) w.heap.size rfl (.tmp 99) (.tmp 101) 23 3 (.int .i64 0) 8 rfl Try.underlying23 Xcm rfl J14 J29 u633002 x633002_4 t639 [.int .i64 t639] (fun k_ => some k_ ≠ (.slice Ao14 y629.length co14 : Value).ownBlock) (fun _ => False) rfl rfl ?aP (fun _ hk => hk.elim) ?aF ?aO ?aB ?aS ?aL ?_; (case aP => exact rfl); (case aB => exact (zs2 GE623.out GE632.out)); (case aF => exact (fun k_ hk => Kd.fresh' (aY (zr HO_633001.out)) k_ hk)); (case aO => exact (zr HO_633002.out)); (case aS => exact (Xc (zs2 GE623.out GE632.out))); (case aL => have := LMc67.out; omega); intro v646 w71 ho hb hg hat; rw [← Ny645.out] at ho; replace HO_633001 := zq (bo (ok := (fun _ => True)) (by (with_reducible repeat (first | apply Kd.R_alloc | apply ai | apply ak)); exact af HO_633001.out (fun _ hk => ⟨trivial, hk⟩)) hg hat); replace HO_633003 := zq (a9 (zr HO_633003.out) (aK (zr HO_633002.out)) J14 hg); replace BK623 := zq (Xa9 (g := gb623) (o := .cells #[.int .i64 x624000_3, .slice none 0 0, .slice none 0 0, .slice none 0 0] 30 (0, 0)) (zk BK623.out) hg (bk HO_633002.out BK623.out J14)); replace BK632 := zq (Xa9 (g := gb632) (o := .cells #[.int .i64 x633000_3, .slice Ao14 y629.length co14, u633002, u633003] 30 (0, 0)) (zk BK632.out) hg (bk HO_633002.out BK632.out J14)); replace HB := zq (hb); have HO647 := zq (ho); clear HO_633002; clear ho hb hg hat; obtain ⟨Ao72, co72, eo72⟩ := ah HO647.out; subst eo72; have Z73 := cz4 BK632.out))
           go_roundg k4
           case measure => have := HJ3.out; have := HJ9.out; have := HK3.out; have := HK4.out; omega
           case rel => exact ⟨(wrap64 (x13_4 + 1)), (y645), (x633003_4), (.slice Ao72 y645.length co72), (u633003), J4, H', ⟨by have := HJ3.out; have := HJ9.out; have := HK3.out; have := HK4.out; omega⟩, ⟨by (with_reducible repeat (first | apply Kd.R_alloc | apply ai | apply ak)); exact af (aX (p := ⟨gb632, 2, none⟩) (al HO_633001.out BK632.out J14) (fun _ hk => hk.2) (.slice Ao72 y645.length co72)) (fun _ hk => hk.1.2)⟩, ⟨by (with_reducible repeat (first | apply Kd.R_alloc | apply ai | apply ak)); exact af (aX (p := ⟨gb632, 2, none⟩) (al HO647.out BK632.out J14) (fun _ hk => hk.2) (.slice Ao72 y645.length co72)) (fun _ hk => hk.1)⟩, ⟨by (with_reducible repeat (first | apply Kd.R_alloc | apply ai | apply ak)); exact af (aX (p := ⟨gb632, 2, none⟩) (al HO_633003.out BK632.out J14) (fun _ hk => hk.2) (.slice Ao72 y645.length co72)) (fun _ hk => trivial)⟩, ⟨J44⟩, ⟨by (with_reducible repeat (first | refine Xd ?_ _ | refine Xf ?_ | refine Xb ?_ _)); refine Xk (cs := #[.int .i64 x633000_3, .slice Ao14 y629.length co14, u633002, u633003]) ?_ 2 _ rfl; (with_reducible repeat (first | refine Xd ?_ _ | refine Xf ?_ | refine Xb ?_ _)); exact BK632.out⟩, ⟨J12⟩⟩
          ·exact absurd H J83
         clear c58
         refine yi H ?_; clear H; intro c59 H
         have LMc59 := zq c59
         clear c59
         obtain ⟨y642, hy642⟩ : ∃ y_ : List (S38), y_ = (x633003_4 ++ [(⟨(Xt l1 x13_4).f0, (Xt l1 x13_4).f1⟩ : S38)]) := ⟨_, rfl⟩
         replace H : (deckleref11_Numbers.l1 k4 l1 t624 (wrap64 (x13_4 + 1)) x633000_3 y629 x633002_4 y642) = some (r1, r2, r3, r4, r5) := by first | (rw [hy642]; with_reducible exact H) | (have H2_ := (Option.bind_some _ _).symm.trans H; rw [hy642]; with_reducible exact H2_) | (have H2_ := (Option.bind_some _ _).symm.trans H; with_reducible exact H2_) | with_reducible exact H | (rw [hy642]; exact H) | exact H
         have Ny642 := zq hy642
         clear hy642
         have H' := zq H
         clear H
         obtain ⟨ad638, e638, hx638_0, hx638_1, p638, q638⟩ := rdD HR1.out HB.out x13_4
         cases e638
         try go_wp2_with (first | ((with_reducible refine Xi (f := 41) rfl ?_); refine gL 83 Try.func41 #[.agg #[.int .i64 ((Xt l1 x13_4).f0), .int .i64 ((Xt l1 x13_4).f1)]] (Xu.calls k4 ((Xt l1 x13_4).f0) ((Xt l1 x13_4).f1) t639 t640 _ A57.out) ?_; rintro e w60 ⟨rfl, hb⟩; refine ⟨_, rfl, ?_⟩; replace HO_633001 := zq (ab (zr HO_633001.out) hb); replace HO_633002 := zq (ab (zr HO_633002.out) hb); replace HO_633003 := zq (ab (zr HO_633003.out) hb); replace BK623 := zq (Xg (zk BK623.out) hb); replace BK632 := zq (Xg (zk BK632.out) hb); replace HB := zq (Xe (zs2 GE623.out GE632.out) hb); (try clear hb); (try clear hk); have hnb61 := NB632_623.out; have hnc61 := NB623_632.out; have Z62 := cz4 BK632.out))
         replace HO_633001 := zq (ak HO_633001.out)
         replace HO_633002 := zq (ak HO_633002.out)
         replace HO_633003 := zq (ak HO_633003.out)
         replace BK623 := zq (Xf BK623.out)
         replace BK632 := zq (Xf BK632.out)
         replace HB := zq (X9 HB.out)
         have p641 : 0 ≤ (x13_4 : Int) := of_decide_eq_true J2
         have q641 : x13_4 < (l1.length : Int) := of_decide_eq_true J2
         obtain ⟨ad641, e641, hx641_0, hx641_1⟩ := Xeb HR1.out x13_4 p641 q641
         have hw641_1 := hx641_1
         have hw641_0 := hx641_0
         obtain rfl : ad638 = ad641 := (by injection e641)
         replace hx641_0 := yh HB hx641_0
         replace hx641_1 := yh HB hx641_1
         replace p641 := eq_true p641
         replace q641 := eq_true q641
         refine Xdb (n := 10) (S := fun w' => hdB4ED w' gb632 (.int .i64 x633000_3) (.slice Ao14 y629.length co14) (u633002) (u633003) (ad638.add ((x13_4).toNat * 2)) (Xt l1 x13_4)) (ds := [9]) #[Z,Z,Z,Z,Z,Z,Z,Z,Z,Z] J17 rfl rfl ⟨(Xx BK632.out 0).trans rfl, (Xx BK632.out 1).trans rfl, (Xx BK632.out 2).trans rfl, (Xx BK632.out 3).trans rfl, (yh HB hw641_0), (yh HB hw641_1)⟩ (fun hHeld => ?_); refine Xb9 deckleref11_Numbers.tab23 deckleref11_Numbers.bits23 (fun HT_ HW_ => ?_)
         generalize w60.drew = w63 at HO_633001 HO_633002 HO_633003 BK623 BK632 HB hx641_0 hx641_1 hHeld ⊢
         refine Xax 0 89 #[Y,Z,Z,Z,Z,Z,Z,Z,Z,Z] HT_ ?_
         refine Xax 2 91 #[Y,Z,Y,Z,Z,Z,Z,Z,Z,Z] HT_ ?_
         refine Xax 3 92 #[Y,Z,Y,Y,Z,Z,Z,Z,Z,Z] HT_ ?_
         refine Xax 4 93 #[Y,Z,Y,Y,Y,Z,Z,Z,Z,Z] HT_ ?_
         refine Xcq (i := 1) (N := some 90) (v := ?_) (a' := ?_) #[Y,Y,Y,Y,Y,Z,Z,Z,Z,Z] rfl rfl (Xbw HT_.out HW_.out J17) (fun _ _ _ h => h) (Or.inl ⟨J63, ?_⟩) hHeld ?_ ?_
         rotate_left
         ·rintro w' ⟨s0, s1, s2, s3, s4, s5⟩
          go_simp
          with_reducible rfl
         rotate_left
         ·exact pz1
         refine Xcq (i := 5) (N := some 94) (v := ?_) (a' := ?_) #[Y,Y,Y,Y,Y,Y,Z,Z,Z,Z] rfl rfl (Xbw HT_.out HW_.out J17) (fun _ _ _ h => h) (Or.inl ⟨J63, ?_⟩) hHeld ?_ ?_
         rotate_left
         ·rintro w' ⟨s0, s1, s2, s3, s4, s5⟩
          go_simp
          with_reducible rfl
         rotate_left
         ·exact pz1
         refine Xcb (i := 6) (N := some 95) #[Y,Y,Y,Y,Y,Y,Y,Z,Z,Z] rfl rfl (Xbl HT_.out J17) J14 (fun K hK => ?_)
         refine value_ (w1 := ?_) (v := ?_) J63 rfl ?_ ?_
         rotate_left 2
         ·go_simp
          constructor
          ·rfl
          ·rfl
         refine hK.out _ _ ⟨(Xx (Xb BK632.out _) 0).trans rfl, (Xx (Xb BK632.out _) 1).trans rfl, (Xx (Xb BK632.out _) 2).trans rfl, (Xx (Xb BK632.out _) 3).trans rfl, (World.cell?_alloc_lt _ _ _ (World.block_lt_of_cell? _ _ ((yh HB hw641_0)))).trans ((yh HB hw641_0)), (World.cell?_alloc_lt _ _ _ (World.block_lt_of_cell? _ _ ((yh HB hw641_1)))).trans ((yh HB hw641_1))⟩ (fun hHeld => ?_)
         clear hK K
         refine Xap (a' := ?_) ?_ ?_
         rotate_left
         ·show Act.put _ (some 95) _ = _
          simp only [Act.put, List.setIfInBounds_toArray, List.set_cons_zero, List.set_cons_succ, Xan, Xaq]
          rfl
         refine Xcb (i := 7) (N := some 96) #[Y,Y,Y,Y,Y,Y,Y,Y,Z,Z] rfl rfl (Xbl HT_.out J17) J14 (fun K hK => ?_)
         refine bq k38 (w0 := w) w.heap.size J63 (.tmp 90) (.tmp 95) 24 38 (.agg #[(.int .i64 0), (.int .i64 0)]) 16 rfl Try.underlying24 Xdo rfl J14 J29 u633003 x633003_4 (⟨(Xt l1 x13_4).f0, (Xt l1 x13_4).f1⟩ : S38) [.int .i64 ((Xt l1 x13_4).f0), .int .i64 ((Xt l1 x13_4).f1)] (fun _ => True) (fun _ => False) rfl rfl ?aP (fun _ hk => hk.elim) ?aF ?aO ?aB ?aS ?aL ?_
         (case aP => exact Xdn _ _ _ (⟨(Xt l1 x13_4).f0, (Xt l1 x13_4).f1⟩ : S38))
         (case aB => exact (zs2 GE623.out GE632.out))
         (case aF => exact (fun _ _ => trivial))
         (case aO => exact (zr HO_633003.out))
         (case aS => exact (Xc (zs2 GE623.out GE632.out)))
         (case aL => have := LMc59.out; omega)
         intro v643 w64 ho hb hg hat
         rw [← Ny642.out] at ho
         replace HO_633001 := zq (a9 (zr HO_633001.out) (aK (zr HO_633003.out)) J14 hg)
         replace HO_633002 := zq (a9 (zr HO_633002.out) (aK (zr HO_633003.out)) J14 hg)
         replace BK623 := zq (Xa9 (g := gb623) (o := .cells #[.int .i64 x624000_3, .slice none 0 0, .slice none 0 0, .slice none 0 0] 30 (0, 0)) (zk BK623.out) hg (bk HO_633003.out BK623.out J14))
         replace BK632 := zq (Xa9 (g := gb632) (o := .cells #[.int .i64 x633000_3, .slice Ao14 y629.length co14, u633002, u633003] 30 (0, 0)) (zk BK632.out) hg (bk HO_633003.out BK632.out J14))
         replace HB := zq (hb)
         have HO644 := zq (ho)
         clear HO_633003
         clear ho hb hg hat
         obtain ⟨Ao65, co65, eo65⟩ := ah HO644.out
         (first | subst eo65 | (injection eo65 with f1_ f2_ f3_; have f4_ := f1_.symm; have f5_ := f3_.symm; clear f1_ f2_ f3_; subst f4_; subst f5_))
         refine hK.out _ _ ⟨(Xx BK632.out 0).trans rfl, (Xx BK632.out 1).trans rfl, (Xx BK632.out 2).trans rfl, (Xx BK632.out 3).trans rfl, (yh HB hw641_0), (yh HB hw641_1)⟩ (fun hHeld => ?_)
         clear hK K
         refine Xap (a' := ?_) ?_ ?_
         rotate_left
         ·show Act.put _ (some 96) _ = _
          simp only [Act.put, List.setIfInBounds_toArray, List.set_cons_zero, List.set_cons_succ, Xan, Xaq]
          rfl
         refine Xax 8 97 #[Y,Y,Y,Y,Y,Y,Y,Y,Y,Z] HT_ ?_
         refine last_ (i := 9) (N := none) #[Y,Y,Y,Y,Y,Y,Y,Y,Y,Y] rfl rfl (Xbl HT_.out J17) J14 (fun K hK => ?_)
         have hs66 : w64.cell? ⟨gb632, 3, none⟩ = some (u633003) := (Xx BK632.out 3).trans rfl
         have hfs66 := Xa3 BK632.out 3
         have hns66_0 := NB623_632.out
         have hms66_0 := NB632_623.out
         refine skip_ (w1 := ?_) J63 rfl ?_ ?_
         rotate_left
         ·go_simp
          rfl
         refine hK.out _ _ ?_
         clear hK K
         refine Xd3 (Xcw HT_.out J17) ?_
         try go_wp2
         go_roundg k4
         case measure => have := HJ3.out; have := HJ9.out; have := HK3.out; have := HK4.out; omega
         case rel => exact ⟨(wrap64 (x13_4 + 1)), (x633002_4), (y642), (u633002), (.slice Ao65 y642.length co65), J4, H', ⟨by have := HJ3.out; have := HJ9.out; have := HK3.out; have := HK4.out; omega⟩, ⟨by (with_reducible repeat (first | apply Kd.R_alloc | apply ai | apply ak)); exact af (aX (p := ⟨gb632, 3, none⟩) (al HO_633001.out BK632.out J14) (fun _ hk => hk.2) (.slice Ao65 y642.length co65)) (fun _ hk => hk.1)⟩, ⟨by (with_reducible repeat (first | apply Kd.R_alloc | apply ai | apply ak)); exact af (aX (p := ⟨gb632, 3, none⟩) (al HO_633002.out BK632.out J14) (fun _ hk => hk.2) (.slice Ao65 y642.length co65)) (fun _ hk => hk.1)⟩, ⟨by (with_reducible repeat (first | apply Kd.R_alloc | apply ai | apply ak)); exact af (aX (p := ⟨gb632, 3, none⟩) (al HO644.out BK632.out J14) (fun _ hk => hk.2) (.slice Ao65 y642.length co65)) (fun _ hk => trivial)⟩, ⟨J44⟩, ⟨by (with_reducible repeat (first | refine Xd ?_ _ | refine Xf ?_ | refine Xb ?_ _)); refine Xk (cs := #[.int .i64 x633000_3, .slice Ao14 y629.length co14, u633002, u633003]) ?_ 3 _ rfl; (with_reducible repeat (first | refine Xd ?_ _ | refine Xf ?_ | refine Xb ?_ _)); exact BK632.out⟩, ⟨J12⟩⟩
end Go.Proofs.Ytecdklheppcihaa.HTightTells
