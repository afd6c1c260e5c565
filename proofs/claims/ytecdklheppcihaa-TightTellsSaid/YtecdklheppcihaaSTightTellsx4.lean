/- Words and walks, shortened by a program: what this claim's functions answer, and that other memory stays. -/
import Derived.Test.YtecdklheppcihaaSTightTellsx0
import Derived.Test.YtecdklheppcihaaSTightTellsx2
import Derived.Test.YtecdklheppcihaaSTightTellsx3
namespace Go.Proofs.Ytecdklheppcihaa.HTightTells
open Go.RowKit Go.Proofs.YtecdklheppcihaaW.PrintWords Go.Proofs.YtecdklheppcihaaW.PrintWords.Kd Go.Proofs.YtecdklheppcihaaW.PrintLast Go.Proofs.YtecdklheppcihaaW.PrintMore Go.Proofs.YtecdklheppcihaaW.PrintMore.Kd
attribute [local go_sem] Xbp Xbn Xbu Xbt Xbg Xbf Xbo Xbm
set_option linter.unusedVariables false
set_option linter.unusedSimpArgs false
mutual
def Xp.j1 : Nat → Int → Int → Int → Int → Int → List Int → List Int → List (S38) → Option (Int)
 | 0, _, _, _, _, _, _, _, _ => none
 | k + 1, x3, x5, x6, x17, x125000, x125001, x125002, x125003 => if (x125002.length : Int) = x5 then (if (x125003.length : Int) = x6 then ((X1.f k x125002 x17).bind fun t127 => (if t127 = true then (some (-1)) else ((Xau.f k x125003).bind fun t128 => (if t128 = true then (some (-1)) else (some x3))))) else (some (-1))) else (some (-1))
def Xp.j0 : Nat → Int → Int → Int → Int → Bool → Int → List Int → List Int → List (S38) → Option (Int)
 | 0, _, _, _, _, _, _, _, _, _ => none
 | k + 1, x3, x5, x6, x17, x18, x125000, x125001, x125002, x125003 => if x18 = true then (Xp.j1 k x3 x3 x6 x17 x125000 x125001 x125002 x125003) else (if x17 = 4 then (Xp.j1 k x3 x5 x3 x17 x125000 x125001 x125002 x125003) else (if x17 = 5 then (Xp.j1 k x3 x5 x6 x17 x125000 x125001 x125002 x125003) else (some (-1))))
end
def Xp.f (k : Nat) (a0_0 : Int) (l0_1 : List Int) (l0_2 : List Int) (l0_3 : List (S38)) : Option (Int) := (Xz.f k l0_1).bind fun bt125 => (if bt125.2 = true then (if a0_0 = 1 then (Xp.j0 k bt125.1 0 0 a0_0 (a0_0 == 1) a0_0 l0_1 l0_2 l0_3) else (if a0_0 = 2 then (Xp.j0 k bt125.1 0 0 a0_0 (a0_0 == 2) a0_0 l0_1 l0_2 l0_3) else (Xp.j0 k bt125.1 0 0 a0_0 (a0_0 == 3) a0_0 l0_1 l0_2 l0_3))) else (some (-1)))
theorem Xp.mono_l : ∀ k, (∀ y0 y1 y2 y3 y4 y5 y6 y7, LeO (Xp.j1 k y0 y1 y2 y3 y4 y5 y6 y7) (Xp.j1 (k + 1) y0 y1 y2 y3 y4 y5 y6 y7)) ∧ (∀ y0 y1 y2 y3 y4 y5 y6 y7 y8, LeO (Xp.j0 k y0 y1 y2 y3 y4 y5 y6 y7 y8) (Xp.j0 (k + 1) y0 y1 y2 y3 y4 y5 y6 y7 y8))
 | 0 => ⟨fun _ _ _ _ _ _ _ _ r h => by simp [Xp.j1] at h, fun _ _ _ _ _ _ _ _ _ r h => by simp [Xp.j0] at h⟩
 | k + 1 => by
  obtain ⟨ih0, ih1⟩ := Xp.mono_l k
  refine ⟨?_, ?_⟩
  ·intro y0 y1 y2 y3 y4 y5 y6 y7
   unfold Xp.j1
   have im0 := @Xau.mono
   have im1 := @X1.mono
   have im2 := @Xz.mono
   exact mz3
  ·intro y0 y1 y2 y3 y4 y5 y6 y7 y8
   unfold Xp.j0
   have im0 := @Xau.mono
   have im1 := @X1.mono
   have im2 := @Xz.mono
   exact mz3
theorem Xp.mono : ∀ a0 a1 a2 a3 k, LeO (Xp.f k a0 a1 a2 a3) (Xp.f (k + 1) a0 a1 a2 a3) := by
 intro a0 a1 a2 a3 k
 obtain ⟨ih0, ih1⟩ := Xp.mono_l k
 unfold Xp.f
 have im0 := @Xau.mono
 have im1 := @X1.mono
 have im2 := @Xz.mono
 exact mz3
set_option maxHeartbeats 8000000 in
set_option maxRecDepth 100000 in
theorem Xp.calls (k : Nat) (a0_0 : Int) (A0_1 : Option Addr) (c0_1 : Nat) (l0_1 : List Int) (A0_2 : Option Addr) (c0_2 : Nat) (l0_2 : List Int) (A0_3 : Option Addr) (c0_3 : Nat) (l0_3 : List (S38)) (r : Int) (w : World) (hr0_1 : Kd.C (Kd.int .i64) w A0_1 l0_1.length l0_1) (hc0_1 : l0_1.length ≤ c0_1) (hr0_2 : Kd.C (Kd.int .i64) w A0_2 l0_2.length l0_2) (hc0_2 : l0_2.length ≤ c0_2) (hr0_3 : Kd.C k38 w A0_3 l0_3.length l0_3) (hc0_3 : l0_3.length ≤ c0_3) (h : Xp.f k a0_0 l0_1 l0_2 l0_3 = some r) :
  Calls Try.prog 67 #[.agg #[.int .i64 a0_0, .slice A0_1 l0_1.length c0_1, .slice A0_2 l0_2.length c0_2, .slice A0_3 l0_3.length c0_3]] w fun e w' => e = .returned (.int .i64 r) ∧ Below w.heap.size w w' := by
 have hmf : ∀ (fn : Fn) (first cap : Array Value) (w : World), (Instr.makeFunc fn first cap).run Try.prog w = .ok (.func fn first cap) w := fun _ _ _ _ => rfl
 have hu30 := Try.underlying30
 have HR0_1 := zq hr0_1
 have HC0_1 := zq hc0_1
 clear hr0_1 hc0_1
 have HR0_2 := zq hr0_2
 have HC0_2 := zq hc0_2
 clear hr0_2 hc0_2
 have HR0_3 := zq hr0_3
 have HC0_3 := zq hc0_3
 clear hr0_3 hc0_3
 have HB := zq (Below.refl w.heap.size w)
 unfold Xp.f at h
 have H := h
 clear h
 refine yv H ?_; clear H; rintro ⟨t125, t126⟩ A2 H
 dsimp only at H
 refine yB H ?_ ?_ <;> clear H <;> rintro rfl H
 ·obtain rfl := yo H
  go_enter Try.func67, Try.ntmps67
  go_wp2_with (first | ((with_reducible refine Xj (N := 1) rfl ?_); (try (refine Xw J63 ?_; dsimp only)); refine bxw 1 30 #[.int .i64 a0_0, .slice A0_1 l0_1.length c0_1, .slice A0_2 l0_2.length c0_2, .slice A0_3 l0_3.length c0_3] ?_; intro gb124 hg w26 hbox hb; have BK124 := zq (hbox); have GE124 := zq ((J22 : w.heap.size ≤ gb124)); replace HB := zq (Xe J0 hb); clear hb hbox hg; have Z27 := cz4 BK124.out) | ((with_reducible refine Xi (f := 32) rfl ?_); refine gL 11 Try.func32 #[.slice A0_1 l0_1.length c0_1] (Xz.calls k _ _ l0_1 t125 false _ (zc (ac HR0_1.out HB.out)) HC0_1.out A2.out) ?_; rintro e w' ⟨rfl, ⟨nd, rfl⟩⟩; refine ⟨_, rfl, ?_⟩))
  go_ret
  exact ⟨J1, J19⟩
 have HC4 := zq H
 clear H
 go_enter Try.func67, Try.ntmps67
 go_upto_block 0 with (first | ((with_reducible refine Xj (N := 1) rfl ?_); (try (refine Xw J63 ?_; dsimp only)); refine box_event ?hg (N := 1) ?hd (cs := #[.int .i64 a0_0, .slice A0_1 l0_1.length c0_1, .slice A0_2 l0_2.length c0_2, .slice A0_3 l0_3.length c0_3]) (t := 30) ?hr ?_; (case hd => rfl); (case hg => rfl); (case hr => first | (go_simp; done) | (go_simp; rfl)); intro gb124 hg w5 hbox hb; have n0_ := zq (Xe J0 hb); have n1_ := zq (hbox); have n2_ := zq ((J22 : w.heap.size ≤ gb124)); have n3_ := zq ((J22 : w.heap.size ≤ gb124)); clear HB; have HB := n0_; have BK124 := n1_; have GW124 := n2_; have GE124 := n3_; clear n0_ n1_ n2_ n3_; clear hb hbox hg; have hcz6_0 : w5.cell? ⟨gb124, 0, none⟩ = some (.int .i64 a0_0) := (Xx BK124.out 0).trans rfl; have hcz6_1 : w5.cell? ⟨gb124, 1, none⟩ = some (.slice A0_1 l0_1.length c0_1) := (Xx BK124.out 1).trans rfl; have hcz6_2 : w5.cell? ⟨gb124, 2, none⟩ = some (.slice A0_2 l0_2.length c0_2) := (Xx BK124.out 2).trans rfl; have hcz6_3 : w5.cell? ⟨gb124, 3, none⟩ = some (.slice A0_3 l0_3.length c0_3) := (Xx BK124.out 3).trans rfl; have hfz6_0 := Xa3 BK124.out 0; have hfz6_1 := Xa3 BK124.out 1; have hfz6_2 := Xa3 BK124.out 2; have hfz6_3 := Xa3 BK124.out 3) | ((with_reducible refine Xi (f := 32) rfl ?_); refine gL 11 Try.func32 #[.slice A0_1 l0_1.length c0_1] (Xz.calls k _ _ l0_1 t125 true _ (zc (ac HR0_1.out HB.out)) HC0_1.out A2.out) ?_; rintro e w' ⟨rfl, ⟨nd, rfl⟩⟩; refine ⟨_, rfl, ?_⟩))
 (try simp only [Act.put, List.setIfInBounds_toArray, List.set_cons_zero, List.set_cons_succ])
 go_cut [5, 6] (fun v5 v6 wc => ∃ (kq : Nat) (x5_3 : Int) (x6_3 : Int), v5 = .int .i64 x5_3 ∧ v6 = .int .i64 x6_3 ∧ Aside0 (Xp.j1 kq t125 x5_3 x6_3 a0_0 a0_0 l0_1 l0_2 l0_3 = some r) ∧ Aside0 (kq ≤ k) ∧ Aside0 (wc.heap[gb124]? = some (.cells #[.int .i64 a0_0, (.slice A0_1 l0_1.length c0_1), (.slice A0_2 l0_2.length c0_2), (.slice A0_3 l0_3.length c0_3)] 30 (0, 0))) ∧ Aside0 (Below w.heap.size w wc))
 case first =>
  have H := HC4.out
  clear HC4
  have HC7 := zq H
  clear H
  go_upto_if 18 with (fail)
  go_cut [18] (fun v18 wc => ∃ (kq : Nat) (x18_6 : Bool), v18 = .bool x18_6 ∧ Aside0 (Xp.j0 kq t125 0 0 a0_0 x18_6 a0_0 l0_1 l0_2 l0_3 = some r) ∧ Aside0 (kq ≤ k) ∧ Aside0 (wc.heap[gb124]? = some (.cells #[.int .i64 a0_0, (.slice A0_1 l0_1.length c0_1), (.slice A0_2 l0_2.length c0_2), (.slice A0_3 l0_3.length c0_3)] 30 (0, 0))) ∧ Aside0 (Below w.heap.size w wc))
  case first =>
   have H := HC7.out
   clear HC7
   refine yF H ?_ ?_ <;> clear H <;> rintro ⟨c8b0, c8b1, c8⟩ H
   ·clear c8
    (first | rw [c8b0] | (simp only [Xan, Xaq]; rw [c8b0]) | skip)
    have H' := zq H
    clear H
    go_wp2
    go_meet
    case rel => exact ⟨_, ((a0_0 == 1)), J4, H', ⟨J32⟩, ⟨J62⟩, ⟨J19⟩⟩
   (first | rw [c8b0] | (simp only [Xan, Xaq]; rw [c8b0]) | skip)
   refine yE H ?_ ?_ <;> clear H <;> rintro ⟨c9b0, c9b1, c9⟩ H
   ·have H' := zq H
    clear H
    go_wp2
    go_meet
    case rel => exact ⟨_, ((a0_0 == 3)), J4, H', ⟨J32⟩, ⟨J62⟩, ⟨J19⟩⟩
   clear c9
   have H' := zq H
   clear H
   go_wp2
   go_meet
   case rel => exact ⟨_, ((a0_0 == 2)), J4, H', ⟨J32⟩, ⟨J62⟩, ⟨J19⟩⟩
  case rest =>
   clear HC7
   try clear hcz6_0
   try clear hcz6_1
   try clear hcz6_2
   try clear hcz6_3
   try clear hfz6_0
   try clear hfz6_1
   try clear hfz6_2
   try clear hfz6_3
   obtain ⟨kq, x18_6, rfl, HA, HJ6, BK124, HB⟩ := hcut
   cases kq with
   | zero => exact absurd HA.out (by simp [Xp.j0])
   | succ kj6 =>
    have H := HA.out
    clear HA
    simp only [Xp.j0] at H
    refine yC H ?_ ?_ <;> clear H <;> rintro rfl H
    ·have H' := zq H
     clear H
     go_wp2
     go_meet
     case rel => exact ⟨_, (t125), (0), J4, J4, H', ⟨J182⟩, ⟨J62⟩, ⟨J19⟩⟩
    refine yF H ?_ ?_ <;> clear H <;> rintro ⟨c11b0, c11b1, c11⟩ H
    ·clear c11
     have H' := zq H
     clear H
     go_wp2
     go_meet
     case rel => exact ⟨_, (0), (t125), J4, J4, H', ⟨J182⟩, ⟨J62⟩, ⟨J19⟩⟩
    refine yE H ?_ ?_ <;> clear H <;> rintro ⟨c12b0, c12b1, c12⟩ H
    ·obtain rfl := yo H
     go_wp2
     go_ret
     exact ⟨J1, J19⟩
    clear c12
    have H' := zq H
    clear H
    go_wp2
    go_meet
    case rel => exact ⟨_, (0), (0), J4, J4, H', ⟨J182⟩, ⟨J62⟩, ⟨J19⟩⟩
 case rest =>
  clear HC4
  try clear hcz6_0
  try clear hcz6_1
  try clear hcz6_2
  try clear hcz6_3
  try clear hfz6_0
  try clear hfz6_1
  try clear hfz6_2
  try clear hfz6_3
  obtain ⟨kq, x5_3, x6_3, rfl, rfl, HA, HJ3, BK124, HB⟩ := hcut
  cases kq with
  | zero => exact absurd HA.out (by simp [Xp.j1])
  | succ kj3 =>
   have H := HA.out
   clear HA
   simp only [Xp.j1] at H
   refine yE H ?_ ?_ <;> clear H <;> rintro ⟨c13b0, c13b1, c13⟩ H
   ·obtain rfl := yo H
    have Z25 := cz4 BK124.out
    go_wp2
    go_ret
    exact ⟨J1, J19⟩
   clear c13
   refine yE H ?_ ?_ <;> clear H <;> rintro ⟨c14b0, c14b1, c14⟩ H
   ·obtain rfl := yo H
    have Z24 := cz4 BK124.out
    go_wp2
    go_ret
    exact ⟨J1, J19⟩
   clear c14
   refine yv H ?_; clear H; rintro t127 A15 H
   refine yC H ?_ ?_ <;> clear H <;> rintro rfl H
   ·obtain rfl := yo H
    have Z17 := cz4 BK124.out
    go_wp2_with (first | (go_at_call 73; (with_reducible refine (X1.calls kj3 _ _ l0_2 a0_0 gb124 true _ ((Xx (zk BK124.out) 0).trans rfl) ?side1 ?side2 A15.out).mono ?_); (case side1 => exact zc (ac HR0_2.out HB.out)); (case side2 => exact HC0_2.out); rintro e w' ⟨rfl, ⟨nd, rfl⟩⟩))
    go_ret
    exact ⟨J1, J19⟩
   refine yv H ?_; clear H; rintro t128 A18 H
   refine yC H ?_ ?_ <;> clear H <;> rintro rfl H
   ·obtain rfl := yo H
    have Z20 := cz4 BK124.out
    go_wp2_with (first | (go_at_call 73; (with_reducible refine (X1.calls kj3 _ _ l0_2 a0_0 gb124 false _ ((Xx (zk BK124.out) 0).trans rfl) ?side1 ?side2 A15.out).mono ?_); (case side1 => exact zc (ac HR0_2.out HB.out)); (case side2 => exact HC0_2.out); rintro e w' ⟨rfl, ⟨nd, rfl⟩⟩) | (go_at_call 74; (with_reducible refine (Xau.calls kj3 _ _ l0_3 true _ ?side1 ?side2 A18.out).mono ?_); (case side1 => repeat (first | exact (ac HR0_3.out (zs1 GE124.out)) | (with_reducible refine Kd.C_alloc ?_ _) | (with_reducible refine au ?_ _) | (with_reducible refine Kd.C_drew ?_))); (case side2 => exact HC0_3.out); rintro e w21 ⟨rfl, hb⟩; replace BK124 := zq (Xg (zk BK124.out) hb); replace HB := zq (Xe (zs1 GE124.out) hb); (try clear hb)))
    go_ret
    exact ⟨J1, J19⟩
   obtain rfl := yo H
   have Z22 := cz4 BK124.out
   go_wp2_with (first | (go_at_call 73; (with_reducible refine (X1.calls kj3 _ _ l0_2 a0_0 gb124 false _ ((Xx (zk BK124.out) 0).trans rfl) ?side1 ?side2 A15.out).mono ?_); (case side1 => exact zc (ac HR0_2.out HB.out)); (case side2 => exact HC0_2.out); rintro e w' ⟨rfl, ⟨nd, rfl⟩⟩) | (go_at_call 74; (with_reducible refine (Xau.calls kj3 _ _ l0_3 false _ ?side1 ?side2 A18.out).mono ?_); (case side1 => repeat (first | exact (ac HR0_3.out (zs1 GE124.out)) | (with_reducible refine Kd.C_alloc ?_ _) | (with_reducible refine au ?_ _) | (with_reducible refine Kd.C_drew ?_))); (case side2 => exact HC0_3.out); rintro e w23 ⟨rfl, hb⟩; replace BK124 := zq (Xg (zk BK124.out) hb); replace HB := zq (Xe (zs1 GE124.out) hb); (try clear hb)))
   go_ret
   exact ⟨J1, J19⟩
end Go.Proofs.Ytecdklheppcihaa.HTightTells
