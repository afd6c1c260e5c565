/- What the Go functions of this claim answer, told as functions of numbers and lists, and that other memory stays as it was: words and walks, shortened by a program. -/
import Derived.Test.YtfjhiiaahbjaiaaDoorSSystemFirstx0
import Derived.Test.YtfjhiiaahbjaiaaDoorSSystemFirstx8
import Derived.Test.YtfjhiiaahbjaiaaDoorSSystemFirstx9
namespace Go.Proofs.YtfjhiiaahbjaiaaDoor.HSystemFirst
open Go.RowKit Go.Proofs.YtfjhiiaahbjaiaaDoorW.PrintWords Go.Proofs.YtfjhiiaahbjaiaaDoorW.PrintLast Go.Proofs.YtfjhiiaahbjaiaaDoorW.PrintMore
attribute [local go_sem] Xby Xbw Xcb Xca Xbp Xbo Xbx Xbv
set_option linter.unusedVariables false
set_option linter.unusedSimpArgs false
mutual
def Xu.j1 : Nat → Int → Int → Int → Int → Int → List Int → List Int → List (S40) → Option (Int)
 | 0, _, _, _, _, _, _, _, _ => none
 | k + 1, x3, x5, x6, x17, x237000, x237001, x237002, x237003 => if (x237002.length : Int) = x5 then (if (x237003.length : Int) = x6 then ((X5.f k x237002 x17).bind fun t239 => (if t239 = true then (some (-1)) else ((Xav.f k x237003).bind fun t240 => (if t240 = true then (some (-1)) else (some x3))))) else (some (-1))) else (some (-1))
def Xu.j0 : Nat → Int → Int → Int → Int → Bool → Int → List Int → List Int → List (S40) → Option (Int)
 | 0, _, _, _, _, _, _, _, _, _ => none
 | k + 1, x3, x5, x6, x17, x18, x237000, x237001, x237002, x237003 => if x18 = true then (Xu.j1 k x3 x3 x6 x17 x237000 x237001 x237002 x237003) else (if x17 = 4 then (Xu.j1 k x3 x5 x3 x17 x237000 x237001 x237002 x237003) else (if x17 = 5 then (Xu.j1 k x3 x5 x6 x17 x237000 x237001 x237002 x237003) else (some (-1))))
end
def Xu.f (k : Nat) (a0_0 : Int) (l0_1 : List Int) (l0_2 : List Int) (l0_3 : List (S40)) : Option (Int) := (X3.f k l0_1).bind fun bt237 => (if bt237.2 = true then (if a0_0 = 1 then (Xu.j0 k bt237.1 0 0 a0_0 (a0_0 == 1) a0_0 l0_1 l0_2 l0_3) else (if a0_0 = 2 then (Xu.j0 k bt237.1 0 0 a0_0 (a0_0 == 2) a0_0 l0_1 l0_2 l0_3) else (Xu.j0 k bt237.1 0 0 a0_0 (a0_0 == 3) a0_0 l0_1 l0_2 l0_3))) else (some (-1)))
theorem Xu.mono_l : ∀ k, (∀ y0 y1 y2 y3 y4 y5 y6 y7, LeO (Xu.j1 k y0 y1 y2 y3 y4 y5 y6 y7) (Xu.j1 (k + 1) y0 y1 y2 y3 y4 y5 y6 y7)) ∧ (∀ y0 y1 y2 y3 y4 y5 y6 y7 y8, LeO (Xu.j0 k y0 y1 y2 y3 y4 y5 y6 y7 y8) (Xu.j0 (k + 1) y0 y1 y2 y3 y4 y5 y6 y7 y8))
 | 0 => ⟨fun _ _ _ _ _ _ _ _ r h => by simp [Xu.j1] at h, fun _ _ _ _ _ _ _ _ _ r h => by simp [Xu.j0] at h⟩
 | k + 1 => by
  obtain ⟨ih0, ih1⟩ := Xu.mono_l k
  refine ⟨?_, ?_⟩
  ·intro y0 y1 y2 y3 y4 y5 y6 y7
   unfold Xu.j1
   have im0 := @Xav.mono
   have im1 := @X5.mono
   have im2 := @X3.mono
   exact mz3
  ·intro y0 y1 y2 y3 y4 y5 y6 y7 y8
   unfold Xu.j0
   have im0 := @Xav.mono
   have im1 := @X5.mono
   have im2 := @X3.mono
   exact mz3
theorem Xu.mono : ∀ a0 a1 a2 a3 k, LeO (Xu.f k a0 a1 a2 a3) (Xu.f (k + 1) a0 a1 a2 a3) := by
 intro a0 a1 a2 a3 k
 obtain ⟨ih0, ih1⟩ := Xu.mono_l k
 unfold Xu.f
 have im0 := @Xav.mono
 have im1 := @X5.mono
 have im2 := @X3.mono
 exact mz3
set_option maxHeartbeats 8000000 in
set_option maxRecDepth 100000 in
theorem Xu.calls (k : Nat) (a0_0 : Int) (A0_1 : Option Addr) (c0_1 : Nat) (l0_1 : List Int) (A0_2 : Option Addr) (c0_2 : Nat) (l0_2 : List Int) (A0_3 : Option Addr) (c0_3 : Nat) (l0_3 : List (S40)) (r : Int) (w : World) (hr0_1 : Kd.C (Kd.int .i64) w A0_1 l0_1.length l0_1) (hc0_1 : l0_1.length ≤ c0_1) (hr0_2 : Kd.C (Kd.int .i64) w A0_2 l0_2.length l0_2) (hc0_2 : l0_2.length ≤ c0_2) (hr0_3 : Kd.C k40 w A0_3 l0_3.length l0_3) (hc0_3 : l0_3.length ≤ c0_3) (h : Xu.f k a0_0 l0_1 l0_2 l0_3 = some r) :
  Calls Tryd.prog 86 #[.agg #[.int .i64 a0_0, .slice A0_1 l0_1.length c0_1, .slice A0_2 l0_2.length c0_2, .slice A0_3 l0_3.length c0_3]] w fun e w' => e = .returned (.int .i64 r) ∧ Below w.heap.size w w' := by
 have hmf : ∀ (fn : Fn) (first cap : Array Value) (w : World), (Instr.makeFunc fn first cap).run Tryd.prog w = .ok (.func fn first cap) w := fun _ _ _ _ => rfl
 have hu32 := Tryd.underlying32
 have HR0_1 := zq hr0_1
 have HC0_1 := zq hc0_1
 clear hr0_1 hc0_1
 have HR0_2 := zq hr0_2
 have HC0_2 := zq hc0_2
 clear hr0_2 hc0_2
 have HR0_3 := zq hr0_3
 have HC0_3 := zq hc0_3
 clear hr0_3 hc0_3
 have HB := zq (Below.refl w.heap.size w)
 unfold Xu.f at h
 have H := h
 clear h
 refine yv H ?_; clear H; rintro ⟨t237, t238⟩ A2 H
 dsimp only at H
 refine yB H ?_ ?_ <;> clear H <;> rintro rfl H
 ·obtain rfl := yo H
  go_enter Tryd.func86, Tryd.ntmps86
  go_wp2_with (first | ((with_reducible refine Xk (N := 1) rfl ?_); (try (refine Xaz Xa5 ?_; dsimp only)); refine bxw 1 32 #[.int .i64 a0_0, .slice A0_1 l0_1.length c0_1, .slice A0_2 l0_2.length c0_2, .slice A0_3 l0_3.length c0_3] ?_; intro gb236 hg w26 hbox hb; have BK236 := zq (hbox); have GE236 := zq ((J12 : w.heap.size ≤ gb236)); replace HB := zq (Xd J0 hb); clear hb hbox hg; obtain ⟨hcz27_0, hcz27_1, hcz27_2, hcz27_3, hfz27_0, hfz27_1, hfz27_2, hfz27_3⟩ := cz4 BK236.out) | ((with_reducible refine Xg (f := 40) rfl ?_); refine Xt (some 11) rfl rfl Tryd.func40 J8 rfl #[.slice A0_1 l0_1.length c0_1] rfl J1 ?_; (with_reducible refine (X3.calls k _ _ l0_1 t237 false _ ?side1 ?side2 A2.out).mono ?_); (case side1 => exact zc (Kd.C_below HR0_1.out HB.out)); (case side2 => exact HC0_1.out); rintro e w' ⟨rfl, ⟨nd, rfl⟩⟩; refine ⟨_, rfl, ?_⟩))
  go_ret
  exact ⟨J2, J17⟩
 have HC4 := zq H
 clear H
 go_enter Tryd.func86, Tryd.ntmps86
 go_upto_block 0 with (first | ((with_reducible refine Xk (N := 1) rfl ?_); (try (refine Xaz Xa5 ?_; dsimp only)); refine Xc9 ?hg (N := 1) ?hd (cs := #[.int .i64 a0_0, .slice A0_1 l0_1.length c0_1, .slice A0_2 l0_2.length c0_2, .slice A0_3 l0_3.length c0_3]) (t := 32) ?hr ?_; (case hd => rfl); (case hg => rfl); (case hr => first | (go_simp; done) | (go_simp; rfl)); intro gb236 hg w5 hbox hb; have n0_ := zq (Xd J0 hb); have n1_ := zq (hbox); have n2_ := zq ((J12 : w.heap.size ≤ gb236)); have n3_ := zq ((J12 : w.heap.size ≤ gb236)); clear HB; have HB := n0_; have BK236 := n1_; have GW236 := n2_; have GE236 := n3_; clear n0_ n1_ n2_ n3_; clear hb hbox hg; have hcz6_0 : w5.cell? ⟨gb236, 0, none⟩ = some (.int .i64 a0_0) := (Xm BK236.out 0).trans rfl; have hcz6_1 : w5.cell? ⟨gb236, 1, none⟩ = some (.slice A0_1 l0_1.length c0_1) := (Xm BK236.out 1).trans rfl; have hcz6_2 : w5.cell? ⟨gb236, 2, none⟩ = some (.slice A0_2 l0_2.length c0_2) := (Xm BK236.out 2).trans rfl; have hcz6_3 : w5.cell? ⟨gb236, 3, none⟩ = some (.slice A0_3 l0_3.length c0_3) := (Xm BK236.out 3).trans rfl; have hfz6_0 := Xa8 BK236.out 0; have hfz6_1 := Xa8 BK236.out 1; have hfz6_2 := Xa8 BK236.out 2; have hfz6_3 := Xa8 BK236.out 3) | ((with_reducible refine Xg (f := 40) rfl ?_); refine Xt (some 11) rfl rfl Tryd.func40 J8 rfl #[.slice A0_1 l0_1.length c0_1] rfl J1 ?_; (with_reducible refine (X3.calls k _ _ l0_1 t237 true _ ?side1 ?side2 A2.out).mono ?_); (case side1 => exact zc (Kd.C_below HR0_1.out HB.out)); (case side2 => exact HC0_1.out); rintro e w' ⟨rfl, ⟨nd, rfl⟩⟩; refine ⟨_, rfl, ?_⟩))
 (try simp only [Act.put, List.setIfInBounds_toArray, List.set_cons_zero, List.set_cons_succ])
 go_cut [5, 6] (fun v5 v6 wc => ∃ (kq : Nat) (x5_3 : Int) (x6_3 : Int), v5 = .int .i64 x5_3 ∧ v6 = .int .i64 x6_3 ∧ Aside0 (Xu.j1 kq t237 x5_3 x6_3 a0_0 a0_0 l0_1 l0_2 l0_3 = some r) ∧ Aside0 (kq ≤ k) ∧ Aside0 (wc.heap[gb236]? = some (.cells #[.int .i64 a0_0, (.slice A0_1 l0_1.length c0_1), (.slice A0_2 l0_2.length c0_2), (.slice A0_3 l0_3.length c0_3)] 32 (0, 0))) ∧ Aside0 (Below w.heap.size w wc))
 case first =>
  have H := HC4.out
  clear HC4
  have HC7 := zq H
  clear H
  go_upto_if 18 with (fail)
  go_cut [18] (fun v18 wc => ∃ (kq : Nat) (x18_6 : Bool), v18 = .bool x18_6 ∧ Aside0 (Xu.j0 kq t237 0 0 a0_0 x18_6 a0_0 l0_1 l0_2 l0_3 = some r) ∧ Aside0 (kq ≤ k) ∧ Aside0 (wc.heap[gb236]? = some (.cells #[.int .i64 a0_0, (.slice A0_1 l0_1.length c0_1), (.slice A0_2 l0_2.length c0_2), (.slice A0_3 l0_3.length c0_3)] 32 (0, 0))) ∧ Aside0 (Below w.heap.size w wc))
  case first =>
   have H := HC7.out
   clear HC7
   refine yF H ?_ ?_ <;> clear H <;> rintro ⟨c8b0, c8b1, c8⟩ H
   ·clear c8
    (first | rw [c8b0] | (simp only [Xbd, Xbh]; rw [c8b0]) | skip)
    have H' := zq H
    clear H
    go_wp2
    go_meet
    case rel => exact ⟨_, ((a0_0 == 1)), J4, H', ⟨J31⟩, ⟨J60⟩, ⟨J17⟩⟩
   (first | rw [c8b0] | (simp only [Xbd, Xbh]; rw [c8b0]) | skip)
   refine yE H ?_ ?_ <;> clear H <;> rintro ⟨c9b0, c9b1, c9⟩ H
   ·have H' := zq H
    clear H
    go_wp2
    go_meet
    case rel => exact ⟨_, ((a0_0 == 3)), J4, H', ⟨J31⟩, ⟨J60⟩, ⟨J17⟩⟩
   clear c9
   have H' := zq H
   clear H
   go_wp2
   go_meet
   case rel => exact ⟨_, ((a0_0 == 2)), J4, H', ⟨J31⟩, ⟨J60⟩, ⟨J17⟩⟩
  case rest =>
   clear HC7
   try clear hcz6_0
   try clear hcz6_1
   try clear hcz6_2
   try clear hcz6_3
   try clear hfz6_0
   try clear hfz6_1
   try clear hfz6_2
   try clear hfz6_3
   obtain ⟨kq, x18_6, rfl, HA, HJ6, BK236, HB⟩ := hcut
   cases kq with
   | zero => exact absurd HA.out (by simp [Xu.j0])
   | succ kj6 =>
    have H := HA.out
    clear HA
    simp only [Xu.j0] at H
    refine yC H ?_ ?_ <;> clear H <;> rintro rfl H
    ·have H' := zq H
     clear H
     go_wp2
     go_meet
     case rel => exact ⟨_, (t237), (0), J4, J4, H', ⟨J161⟩, ⟨J60⟩, ⟨J17⟩⟩
    refine yF H ?_ ?_ <;> clear H <;> rintro ⟨c11b0, c11b1, c11⟩ H
    ·clear c11
     have H' := zq H
     clear H
     go_wp2
     go_meet
     case rel => exact ⟨_, (0), (t237), J4, J4, H', ⟨J161⟩, ⟨J60⟩, ⟨J17⟩⟩
    refine yE H ?_ ?_ <;> clear H <;> rintro ⟨c12b0, c12b1, c12⟩ H
    ·obtain rfl := yo H
     go_wp2
     go_ret
     exact ⟨J2, J17⟩
    clear c12
    have H' := zq H
    clear H
    go_wp2
    go_meet
    case rel => exact ⟨_, (0), (0), J4, J4, H', ⟨J161⟩, ⟨J60⟩, ⟨J17⟩⟩
 case rest =>
  clear HC4
  try clear hcz6_0
  try clear hcz6_1
  try clear hcz6_2
  try clear hcz6_3
  try clear hfz6_0
  try clear hfz6_1
  try clear hfz6_2
  try clear hfz6_3
  obtain ⟨kq, x5_3, x6_3, rfl, rfl, HA, HJ3, BK236, HB⟩ := hcut
  cases kq with
  | zero => exact absurd HA.out (by simp [Xu.j1])
  | succ kj3 =>
   have H := HA.out
   clear HA
   simp only [Xu.j1] at H
   refine yE H ?_ ?_ <;> clear H <;> rintro ⟨c13b0, c13b1, c13⟩ H
   ·obtain rfl := yo H
    obtain ⟨hcz25_0, hcz25_1, hcz25_2, hcz25_3, hfz25_0, hfz25_1, hfz25_2, hfz25_3⟩ := cz4 BK236.out
    go_wp2
    go_ret
    exact ⟨J2, J17⟩
   clear c13
   refine yE H ?_ ?_ <;> clear H <;> rintro ⟨c14b0, c14b1, c14⟩ H
   ·obtain rfl := yo H
    obtain ⟨hcz24_0, hcz24_1, hcz24_2, hcz24_3, hfz24_0, hfz24_1, hfz24_2, hfz24_3⟩ := cz4 BK236.out
    go_wp2
    go_ret
    exact ⟨J2, J17⟩
   clear c14
   refine yv H ?_; clear H; rintro t239 A15 H
   refine yC H ?_ ?_ <;> clear H <;> rintro rfl H
   ·obtain rfl := yo H
    obtain ⟨hcz17_0, hcz17_1, hcz17_2, hcz17_3, hfz17_0, hfz17_1, hfz17_2, hfz17_3⟩ := cz4 BK236.out
    go_wp2_with (first | (go_at_call 90; (with_reducible refine (X5.calls kj3 _ _ l0_2 a0_0 gb236 true _ ((Xm (zk BK236.out) 0).trans rfl) ?side1 ?side2 A15.out).mono ?_); (case side1 => exact zc (Kd.C_below HR0_2.out HB.out)); (case side2 => exact HC0_2.out); rintro e w' ⟨rfl, ⟨nd, rfl⟩⟩))
    go_ret
    exact ⟨J2, J17⟩
   refine yv H ?_; clear H; rintro t240 A18 H
   refine yC H ?_ ?_ <;> clear H <;> rintro rfl H
   ·obtain rfl := yo H
    obtain ⟨hcz20_0, hcz20_1, hcz20_2, hcz20_3, hfz20_0, hfz20_1, hfz20_2, hfz20_3⟩ := cz4 BK236.out
    go_wp2_with (first | (go_at_call 90; (with_reducible refine (X5.calls kj3 _ _ l0_2 a0_0 gb236 false _ ((Xm (zk BK236.out) 0).trans rfl) ?side1 ?side2 A15.out).mono ?_); (case side1 => exact zc (Kd.C_below HR0_2.out HB.out)); (case side2 => exact HC0_2.out); rintro e w' ⟨rfl, ⟨nd, rfl⟩⟩) | (go_at_call 91; (with_reducible refine (Xav.calls kj3 _ _ l0_3 true _ ?side1 ?side2 A18.out).mono ?_); (case side1 => repeat (first | exact (Kd.C_below HR0_3.out (zs1 GE236.out)) | (with_reducible refine Kd.C_alloc ?_ _) | (with_reducible refine Kd.C_drewN ?_ _) | (with_reducible refine Kd.C_drew ?_))); (case side2 => exact HC0_3.out); rintro e w21 ⟨rfl, hb⟩; replace BK236 := zq (Xh (g := gb236) (o := .cells #[.int .i64 a0_0, .slice A0_1 l0_1.length c0_1, .slice A0_2 l0_2.length c0_2, .slice A0_3 l0_3.length c0_3] 32 (0, 0)) (zk BK236.out) hb); replace HB := zq (Xd (zs1 GE236.out) hb); (try clear hb)))
    go_ret
    exact ⟨J2, J17⟩
   obtain rfl := yo H
   obtain ⟨hcz22_0, hcz22_1, hcz22_2, hcz22_3, hfz22_0, hfz22_1, hfz22_2, hfz22_3⟩ := cz4 BK236.out
   go_wp2_with (first | (go_at_call 90; (with_reducible refine (X5.calls kj3 _ _ l0_2 a0_0 gb236 false _ ((Xm (zk BK236.out) 0).trans rfl) ?side1 ?side2 A15.out).mono ?_); (case side1 => exact zc (Kd.C_below HR0_2.out HB.out)); (case side2 => exact HC0_2.out); rintro e w' ⟨rfl, ⟨nd, rfl⟩⟩) | (go_at_call 91; (with_reducible refine (Xav.calls kj3 _ _ l0_3 false _ ?side1 ?side2 A18.out).mono ?_); (case side1 => repeat (first | exact (Kd.C_below HR0_3.out (zs1 GE236.out)) | (with_reducible refine Kd.C_alloc ?_ _) | (with_reducible refine Kd.C_drewN ?_ _) | (with_reducible refine Kd.C_drew ?_))); (case side2 => exact HC0_3.out); rintro e w23 ⟨rfl, hb⟩; replace BK236 := zq (Xh (g := gb236) (o := .cells #[.int .i64 a0_0, .slice A0_1 l0_1.length c0_1, .slice A0_2 l0_2.length c0_2, .slice A0_3 l0_3.length c0_3] 32 (0, 0)) (zk BK236.out) hb); replace HB := zq (Xd (zs1 GE236.out) hb); (try clear hb)))
   go_ret
   exact ⟨J2, J17⟩
end Go.Proofs.YtfjhiiaahbjaiaaDoor.HSystemFirst
