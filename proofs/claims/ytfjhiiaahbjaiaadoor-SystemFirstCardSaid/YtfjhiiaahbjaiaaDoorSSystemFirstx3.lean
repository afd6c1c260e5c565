/- What the Go functions of this claim answer, told as functions of numbers and lists, and that other memory stays as it was: words and walks, shortened by a program. -/
import Derived.Test.YtfjhiiaahbjaiaaDoorSSystemFirstx0
import Derived.Test.YtfjhiiaahbjaiaaDoorSSystemFirstx2
namespace Go.Proofs.YtfjhiiaahbjaiaaDoor.HSystemFirst
open Go.RowKit Go.Proofs.YtfjhiiaahbjaiaaDoorW.PrintWords Go.Proofs.YtfjhiiaahbjaiaaDoorW.PrintLast Go.Proofs.YtfjhiiaahbjaiaaDoorW.PrintMore
attribute [local go_sem] Xby Xbw Xcb Xca Xbp Xbo Xbx Xbv
set_option linter.unusedVariables false
set_option linter.unusedSimpArgs false
mutual
def Xi.j0 : Nat → Int → Bool → Int → List Int → List Int → List (S40) → Option (Int × Bool)
 | 0, _, _, _, _, _, _ => none
 | k + 1, x4, x29, x113000, x113001, x113002, x113003 => if x29 = true then (some (0, false)) else (if x113000 ≥ 4 then (Xi.j1 k x4 0 0 x113000 x113001 x113002 x113003) else (Xi.j1 k x4 x4 0 x113000 x113001 x113002 x113003))
def Xi.j1 : Nat → Int → Int → Int → Int → List Int → List Int → List (S40) → Option (Int × Bool)
 | 0, _, _, _, _, _, _, _ => none
 | k + 1, x4, x6, x7, x113000, x113001, x113002, x113003 => if x113000 = 4 then (Xi.j2 k x4 x6 x4 x113000 x113001 x113002 x113003) else (Xi.j2 k x4 x6 x7 x113000 x113001 x113002 x113003)
def Xi.j2 : Nat → Int → Int → Int → Int → List Int → List Int → List (S40) → Option (Int × Bool)
 | 0, _, _, _, _, _, _, _ => none
 | k + 1, x4, x6, x7, x113000, x113001, x113002, x113003 => if (x113002.length : Int) = x6 then (Xi.j3 k x4 x6 x7 ((x113003.length : Int) != x7) x113000 x113001 x113002 x113003) else (Xi.j3 k x4 x6 x7 true x113000 x113001 x113002 x113003)
def Xi.j3 : Nat → Int → Int → Int → Bool → Int → List Int → List Int → List (S40) → Option (Int × Bool)
 | 0, _, _, _, _, _, _, _, _ => none
 | k + 1, x4, x6, x7, x49, x113000, x113001, x113002, x113003 => if x49 = true then (some (0, false)) else (Xi.l0 k x4 x6 x7 0 x113000 x113001 x113002 x113003)
def Xi.l0 : Nat → Int → Int → Int → Int → Int → List Int → List Int → List (S40) → Option (Int × Bool)
 | 0, _, _, _, _, _, _, _, _ => none
 | k + 1, x4, x6, x7, x8, x113000, x113001, x113002, x113003 => if x8 < x6 then (if 0 ≤ x8 then (if x8 < (x113002.length : Int) then (if x113000 = 1 then (if (rd x113002 x8) = 0 then (if x113000 = 3 then (if (rd x113002 x8) < 0 then (some (0, false)) else (if (rd x113002 x8) > 1114111 then (some (0, false)) else (if (rd x113002 x8) ≥ 55296 then (if (rd x113002 x8) ≤ 57343 then (some (0, false)) else (Xi.l0 k x4 x6 x7 (wrap64 (x8 + 1)) x113000 x113001 x113002 x113003)) else (Xi.l0 k x4 x6 x7 (wrap64 (x8 + 1)) x113000 x113001 x113002 x113003)))) else (Xi.l0 k x4 x6 x7 (wrap64 (x8 + 1)) x113000 x113001 x113002 x113003)) else (if (rd x113002 x8) = 1 then (if x113000 = 3 then (if (rd x113002 x8) < 0 then (some (0, false)) else (if (rd x113002 x8) > 1114111 then (some (0, false)) else (if (rd x113002 x8) ≥ 55296 then (if (rd x113002 x8) ≤ 57343 then (some (0, false)) else (Xi.l0 k x4 x6 x7 (wrap64 (x8 + 1)) x113000 x113001 x113002 x113003)) else (Xi.l0 k x4 x6 x7 (wrap64 (x8 + 1)) x113000 x113001 x113002 x113003)))) else (Xi.l0 k x4 x6 x7 (wrap64 (x8 + 1)) x113000 x113001 x113002 x113003)) else (some (0, false)))) else (if x113000 = 3 then (if (rd x113002 x8) < 0 then (some (0, false)) else (if (rd x113002 x8) > 1114111 then (some (0, false)) else (if (rd x113002 x8) ≥ 55296 then (if (rd x113002 x8) ≤ 57343 then (some (0, false)) else (Xi.l0 k x4 x6 x7 (wrap64 (x8 + 1)) x113000 x113001 x113002 x113003)) else (Xi.l0 k x4 x6 x7 (wrap64 (x8 + 1)) x113000 x113001 x113002 x113003)))) else (Xi.l0 k x4 x6 x7 (wrap64 (x8 + 1)) x113000 x113001 x113002 x113003))) else (none)) else (none)) else (Xi.l1 k x4 x7 0 x113000 x113001 x113002 x113003)
def Xi.l1 : Nat → Int → Int → Int → Int → List Int → List Int → List (S40) → Option (Int × Bool)
 | 0, _, _, _, _, _, _, _ => none
 | k + 1, x4, x7, x10, x113000, x113001, x113002, x113003 => if x10 < x7 then (if 0 ≤ x10 then (if x10 < (x113003.length : Int) then ((X4.f k ((Xv x113003 x10).f0) ((Xv x113003 x10).f1)).bind fun t117 => (if t117 = true then (Xi.l1 k x4 x7 (wrap64 (x10 + 1)) x113000 x113001 x113002 x113003) else (some (0, false)))) else (none)) else (none)) else (some (x4, true))
end
def Xi.f (k : Nat) (a0_0 : Int) (l0_1 : List Int) (l0_2 : List Int) (l0_3 : List (S40)) : Option (Int × Bool) := (Xl.f k l0_1).bind fun bt113 => (if bt113.2 = true then (if a0_0 < 1 then (Xi.j0 k bt113.1 true a0_0 l0_1 l0_2 l0_3) else (Xi.j0 k bt113.1 (decide (a0_0 > 5)) a0_0 l0_1 l0_2 l0_3)) else (Xi.j0 k bt113.1 true a0_0 l0_1 l0_2 l0_3))
theorem Xi.mono_l : ∀ k, (∀ y0 y1 y2 y3 y4 y5, LeO (Xi.j0 k y0 y1 y2 y3 y4 y5) (Xi.j0 (k + 1) y0 y1 y2 y3 y4 y5)) ∧ (∀ y0 y1 y2 y3 y4 y5 y6, LeO (Xi.j1 k y0 y1 y2 y3 y4 y5 y6) (Xi.j1 (k + 1) y0 y1 y2 y3 y4 y5 y6)) ∧ (∀ y0 y1 y2 y3 y4 y5 y6, LeO (Xi.j2 k y0 y1 y2 y3 y4 y5 y6) (Xi.j2 (k + 1) y0 y1 y2 y3 y4 y5 y6)) ∧ (∀ y0 y1 y2 y3 y4 y5 y6 y7, LeO (Xi.j3 k y0 y1 y2 y3 y4 y5 y6 y7) (Xi.j3 (k + 1) y0 y1 y2 y3 y4 y5 y6 y7)) ∧ (∀ y0 y1 y2 y3 y4 y5 y6 y7, LeO (Xi.l0 k y0 y1 y2 y3 y4 y5 y6 y7) (Xi.l0 (k + 1) y0 y1 y2 y3 y4 y5 y6 y7)) ∧ (∀ y0 y1 y2 y3 y4 y5 y6, LeO (Xi.l1 k y0 y1 y2 y3 y4 y5 y6) (Xi.l1 (k + 1) y0 y1 y2 y3 y4 y5 y6))
 | 0 => ⟨fun _ _ _ _ _ _ r h => by simp [Xi.j0] at h, fun _ _ _ _ _ _ _ r h => by simp [Xi.j1] at h, fun _ _ _ _ _ _ _ r h => by simp [Xi.j2] at h, fun _ _ _ _ _ _ _ _ r h => by simp [Xi.j3] at h, fun _ _ _ _ _ _ _ _ r h => by simp [Xi.l0] at h, fun _ _ _ _ _ _ _ r h => by simp [Xi.l1] at h⟩
 | k + 1 => by
  obtain ⟨ih0, ih1, ih2, ih3, ih4, ih5⟩ := Xi.mono_l k
  refine ⟨?_, ?_, ?_, ?_, ?_, ?_⟩
  ·intro y0 y1 y2 y3 y4 y5
   unfold Xi.j0
   have im0 := @X4.mono
   have im1 := @Xl.mono
   exact mz3
  ·intro y0 y1 y2 y3 y4 y5 y6
   unfold Xi.j1
   have im0 := @X4.mono
   have im1 := @Xl.mono
   exact mz3
  ·intro y0 y1 y2 y3 y4 y5 y6
   unfold Xi.j2
   have im0 := @X4.mono
   have im1 := @Xl.mono
   exact mz3
  ·intro y0 y1 y2 y3 y4 y5 y6 y7
   unfold Xi.j3
   have im0 := @X4.mono
   have im1 := @Xl.mono
   exact mz3
  ·intro y0 y1 y2 y3 y4 y5 y6 y7
   unfold Xi.l0
   have im0 := @X4.mono
   have im1 := @Xl.mono
   exact mz3
  ·intro y0 y1 y2 y3 y4 y5 y6
   unfold Xi.l1
   have im0 := @X4.mono
   have im1 := @Xl.mono
   exact mz3
theorem Xi.mono : ∀ a0 a1 a2 a3 k, LeO (Xi.f k a0 a1 a2 a3) (Xi.f (k + 1) a0 a1 a2 a3) := by
 intro a0 a1 a2 a3 k
 obtain ⟨ih0, ih1, ih2, ih3, ih4, ih5⟩ := Xi.mono_l k
 unfold Xi.f
 have im0 := @X4.mono
 have im1 := @Xl.mono
 exact mz3
set_option maxHeartbeats 8000000 in
set_option maxRecDepth 100000 in
theorem Xi.calls (k : Nat) (a0_0 : Int) (A0_1 : Option Addr) (c0_1 : Nat) (l0_1 : List Int) (A0_2 : Option Addr) (c0_2 : Nat) (l0_2 : List Int) (A0_3 : Option Addr) (c0_3 : Nat) (l0_3 : List (S40)) (r1 : Int) (r2 : Bool) (w : World) (hr0_1 : Kd.C (Kd.int .i64) w A0_1 l0_1.length l0_1) (hc0_1 : l0_1.length ≤ c0_1) (hr0_2 : Kd.C (Kd.int .i64) w A0_2 l0_2.length l0_2) (hc0_2 : l0_2.length ≤ c0_2) (hr0_3 : Kd.C k40 w A0_3 l0_3.length l0_3) (hc0_3 : l0_3.length ≤ c0_3) (h : Xi.f k a0_0 l0_1 l0_2 l0_3 = some (r1, r2)) :
  Calls Tryd.prog 81 #[.agg #[.int .i64 a0_0, .slice A0_1 l0_1.length c0_1, .slice A0_2 l0_2.length c0_2, .slice A0_3 l0_3.length c0_3]] w fun e w' => e = .returned (.tuple #[.int .i64 r1, .bool r2]) ∧ Below w.heap.size w w' := by
 have hu32 := Tryd.underlying32
 have hu40 := Tryd.underlying40
 have HR0_1 := zq hr0_1
 have HC0_1 := zq hc0_1
 clear hr0_1 hc0_1
 have HR0_2 := zq hr0_2
 have HC0_2 := zq hc0_2
 clear hr0_2 hc0_2
 have HR0_3 := zq hr0_3
 have HC0_3 := zq hc0_3
 clear hr0_3 hc0_3
 have HB := zq (Below.refl w.heap.size w)
 unfold Xi.f at h
 have H := h
 clear h
 refine yv H ?_; clear H; rintro ⟨t113, t114⟩ A2 H
 dsimp only at H
 have HC3 := zq H
 clear H
 go_enter Tryd.func81, Tryd.ntmps81
 go_upto_region 2 with (first | ((with_reducible refine Xk (N := 1) rfl ?_); (try (refine Xaz Xa5 ?_; dsimp only)); refine bxw 1 32 #[.int .i64 a0_0, .slice A0_1 l0_1.length c0_1, .slice A0_2 l0_2.length c0_2, .slice A0_3 l0_3.length c0_3] ?_; intro gb112 hg w4 hbox hb; have BK112 := zq (hbox); have GE112 := zq ((J12 : w.heap.size ≤ gb112)); replace HB := zq (Xd J0 hb); clear hb hbox hg; obtain ⟨hcz5_0, hcz5_1, hcz5_2, hcz5_3, hfz5_0, hfz5_1, hfz5_2, hfz5_3⟩ := cz4 BK112.out) | ((with_reducible refine Xg (f := 70) rfl ?_); refine Xt (some 15) rfl rfl Tryd.func70 J8 rfl #[.slice A0_1 l0_1.length c0_1] rfl J1 ?_; (with_reducible refine (Xl.calls k _ _ l0_1 t113 t114 _ ?side1 ?side2 A2.out).mono ?_); (case side1 => exact zc (Kd.C_below HR0_1.out HB.out)); (case side2 => exact HC0_1.out); rintro e w' ⟨rfl, ⟨nd, rfl⟩⟩; refine ⟨_, rfl, ?_⟩))
 (try simp only [Act.put, List.setIfInBounds_toArray, List.set_cons_zero, List.set_cons_succ])
 go_cut [29] (fun v29 wc => ∃ (kq : Nat) (x29_2 : Bool), v29 = .bool x29_2 ∧ Aside0 (Xi.j0 kq t113 x29_2 a0_0 l0_1 l0_2 l0_3 = some (r1, r2)) ∧ Aside0 (kq ≤ k) ∧ Aside0 (wc.heap[gb112]? = some (.cells #[.int .i64 a0_0, (.slice A0_1 l0_1.length c0_1), (.slice A0_2 l0_2.length c0_2), (.slice A0_3 l0_3.length c0_3)] 32 (0, 0))) ∧ Aside0 (Below w.heap.size w wc))
 case first =>
  have H := HC3.out
  clear HC3
  refine yB H ?_ ?_ <;> clear H <;> rintro rfl H
  ·have H' := zq H
   clear H
   go_wp2
   go_meet
   case rel => exact ⟨_, (true), J4, H', ⟨J31⟩, ⟨J13⟩, ⟨J6⟩⟩
  refine yd H ?_ ?_ <;> clear H <;> rintro c7b0 H
  ·(first | rw [c7b0] | (simp only [Xbd, Xbh]; rw [c7b0]) | skip)
   have H' := zq H
   clear H
   obtain ⟨hcz9_0, hcz9_1, hcz9_2, hcz9_3, hfz9_0, hfz9_1, hfz9_2, hfz9_3⟩ := cz4 BK112.out
   go_wp2
   go_meet
   case rel => exact ⟨_, (decide (a0_0 > 5)), J4, H', ⟨J31⟩, ⟨J13⟩, ⟨J6⟩⟩
  (first | rw [c7b0] | (simp only [Xbd, Xbh]; rw [c7b0]) | skip)
  have H' := zq H
  clear H
  obtain ⟨hcz8_0, hcz8_1, hcz8_2, hcz8_3, hfz8_0, hfz8_1, hfz8_2, hfz8_3⟩ := cz4 BK112.out
  go_wp2
  go_meet
  case rel => exact ⟨_, (true), J4, H', ⟨J31⟩, ⟨J13⟩, ⟨J6⟩⟩
 case rest =>
  clear HC3
  try clear hcz5_0
  try clear hcz5_1
  try clear hcz5_2
  try clear hcz5_3
  try clear hfz5_0
  try clear hfz5_1
  try clear hfz5_2
  try clear hfz5_3
  obtain ⟨kq, x29_2, rfl, HA, HJ2, BK112, HB⟩ := hcut
  cases kq with
  | zero => exact absurd HA.out (by simp [Xi.j0])
  | succ kj2 =>
   have H := HA.out
   clear HA
   simp only [Xi.j0] at H
   refine yC H ?_ ?_ <;> clear H <;> rintro rfl H
   ·obtain ⟨rfl, rfl⟩ := yp2 H
    go_wp2
    go_ret2
    exact ⟨J2, J6⟩
   have HC11 := zq H
   clear H
   obtain ⟨hcz12_0, hcz12_1, hcz12_2, hcz12_3, hfz12_0, hfz12_1, hfz12_2, hfz12_3⟩ := cz4 BK112.out
   go_upto_if 33 with (fail)
   go_cut [6] (fun v6 wc => ∃ (kq : Nat) (x6_10 : Int), v6 = .int .i64 x6_10 ∧ Aside0 (Xi.j1 kq t113 x6_10 0 a0_0 l0_1 l0_2 l0_3 = some (r1, r2)) ∧ Aside0 (kq ≤ kj2) ∧ Aside0 (wc.heap[gb112]? = some (.cells #[.int .i64 a0_0, (.slice A0_1 l0_1.length c0_1), (.slice A0_2 l0_2.length c0_2), (.slice A0_3 l0_3.length c0_3)] 32 (0, 0))) ∧ Aside0 (Below w.heap.size w wc))
   case first =>
    have H := HC11.out
    clear HC11
    refine yd H ?_ ?_ <;> clear H <;> rintro c13b0 H
    ·(first | rw [c13b0] | (simp only [Xbd, Xbh]; rw [c13b0]) | skip)
     have H' := zq H
     clear H
     go_wp2
     go_meet
     case rel => exact ⟨_, (t113), J4, H', ⟨by have := HJ2.out; first | omega | exact Nat.le_refl _⟩, ⟨J13⟩, ⟨J6⟩⟩
    (first | rw [c13b0] | (simp only [Xbd, Xbh]; rw [c13b0]) | skip)
    have H' := zq H
    clear H
    go_wp2
    go_meet
    case rel => exact ⟨_, (0), J4, H', ⟨by have := HJ2.out; first | omega | exact Nat.le_refl _⟩, ⟨J13⟩, ⟨J6⟩⟩
   case rest =>
    clear HC11
    try clear hcz12_0
    try clear hcz12_1
    try clear hcz12_2
    try clear hcz12_3
    try clear hcz5_0
    try clear hcz5_1
    try clear hcz5_2
    try clear hcz5_3
    try clear hfz12_0
    try clear hfz12_1
    try clear hfz12_2
    try clear hfz12_3
    try clear hfz5_0
    try clear hfz5_1
    try clear hfz5_2
    try clear hfz5_3
    obtain ⟨kq, x6_10, rfl, HA, HJ10, BK112, HB⟩ := hcut
    cases kq with
    | zero => exact absurd HA.out (by simp [Xi.j1])
    | succ kj10 =>
     have H := HA.out
     clear HA
     simp only [Xi.j1] at H
     have HC14 := zq H
     clear H
     obtain ⟨hcz15_0, hcz15_1, hcz15_2, hcz15_3, hfz15_0, hfz15_1, hfz15_2, hfz15_3⟩ := cz4 BK112.out
     go_upto_if 36 with (fail)
     go_cut [7] (fun v7 wc => ∃ (kq : Nat) (x7_13 : Int), v7 = .int .i64 x7_13 ∧ Aside0 (Xi.j2 kq t113 x6_10 x7_13 a0_0 l0_1 l0_2 l0_3 = some (r1, r2)) ∧ Aside0 (kq ≤ kj10) ∧ Aside0 (wc.heap[gb112]? = some (.cells #[.int .i64 a0_0, (.slice A0_1 l0_1.length c0_1), (.slice A0_2 l0_2.length c0_2), (.slice A0_3 l0_3.length c0_3)] 32 (0, 0))) ∧ Aside0 (Below w.heap.size w wc))
     case first =>
      have H := HC14.out
      clear HC14
      refine yE H ?_ ?_ <;> clear H <;> rintro ⟨c16b0, c16b1, c16⟩ H
      ·(first | rw [c16b0] | (simp only [Xbd, Xbh]; rw [c16b0]) | skip)
       have H' := zq H
       clear H
       go_wp2
       go_meet
       case rel => exact ⟨_, (0), J4, H', ⟨by have := HJ2.out; have := HJ10.out; first | omega | exact Nat.le_refl _⟩, ⟨J13⟩, ⟨J6⟩⟩
      clear c16
      (first | rw [c16b0] | (simp only [Xbd, Xbh]; rw [c16b0]) | skip)
      have H' := zq H
      clear H
      go_wp2
      go_meet
      case rel => exact ⟨_, (t113), J4, H', ⟨by have := HJ2.out; have := HJ10.out; first | omega | exact Nat.le_refl _⟩, ⟨J13⟩, ⟨J6⟩⟩
     case rest =>
      clear HC14
      try clear hcz12_0
      try clear hcz12_1
      try clear hcz12_2
      try clear hcz12_3
      try clear hcz15_0
      try clear hcz15_1
      try clear hcz15_2
      try clear hcz15_3
      try clear hcz5_0
      try clear hcz5_1
      try clear hcz5_2
      try clear hcz5_3
      try clear hfz12_0
      try clear hfz12_1
      try clear hfz12_2
      try clear hfz12_3
      try clear hfz15_0
      try clear hfz15_1
      try clear hfz15_2
      try clear hfz15_3
      try clear hfz5_0
      try clear hfz5_1
      try clear hfz5_2
      try clear hfz5_3
      obtain ⟨kq, x7_13, rfl, HA, HJ13, BK112, HB⟩ := hcut
      cases kq with
      | zero => exact absurd HA.out (by simp [Xi.j2])
      | succ kj13 =>
       have H := HA.out
       clear HA
       simp only [Xi.j2] at H
       have HC17 := zq H
       clear H
       go_upto_region 10 with (fail)
       go_cut [49] (fun v49 wc => ∃ (kq : Nat) (x49_16 : Bool), v49 = .bool x49_16 ∧ Aside0 (Xi.j3 kq t113 x6_10 x7_13 x49_16 a0_0 l0_1 l0_2 l0_3 = some (r1, r2)) ∧ Aside0 (kq ≤ kj13) ∧ Aside0 (wc.heap[gb112]? = some (.cells #[.int .i64 a0_0, (.slice A0_1 l0_1.length c0_1), (.slice A0_2 l0_2.length c0_2), (.slice A0_3 l0_3.length c0_3)] 32 (0, 0))) ∧ Aside0 (Below w.heap.size w wc))
       case first =>
        have H := HC17.out
        clear HC17
        refine yE H ?_ ?_ <;> clear H <;> rintro ⟨c18b0, c18b1, c18⟩ H
        ·(first | rw [c18b0] | (simp only [Xbd, Xbh]; rw [c18b0]) | skip)
         have H' := zq H
         clear H
         obtain ⟨hcz20_0, hcz20_1, hcz20_2, hcz20_3, hfz20_0, hfz20_1, hfz20_2, hfz20_3⟩ := cz4 BK112.out
         go_wp2
         go_meet
         case rel => exact ⟨_, (true), J4, H', ⟨by have := HJ2.out; have := HJ10.out; have := HJ13.out; first | omega | exact Nat.le_refl _⟩, ⟨J13⟩, ⟨J6⟩⟩
        clear c18
        (first | rw [c18b0] | (simp only [Xbd, Xbh]; rw [c18b0]) | skip)
        have H' := zq H
        clear H
        obtain ⟨hcz19_0, hcz19_1, hcz19_2, hcz19_3, hfz19_0, hfz19_1, hfz19_2, hfz19_3⟩ := cz4 BK112.out
        go_wp2
        go_meet
        case rel => exact ⟨_, (((l0_3.length : Int) != x7_13)), J4, H', ⟨by have := HJ2.out; have := HJ10.out; have := HJ13.out; first | omega | exact Nat.le_refl _⟩, ⟨J13⟩, ⟨J6⟩⟩
       case rest =>
        clear HC17
        try clear hcz12_0
        try clear hcz12_1
        try clear hcz12_2
        try clear hcz12_3
        try clear hcz15_0
        try clear hcz15_1
        try clear hcz15_2
        try clear hcz15_3
        try clear hcz5_0
        try clear hcz5_1
        try clear hcz5_2
        try clear hcz5_3
        try clear hfz12_0
        try clear hfz12_1
        try clear hfz12_2
        try clear hfz12_3
        try clear hfz15_0
        try clear hfz15_1
        try clear hfz15_2
        try clear hfz15_3
        try clear hfz5_0
        try clear hfz5_1
        try clear hfz5_2
        try clear hfz5_3
        obtain ⟨kq, x49_16, rfl, HA, HJ16, BK112, HB⟩ := hcut
        cases kq with
        | zero => exact absurd HA.out (by simp [Xi.j3])
        | succ kj16 =>
         have H := HA.out
         clear HA
         simp only [Xi.j3] at H
         refine yC H ?_ ?_ <;> clear H <;> rintro rfl H
         ·obtain ⟨rfl, rfl⟩ := yp2 H
          go_wp2
          go_ret2
          exact ⟨J2, J6⟩
         have H' := zq H
         clear H
         go_wp2
         go_loopg [8] kj16 (fun kq v8 w' => ∃ (x8_5 : Int), v8 = .int .i64 x8_5 ∧ Aside0 (Xi.l0 kq t113 x6_10 x7_13 x8_5 a0_0 l0_1 l0_2 l0_3 = some (r1, r2)) ∧ Aside0 (kq ≤ kj16) ∧ Aside0 (w'.heap[gb112]? = some (.cells #[.int .i64 a0_0, (.slice A0_1 l0_1.length c0_1), (.slice A0_2 l0_2.length c0_2), (.slice A0_3 l0_3.length c0_3)] 32 (0, 0))) ∧ Aside0 (Below w.heap.size w w'))
         case atStart => exact ⟨(0), J4, H', ⟨Nat.le_refl _⟩, ⟨J13⟩, ⟨J6⟩⟩
         case round =>
          clear H'
          try clear hcz12_0
          try clear hcz12_1
          try clear hcz12_2
          try clear hcz12_3
          try clear hcz15_0
          try clear hcz15_1
          try clear hcz15_2
          try clear hcz15_3
          try clear hcz5_0
          try clear hcz5_1
          try clear hcz5_2
          try clear hcz5_3
          try clear hfz12_0
          try clear hfz12_1
          try clear hfz12_2
          try clear hfz12_3
          try clear hfz15_0
          try clear hfz15_1
          try clear hfz15_2
          try clear hfz15_3
          try clear hfz5_0
          try clear hfz5_1
          try clear hfz5_2
          try clear hfz5_3
          obtain ⟨x8_5, rfl, HA, HK5, BK112, HB⟩ := hrel
          cases gk with
          | zero => exact absurd HA.out (by simp [Xi.l0])
          | succ k5 =>
           have H := HA.out
           clear HA
           simp only [Xi.l0] at H
           refine yd H ?_ ?_ <;> clear H <;> rintro c22b0 H
           ·have H' := zq H
            clear H
            go_wp2
            go_loopg [10] k5 (fun kq v10 w' => ∃ (x10_6 : Int), v10 = .int .i64 x10_6 ∧ Aside0 (Xi.l1 kq t113 x7_13 x10_6 a0_0 l0_1 l0_2 l0_3 = some (r1, r2)) ∧ Aside0 (kq ≤ k5) ∧ Aside0 (w'.heap[gb112]? = some (.cells #[.int .i64 a0_0, (.slice A0_1 l0_1.length c0_1), (.slice A0_2 l0_2.length c0_2), (.slice A0_3 l0_3.length c0_3)] 32 (0, 0))) ∧ Aside0 (Below w.heap.size w w'))
            case atStart => exact ⟨(0), J4, H', ⟨Nat.le_refl _⟩, ⟨J13⟩, ⟨J6⟩⟩
            case round =>
             clear H'
             try clear c22b0
             try clear hcz5_0
             try clear hcz5_1
             try clear hcz5_2
             try clear hcz5_3
             try clear hfz12_0
             try clear hfz12_1
             try clear hfz12_2
             try clear hfz12_3
             try clear hfz15_0
             try clear hfz15_1
             try clear hfz15_2
             try clear hfz15_3
             try clear hfz5_0
             try clear hfz5_1
             try clear hfz5_2
             try clear hfz5_3
             obtain ⟨x10_6, rfl, HA, HK6, BK112, HB⟩ := hrel
             cases gk with
             | zero => exact absurd HA.out (by simp [Xi.l1])
             | succ k6 =>
              have H := HA.out
              clear HA
              simp only [Xi.l1] at H
              refine yD H ?_ ?_ <;> clear H <;> rintro c62b0 H
              ·refine yu H ?_ ?_ <;> clear H <;> rintro c63 H
               ·have c63b0 : decide (0 ≤ x10_6) = true := decide_eq_true c63
                clear c63
                refine yu H ?_ ?_ <;> clear H <;> rintro c64 H
                ·have c64b0 : decide (x10_6 < (l0_3.length : Int)) = true := decide_eq_true c64
                 clear c64
                 refine yv H ?_; clear H; rintro t117 A65 H
                 refine yC H ?_ ?_ <;> clear H <;> rintro rfl H
                 ·have H' := zq H
                  clear H
                  obtain ⟨hcz67_0, hcz67_1, hcz67_2, hcz67_3, hfz67_0, hfz67_1, hfz67_2, hfz67_3⟩ := cz4 BK112.out
                  have p116 : 0 ≤ (x10_6 : Int) := of_decide_eq_true J3
                  have q116 : x10_6 < (l0_3.length : Int) := of_decide_eq_true J3
                  obtain ⟨ad116, e116, hx116_0, hx116_1⟩ := Xcf HR0_3.out x10_6 p116 q116
                  cases e116
                  replace hx116_0 := yh HB hx116_0
                  replace hx116_1 := yh HB hx116_1
                  replace p116 := eq_true p116
                  replace q116 := eq_true q116
                  go_wp2_with (first | ((with_reducible refine Xg (f := 71) rfl ?_); refine Xt (some 102) rfl rfl Tryd.func71 J8 rfl #[.agg #[.int .i64 ((Xv l0_3 x10_6).f0), .int .i64 ((Xv l0_3 x10_6).f1)]] rfl J1 ?_; (with_reducible refine (X4.calls k6 ((Xv l0_3 x10_6).f0) ((Xv l0_3 x10_6).f1) true _ A65.out).mono ?_); rintro e w68 ⟨rfl, hb⟩; refine ⟨_, rfl, ?_⟩; replace BK112 := zq (Xh (g := gb112) (o := .cells #[.int .i64 a0_0, .slice A0_1 l0_1.length c0_1, .slice A0_2 l0_2.length c0_2, .slice (some ad116) l0_3.length c0_3] 32 (0, 0)) (zk BK112.out) hb); replace HB := zq (Xd (zs1 GE112.out) hb); (try clear hb)))
                  go_roundg k6
                  case measure => have := HJ2.out; have := HJ10.out; have := HJ13.out; have := HJ16.out; have := HK5.out; have := HK6.out; omega
                  case rel => exact ⟨(wrap64 (x10_6 + 1)), J4, H', ⟨by have := HJ2.out; have := HJ10.out; have := HJ13.out; have := HJ16.out; have := HK5.out; have := HK6.out; omega⟩, ⟨J13⟩, ⟨J6⟩⟩
                 ·obtain ⟨rfl, rfl⟩ := yp2 H
                  obtain ⟨hcz69_0, hcz69_1, hcz69_2, hcz69_3, hfz69_0, hfz69_1, hfz69_2, hfz69_3⟩ := cz4 BK112.out
                  have p116 : 0 ≤ (x10_6 : Int) := of_decide_eq_true J3
                  have q116 : x10_6 < (l0_3.length : Int) := of_decide_eq_true J3
                  obtain ⟨ad116, e116, hx116_0, hx116_1⟩ := Xcf HR0_3.out x10_6 p116 q116
                  cases e116
                  replace hx116_0 := yh HB hx116_0
                  replace hx116_1 := yh HB hx116_1
                  replace p116 := eq_true p116
                  replace q116 := eq_true q116
                  go_wp2_with (first | ((with_reducible refine Xg (f := 71) rfl ?_); refine Xt (some 102) rfl rfl Tryd.func71 J8 rfl #[.agg #[.int .i64 ((Xv l0_3 x10_6).f0), .int .i64 ((Xv l0_3 x10_6).f1)]] rfl J1 ?_; (with_reducible refine (X4.calls k6 ((Xv l0_3 x10_6).f0) ((Xv l0_3 x10_6).f1) false _ A65.out).mono ?_); rintro e w70 ⟨rfl, hb⟩; refine ⟨_, rfl, ?_⟩; replace HB := zq (Xd (zs1 GE112.out) hb); (try clear hb)))
                  go_ret2
                  exact ⟨J2, J6⟩
                ·exact absurd H J88
               ·exact absurd H J88
              ·obtain ⟨rfl, rfl⟩ := yp2 H
               go_wp2
               go_ret2
               exact ⟨J2, J6⟩
           refine yj H ?_; clear H; intro c23b0 H
           refine yj H ?_; clear H; intro c24b0 H
           refine yE H ?_ ?_ <;> clear H <;> rintro ⟨c25b0, c25b1, c25⟩ H
           ·refine yF H ?_ ?_ <;> clear H <;> rintro ⟨c51b0, c51b1, c51⟩ H
            ·clear c51
             refine yD H ?_ ?_ <;> clear H <;> rintro c52b0 H
             ·obtain ⟨rfl, rfl⟩ := yp2 H
              obtain ⟨hcz53_0, hcz53_1, hcz53_2, hcz53_3, hfz53_0, hfz53_1, hfz53_2, hfz53_3⟩ := cz4 BK112.out
              have p115 : 0 ≤ (x8_5 : Int) := of_decide_eq_true J3
              have q115 : x8_5 < (l0_2.length : Int) := of_decide_eq_true J3
              obtain ⟨ad115, e115, hx115_0⟩ := Kd.at_int HR0_2.out x8_5 p115 q115
              cases e115
              replace hx115_0 := yh HB hx115_0
              replace p115 := eq_true p115
              replace q115 := eq_true q115
              go_wp2
              go_ret2
              exact ⟨J2, J6⟩
             ·refine yD H ?_ ?_ <;> clear H <;> rintro c54b0 H
              ·obtain ⟨rfl, rfl⟩ := yp2 H
               obtain ⟨hcz55_0, hcz55_1, hcz55_2, hcz55_3, hfz55_0, hfz55_1, hfz55_2, hfz55_3⟩ := cz4 BK112.out
               have p115 : 0 ≤ (x8_5 : Int) := of_decide_eq_true J3
               have q115 : x8_5 < (l0_2.length : Int) := of_decide_eq_true J3
               obtain ⟨ad115, e115, hx115_0⟩ := Kd.at_int HR0_2.out x8_5 p115 q115
               cases e115
               replace hx115_0 := yh HB hx115_0
               replace p115 := eq_true p115
               replace q115 := eq_true q115
               go_wp2
               go_ret2
               exact ⟨J2, J6⟩
              ·refine yD H ?_ ?_ <;> clear H <;> rintro c56b0 H
               ·refine yD H ?_ ?_ <;> clear H <;> rintro c57b0 H
                ·obtain ⟨rfl, rfl⟩ := yp2 H
                 obtain ⟨hcz58_0, hcz58_1, hcz58_2, hcz58_3, hfz58_0, hfz58_1, hfz58_2, hfz58_3⟩ := cz4 BK112.out
                 have p115 : 0 ≤ (x8_5 : Int) := of_decide_eq_true J3
                 have q115 : x8_5 < (l0_2.length : Int) := of_decide_eq_true J3
                 obtain ⟨ad115, e115, hx115_0⟩ := Kd.at_int HR0_2.out x8_5 p115 q115
                 cases e115
                 replace hx115_0 := yh HB hx115_0
                 replace p115 := eq_true p115
                 replace q115 := eq_true q115
                 go_wp2
                 go_ret2
                 exact ⟨J2, J6⟩
                ·have H' := zq H
                 clear H
                 obtain ⟨hcz59_0, hcz59_1, hcz59_2, hcz59_3, hfz59_0, hfz59_1, hfz59_2, hfz59_3⟩ := cz4 BK112.out
                 have p115 : 0 ≤ (x8_5 : Int) := of_decide_eq_true J3
                 have q115 : x8_5 < (l0_2.length : Int) := of_decide_eq_true J3
                 obtain ⟨ad115, e115, hx115_0⟩ := Kd.at_int HR0_2.out x8_5 p115 q115
                 cases e115
                 replace hx115_0 := yh HB hx115_0
                 replace p115 := eq_true p115
                 replace q115 := eq_true q115
                 go_wp2
                 go_roundg k5
                 case measure => have := HJ2.out; have := HJ10.out; have := HJ13.out; have := HJ16.out; have := HK5.out; omega
                 case rel => exact ⟨(wrap64 (x8_5 + 1)), J4, H', ⟨J41⟩, ⟨J13⟩, ⟨J6⟩⟩
               ·have H' := zq H
                clear H
                obtain ⟨hcz60_0, hcz60_1, hcz60_2, hcz60_3, hfz60_0, hfz60_1, hfz60_2, hfz60_3⟩ := cz4 BK112.out
                have p115 : 0 ≤ (x8_5 : Int) := of_decide_eq_true J3
                have q115 : x8_5 < (l0_2.length : Int) := of_decide_eq_true J3
                obtain ⟨ad115, e115, hx115_0⟩ := Kd.at_int HR0_2.out x8_5 p115 q115
                cases e115
                replace hx115_0 := yh HB hx115_0
                replace p115 := eq_true p115
                replace q115 := eq_true q115
                go_wp2
                go_roundg k5
                case measure => have := HJ2.out; have := HJ10.out; have := HJ13.out; have := HJ16.out; have := HK5.out; omega
                case rel => exact ⟨(wrap64 (x8_5 + 1)), J4, H', ⟨J41⟩, ⟨J13⟩, ⟨J6⟩⟩
            ·have H' := zq H
             clear H
             obtain ⟨hcz61_0, hcz61_1, hcz61_2, hcz61_3, hfz61_0, hfz61_1, hfz61_2, hfz61_3⟩ := cz4 BK112.out
             have p115 : 0 ≤ (x8_5 : Int) := of_decide_eq_true J3
             have q115 : x8_5 < (l0_2.length : Int) := of_decide_eq_true J3
             obtain ⟨ad115, e115, hx115_0⟩ := Kd.at_int HR0_2.out x8_5 p115 q115
             cases e115
             replace hx115_0 := yh HB hx115_0
             replace p115 := eq_true p115
             replace q115 := eq_true q115
             go_wp2
             go_roundg k5
             case measure => have := HJ2.out; have := HJ10.out; have := HJ13.out; have := HJ16.out; have := HK5.out; omega
             case rel => exact ⟨(wrap64 (x8_5 + 1)), J4, H', ⟨J41⟩, ⟨J13⟩, ⟨J6⟩⟩
           clear c25
           refine yF H ?_ ?_ <;> clear H <;> rintro ⟨c26b0, c26b1, c26⟩ H
           ·clear c26
            refine yF H ?_ ?_ <;> clear H <;> rintro ⟨c27b0, c27b1, c27⟩ H
            ·clear c27
             refine yD H ?_ ?_ <;> clear H <;> rintro c28b0 H
             ·obtain ⟨rfl, rfl⟩ := yp2 H
              obtain ⟨hcz29_0, hcz29_1, hcz29_2, hcz29_3, hfz29_0, hfz29_1, hfz29_2, hfz29_3⟩ := cz4 BK112.out
              have p115 : 0 ≤ (x8_5 : Int) := of_decide_eq_true J3
              have q115 : x8_5 < (l0_2.length : Int) := of_decide_eq_true J3
              obtain ⟨ad115, e115, hx115_0⟩ := Kd.at_int HR0_2.out x8_5 p115 q115
              cases e115
              replace hx115_0 := yh HB hx115_0
              replace p115 := eq_true p115
              replace q115 := eq_true q115
              go_wp2
              go_ret2
              exact ⟨J2, J6⟩
             ·refine yD H ?_ ?_ <;> clear H <;> rintro c30b0 H
              ·obtain ⟨rfl, rfl⟩ := yp2 H
               obtain ⟨hcz31_0, hcz31_1, hcz31_2, hcz31_3, hfz31_0, hfz31_1, hfz31_2, hfz31_3⟩ := cz4 BK112.out
               have p115 : 0 ≤ (x8_5 : Int) := of_decide_eq_true J3
               have q115 : x8_5 < (l0_2.length : Int) := of_decide_eq_true J3
               obtain ⟨ad115, e115, hx115_0⟩ := Kd.at_int HR0_2.out x8_5 p115 q115
               cases e115
               replace hx115_0 := yh HB hx115_0
               replace p115 := eq_true p115
               replace q115 := eq_true q115
               go_wp2
               go_ret2
               exact ⟨J2, J6⟩
              ·refine yD H ?_ ?_ <;> clear H <;> rintro c32b0 H
               ·refine yD H ?_ ?_ <;> clear H <;> rintro c33b0 H
                ·obtain ⟨rfl, rfl⟩ := yp2 H
                 obtain ⟨hcz34_0, hcz34_1, hcz34_2, hcz34_3, hfz34_0, hfz34_1, hfz34_2, hfz34_3⟩ := cz4 BK112.out
                 have p115 : 0 ≤ (x8_5 : Int) := of_decide_eq_true J3
                 have q115 : x8_5 < (l0_2.length : Int) := of_decide_eq_true J3
                 obtain ⟨ad115, e115, hx115_0⟩ := Kd.at_int HR0_2.out x8_5 p115 q115
                 cases e115
                 replace hx115_0 := yh HB hx115_0
                 replace p115 := eq_true p115
                 replace q115 := eq_true q115
                 go_wp2
                 go_ret2
                 exact ⟨J2, J6⟩
                ·have H' := zq H
                 clear H
                 obtain ⟨hcz35_0, hcz35_1, hcz35_2, hcz35_3, hfz35_0, hfz35_1, hfz35_2, hfz35_3⟩ := cz4 BK112.out
                 have p115 : 0 ≤ (x8_5 : Int) := of_decide_eq_true J3
                 have q115 : x8_5 < (l0_2.length : Int) := of_decide_eq_true J3
                 obtain ⟨ad115, e115, hx115_0⟩ := Kd.at_int HR0_2.out x8_5 p115 q115
                 cases e115
                 replace hx115_0 := yh HB hx115_0
                 replace p115 := eq_true p115
                 replace q115 := eq_true q115
                 go_wp2
                 go_roundg k5
                 case measure => have := HJ2.out; have := HJ10.out; have := HJ13.out; have := HJ16.out; have := HK5.out; omega
                 case rel => exact ⟨(wrap64 (x8_5 + 1)), J4, H', ⟨J41⟩, ⟨J13⟩, ⟨J6⟩⟩
               ·have H' := zq H
                clear H
                obtain ⟨hcz36_0, hcz36_1, hcz36_2, hcz36_3, hfz36_0, hfz36_1, hfz36_2, hfz36_3⟩ := cz4 BK112.out
                have p115 : 0 ≤ (x8_5 : Int) := of_decide_eq_true J3
                have q115 : x8_5 < (l0_2.length : Int) := of_decide_eq_true J3
                obtain ⟨ad115, e115, hx115_0⟩ := Kd.at_int HR0_2.out x8_5 p115 q115
                cases e115
                replace hx115_0 := yh HB hx115_0
                replace p115 := eq_true p115
                replace q115 := eq_true q115
                go_wp2
                go_roundg k5
                case measure => have := HJ2.out; have := HJ10.out; have := HJ13.out; have := HJ16.out; have := HK5.out; omega
                case rel => exact ⟨(wrap64 (x8_5 + 1)), J4, H', ⟨J41⟩, ⟨J13⟩, ⟨J6⟩⟩
            ·have H' := zq H
             clear H
             obtain ⟨hcz37_0, hcz37_1, hcz37_2, hcz37_3, hfz37_0, hfz37_1, hfz37_2, hfz37_3⟩ := cz4 BK112.out
             have p115 : 0 ≤ (x8_5 : Int) := of_decide_eq_true J3
             have q115 : x8_5 < (l0_2.length : Int) := of_decide_eq_true J3
             obtain ⟨ad115, e115, hx115_0⟩ := Kd.at_int HR0_2.out x8_5 p115 q115
             cases e115
             replace hx115_0 := yh HB hx115_0
             replace p115 := eq_true p115
             replace q115 := eq_true q115
             go_wp2
             go_roundg k5
             case measure => have := HJ2.out; have := HJ10.out; have := HJ13.out; have := HJ16.out; have := HK5.out; omega
             case rel => exact ⟨(wrap64 (x8_5 + 1)), J4, H', ⟨J41⟩, ⟨J13⟩, ⟨J6⟩⟩
           refine yE H ?_ ?_ <;> clear H <;> rintro ⟨c38b0, c38b1, c38⟩ H
           ·obtain ⟨rfl, rfl⟩ := yp2 H
            obtain ⟨hcz50_0, hcz50_1, hcz50_2, hcz50_3, hfz50_0, hfz50_1, hfz50_2, hfz50_3⟩ := cz4 BK112.out
            have p115 : 0 ≤ (x8_5 : Int) := of_decide_eq_true J3
            have q115 : x8_5 < (l0_2.length : Int) := of_decide_eq_true J3
            obtain ⟨ad115, e115, hx115_0⟩ := Kd.at_int HR0_2.out x8_5 p115 q115
            cases e115
            replace hx115_0 := yh HB hx115_0
            replace p115 := eq_true p115
            replace q115 := eq_true q115
            go_wp2
            go_ret2
            exact ⟨J2, J6⟩
           clear c38
           refine yE H ?_ ?_ <;> clear H <;> rintro ⟨c39b0, c39b1, c39⟩ H
           ·have H' := zq H
            clear H
            obtain ⟨hcz49_0, hcz49_1, hcz49_2, hcz49_3, hfz49_0, hfz49_1, hfz49_2, hfz49_3⟩ := cz4 BK112.out
            have p115 : 0 ≤ (x8_5 : Int) := of_decide_eq_true J3
            have q115 : x8_5 < (l0_2.length : Int) := of_decide_eq_true J3
            obtain ⟨ad115, e115, hx115_0⟩ := Kd.at_int HR0_2.out x8_5 p115 q115
            cases e115
            replace hx115_0 := yh HB hx115_0
            replace p115 := eq_true p115
            replace q115 := eq_true q115
            go_wp2
            go_roundg k5
            case measure => have := HJ2.out; have := HJ10.out; have := HJ13.out; have := HJ16.out; have := HK5.out; omega
            case rel => exact ⟨(wrap64 (x8_5 + 1)), J4, H', ⟨J41⟩, ⟨J13⟩, ⟨J6⟩⟩
           clear c39
           refine yD H ?_ ?_ <;> clear H <;> rintro c40b0 H
           ·obtain ⟨rfl, rfl⟩ := yp2 H
            obtain ⟨hcz41_0, hcz41_1, hcz41_2, hcz41_3, hfz41_0, hfz41_1, hfz41_2, hfz41_3⟩ := cz4 BK112.out
            have p115 : 0 ≤ (x8_5 : Int) := of_decide_eq_true J3
            have q115 : x8_5 < (l0_2.length : Int) := of_decide_eq_true J3
            obtain ⟨ad115, e115, hx115_0⟩ := Kd.at_int HR0_2.out x8_5 p115 q115
            cases e115
            replace hx115_0 := yh HB hx115_0
            replace p115 := eq_true p115
            replace q115 := eq_true q115
            go_wp2
            go_ret2
            exact ⟨J2, J6⟩
           refine yD H ?_ ?_ <;> clear H <;> rintro c42b0 H
           ·obtain ⟨rfl, rfl⟩ := yp2 H
            obtain ⟨hcz43_0, hcz43_1, hcz43_2, hcz43_3, hfz43_0, hfz43_1, hfz43_2, hfz43_3⟩ := cz4 BK112.out
            have p115 : 0 ≤ (x8_5 : Int) := of_decide_eq_true J3
            have q115 : x8_5 < (l0_2.length : Int) := of_decide_eq_true J3
            obtain ⟨ad115, e115, hx115_0⟩ := Kd.at_int HR0_2.out x8_5 p115 q115
            cases e115
            replace hx115_0 := yh HB hx115_0
            replace p115 := eq_true p115
            replace q115 := eq_true q115
            go_wp2
            go_ret2
            exact ⟨J2, J6⟩
           refine yd H ?_ ?_ <;> clear H <;> rintro c44b0 H
           ·have H' := zq H
            clear H
            obtain ⟨hcz48_0, hcz48_1, hcz48_2, hcz48_3, hfz48_0, hfz48_1, hfz48_2, hfz48_3⟩ := cz4 BK112.out
            have p115 : 0 ≤ (x8_5 : Int) := of_decide_eq_true J3
            have q115 : x8_5 < (l0_2.length : Int) := of_decide_eq_true J3
            obtain ⟨ad115, e115, hx115_0⟩ := Kd.at_int HR0_2.out x8_5 p115 q115
            cases e115
            replace hx115_0 := yh HB hx115_0
            replace p115 := eq_true p115
            replace q115 := eq_true q115
            go_wp2
            go_roundg k5
            case measure => have := HJ2.out; have := HJ10.out; have := HJ13.out; have := HJ16.out; have := HK5.out; omega
            case rel => exact ⟨(wrap64 (x8_5 + 1)), J4, H', ⟨J41⟩, ⟨J13⟩, ⟨J6⟩⟩
           refine yD H ?_ ?_ <;> clear H <;> rintro c45b0 H
           ·obtain ⟨rfl, rfl⟩ := yp2 H
            obtain ⟨hcz46_0, hcz46_1, hcz46_2, hcz46_3, hfz46_0, hfz46_1, hfz46_2, hfz46_3⟩ := cz4 BK112.out
            have p115 : 0 ≤ (x8_5 : Int) := of_decide_eq_true J3
            have q115 : x8_5 < (l0_2.length : Int) := of_decide_eq_true J3
            obtain ⟨ad115, e115, hx115_0⟩ := Kd.at_int HR0_2.out x8_5 p115 q115
            cases e115
            replace hx115_0 := yh HB hx115_0
            replace p115 := eq_true p115
            replace q115 := eq_true q115
            go_wp2
            go_ret2
            exact ⟨J2, J6⟩
           have H' := zq H
           clear H
           obtain ⟨hcz47_0, hcz47_1, hcz47_2, hcz47_3, hfz47_0, hfz47_1, hfz47_2, hfz47_3⟩ := cz4 BK112.out
           have p115 : 0 ≤ (x8_5 : Int) := of_decide_eq_true J3
           have q115 : x8_5 < (l0_2.length : Int) := of_decide_eq_true J3
           obtain ⟨ad115, e115, hx115_0⟩ := Kd.at_int HR0_2.out x8_5 p115 q115
           cases e115
           replace hx115_0 := yh HB hx115_0
           replace p115 := eq_true p115
           replace q115 := eq_true q115
           go_wp2
           go_roundg k5
           case measure => have := HJ2.out; have := HJ10.out; have := HJ13.out; have := HJ16.out; have := HK5.out; omega
           case rel => exact ⟨(wrap64 (x8_5 + 1)), J4, H', ⟨J41⟩, ⟨J13⟩, ⟨J6⟩⟩
end Go.Proofs.YtfjhiiaahbjaiaaDoor.HSystemFirst
