/- What the Go functions of this claim answer, told as functions of numbers and lists, and that other memory stays as it was: words and walks, shortened by a program. -/
import Derived.Test.YtfjhiiaahbjaiaaDoorSSystemFirstx0
import Derived.Test.YtfjhiiaahbjaiaaDoorSSystemFirstx1
namespace Go.Proofs.YtfjhiiaahbjaiaaDoor.HSystemFirst
open Go.RowKit Go.Proofs.YtfjhiiaahbjaiaaDoorW.PrintWords Go.Proofs.YtfjhiiaahbjaiaaDoorW.PrintLast Go.Proofs.YtfjhiiaahbjaiaaDoorW.PrintMore
attribute [local go_sem] Xby Xbw Xcb Xca Xbp Xbo Xbx Xbv
set_option linter.unusedVariables false
set_option linter.unusedSimpArgs false
attribute [local go_sem high] eqA40
mutual
def Xl.l0 : Nat → List Int → Int → Int → Option (Int × Bool)
 | 0, _, _, _ => none
 | k + 1, x0, x4, x5 => if x5 < (x0.length : Int) then (if 0 ≤ x5 then (if (rd x0 x5) < 0 then (Xl.j1 k x0 x4 x5 true) else (Xl.j1 k x0 x4 x5 (decide ((rd x0 x5) > 1048576)))) else (none)) else (if x4 = 0 then (some (0, true)) else (Xl.l1 k x0 x4 0))
def Xl.j1 : Nat → List Int → Int → Int → Bool → Option (Int × Bool)
 | 0, _, _, _, _ => none
 | k + 1, x0, x4, x5, x27 => if x27 = true then (some (0, false)) else (if 0 ≤ x5 then (if x5 < (x0.length : Int) then (if (rd x0 x5) = 0 then (Xl.l0 k x0 0 (wrap64 (x5 + 1))) else (Xl.l0 k x0 x4 (wrap64 (x5 + 1)))) else (none)) else (none))
def Xl.l1 : Nat → List Int → Int → Int → Option (Int × Bool)
 | 0, _, _, _ => none
 | k + 1, x0, x4, x6 => if x6 < (x0.length : Int) then (if 0 ≤ x6 then (if (wrap64 (x4 * (rd x0 x6))) > 1048576 then (some (0, false)) else (Xl.l1 k x0 (wrap64 (x4 * (rd x0 x6))) (wrap64 (x6 + 1)))) else (none)) else (some (x4, true))
end
def Xl.f (k : Nat) (l0 : List Int) : Option (Int × Bool) := if (l0.length : Int) > 16 then (some (0, false)) else (Xl.l0 k l0 1 0)
theorem Xl.mono_l : ∀ k, (∀ y0 y1 y2, LeO (Xl.l0 k y0 y1 y2) (Xl.l0 (k + 1) y0 y1 y2)) ∧ (∀ y0 y1 y2 y3, LeO (Xl.j1 k y0 y1 y2 y3) (Xl.j1 (k + 1) y0 y1 y2 y3)) ∧ (∀ y0 y1 y2, LeO (Xl.l1 k y0 y1 y2) (Xl.l1 (k + 1) y0 y1 y2))
 | 0 => ⟨fun _ _ _ r h => by simp [Xl.l0] at h, fun _ _ _ _ r h => by simp [Xl.j1] at h, fun _ _ _ r h => by simp [Xl.l1] at h⟩
 | k + 1 => by
  obtain ⟨ih0, ih1, ih2⟩ := Xl.mono_l k
  refine ⟨?_, ?_, ?_⟩
  ·intro y0 y1 y2
   unfold Xl.l0
   exact mz0
  ·intro y0 y1 y2 y3
   unfold Xl.j1
   exact mz0
  ·intro y0 y1 y2
   unfold Xl.l1
   exact mz0
theorem Xl.mono : ∀ a0 k, LeO (Xl.f k a0) (Xl.f (k + 1) a0) := by
 intro a0 k
 obtain ⟨ih0, ih1, ih2⟩ := Xl.mono_l k
 unfold Xl.f
 exact mz0
set_option maxHeartbeats 8000000 in
set_option maxRecDepth 100000 in
theorem Xl.calls (k : Nat) (A0 : Option Addr) (c0 : Nat) (l0 : List Int) (r1 : Int) (r2 : Bool) (w : World) (hr0 : Kd.C (Kd.int .i64) w A0 l0.length l0) (hc0 : l0.length ≤ c0) (h : Xl.f k l0 = some (r1, r2)) :
  Calls Tryd.prog 70 #[.slice A0 l0.length c0] w fun e w' => e = .returned (.tuple #[.int .i64 r1, .bool r2]) ∧ Drawn0 w w' := by
 have HR0 := zq hr0
 have HC0 := zq hc0
 clear hr0 hc0
 unfold Xl.f at h
 have H := h
 clear h
 refine yu H ?_ ?_ <;> clear H <;> rintro c2 H
 ·have c2b0 : decide (16 < (l0.length : Int)) = true := decide_eq_true c2
  have c2b1 : decide (16 < l0.length) = true := decide_eq_true J35
  clear c2
  obtain ⟨rfl, rfl⟩ := yp2 H
  go_enter Tryd.func70, Tryd.ntmps70
  go_wp2
  go_ret2
  exact ⟨J4, J5⟩
 have c2b0 := decide_eq_false c2
 have c2b1 : decide (16 < l0.length) = false := decide_eq_false J35
 clear c2
 have H' := zq H
 clear H
 go_enter Tryd.func70, Tryd.ntmps70
 go_wp2
 go_loopg [4, 5] k (fun kq v4 v5 w' => ∃ (x4_1 : Int) (x5_1 : Int), v4 = .int .i64 x4_1 ∧ v5 = .int .i64 x5_1 ∧ Aside0 (Xl.l0 kq l0 x4_1 x5_1 = some (r1, r2)) ∧ Aside0 (kq ≤ k) ∧ Drawn0 w w')
 case atStart => exact ⟨(1), (0), J4, J4, H', ⟨Nat.le_refl _⟩, J5⟩
 case round =>
  clear H'
  try clear c2
  try clear c2b0
  try clear c2b1
  obtain ⟨x4_1, x5_1, rfl, rfl, HA, HK1, ⟨m1, rfl⟩⟩ := hrel
  cases gk with
  | zero => exact absurd HA.out (by simp [Xl.l0])
  | succ k1 =>
   have H := HA.out
   clear HA
   simp only [Xl.l0] at H
   refine yd H ?_ ?_ <;> clear H <;> rintro c3b0 H
   ·refine yF H ?_ ?_ <;> clear H <;> rintro ⟨c11b0, c11b1, c11⟩ H
    ·clear c11
     obtain ⟨rfl, rfl⟩ := yp2 H
     go_wp2
     go_ret2
     exact ⟨J4, J5⟩
    ·have H' := zq H
     clear H
     go_wp2
     go_loopg [4, 6] k1 (fun kq v4 v6 w' => ∃ (x4_2 : Int) (x6_2 : Int), v4 = .int .i64 x4_2 ∧ v6 = .int .i64 x6_2 ∧ Aside0 (Xl.l1 kq l0 x4_2 x6_2 = some (r1, r2)) ∧ Aside0 (kq ≤ k1) ∧ Drawn0 w w')
     case atStart => exact ⟨(x4_1), (0), J4, J4, H', ⟨Nat.le_refl _⟩, J5⟩
     case round =>
      clear H'
      try clear c2
      try clear c2b0
      try clear c2b1
      try clear c3b0
      try clear c11
      try clear c11b0
      try clear c11b1
      obtain ⟨x4_2, x6_2, rfl, rfl, HA, HK2, ⟨m2, rfl⟩⟩ := hrel
      cases gk with
      | zero => exact absurd HA.out (by simp [Xl.l1])
      | succ k2 =>
       have H := HA.out
       clear HA
       simp only [Xl.l1] at H
       refine yD H ?_ ?_ <;> clear H <;> rintro c12b0 H
       ·refine yu H ?_ ?_ <;> clear H <;> rintro c13 H
        ·have c13b0 : decide (0 ≤ x6_2) = true := decide_eq_true c13
         clear c13
         refine yD H ?_ ?_ <;> clear H <;> rintro c14b0 H
         ·obtain ⟨rfl, rfl⟩ := yp2 H
          have p104 : 0 ≤ (x6_2 : Int) := of_decide_eq_true J3
          have q104 : x6_2 < (l0.length : Int) := of_decide_eq_true J3
          obtain ⟨ad104, e104, hx104_0⟩ := Kd.at_int HR0.out x6_2 p104 q104
          cases e104
          replace p104 := eq_true p104
          replace q104 := eq_true q104
          go_wp2
          go_ret2
          exact ⟨J4, J5⟩
         ·have H' := zq H
          clear H
          have p104 : 0 ≤ (x6_2 : Int) := of_decide_eq_true J3
          have q104 : x6_2 < (l0.length : Int) := of_decide_eq_true J3
          obtain ⟨ad104, e104, hx104_0⟩ := Kd.at_int HR0.out x6_2 p104 q104
          cases e104
          replace p104 := eq_true p104
          replace q104 := eq_true q104
          go_wp2
          go_roundg k2
          case measure => have := HK1.out; have := HK2.out; omega
          case rel => exact ⟨(wrap64 (x4_2 * (rd l0 x6_2))), (wrap64 (x6_2 + 1)), J4, J4, H', ⟨by have := HK1.out; have := HK2.out; omega⟩, J5⟩
        ·exact absurd H J88
       ·obtain ⟨rfl, rfl⟩ := yp2 H
        go_wp2
        go_ret2
        exact ⟨J4, J5⟩
   have HC4 := zq H
   clear H
   go_upto_region 7 with (fail)
   go_cut [27] (fun v27 wc => ∃ (kq : Nat) (x27_3 : Bool), v27 = .bool x27_3 ∧ Aside0 (Xl.j1 kq l0 x4_1 x5_1 x27_3 = some (r1, r2)) ∧ Aside0 (kq ≤ k1) ∧ Drawn0 w wc)
   case first =>
    have H := HC4.out
    clear HC4
    refine yj H ?_; clear H; intro c5b0 H
    (first | rw [c5b0] | (simp only [Xbd, Xbh]; rw [c5b0]) | skip)
    refine yD H ?_ ?_ <;> clear H <;> rintro c6b0 H
    ·have H' := zq H
     clear H
     have p101 : 0 ≤ (x5_1 : Int) := of_decide_eq_true J3
     have q101 : x5_1 < (l0.length : Int) := of_decide_eq_true J3
     obtain ⟨ad101, e101, hx101_0⟩ := Kd.at_int HR0.out x5_1 p101 q101
     cases e101
     replace p101 := eq_true p101
     replace q101 := eq_true q101
     go_wp2
     go_meet
     case rel => exact ⟨_, (true), J4, H', ⟨J87⟩, J5⟩
    have H' := zq H
    clear H
    have p101 : 0 ≤ (x5_1 : Int) := of_decide_eq_true J3
    have q101 : x5_1 < (l0.length : Int) := of_decide_eq_true J3
    obtain ⟨ad101, e101, hx101_0⟩ := Kd.at_int HR0.out x5_1 p101 q101
    cases e101
    replace p101 := eq_true p101
    replace q101 := eq_true q101
    have p102 : 0 ≤ (x5_1 : Int) := of_decide_eq_true J3
    have q102 : x5_1 < (l0.length : Int) := of_decide_eq_true J3
    obtain ⟨ad102, e102, hx102_0⟩ := Kd.at_int HR0.out x5_1 p102 q102
    obtain rfl : ad101 = ad102 := (by injection e102)
    replace p102 := eq_true p102
    replace q102 := eq_true q102
    go_wp2
    go_meet
    case rel => exact ⟨_, (decide ((rd l0 x5_1) > 1048576)), J4, H', ⟨J87⟩, J5⟩
   case rest =>
    clear HC4
    try clear c2
    try clear c2b0
    try clear c2b1
    try clear c3b0
    obtain ⟨kq, x27_3, rfl, HA, HJ3, ⟨mc3, rfl⟩⟩ := hcut
    cases kq with
    | zero => exact absurd HA.out (by simp [Xl.j1])
    | succ kj3 =>
     have H := HA.out
     clear HA
     simp only [Xl.j1] at H
     refine yC H ?_ ?_ <;> clear H <;> rintro rfl H
     ·obtain ⟨rfl, rfl⟩ := yp2 H
      go_wp2
      go_ret2
      exact ⟨J4, J5⟩
     refine yj H ?_; clear H; intro c8b0 H
     refine yj H ?_; clear H; intro c9b0 H
     refine yE H ?_ ?_ <;> clear H <;> rintro ⟨c10b0, c10b1, c10⟩ H
     ·have H' := zq H
      clear H
      have p103 : 0 ≤ (x5_1 : Int) := of_decide_eq_true J3
      have q103 : x5_1 < (l0.length : Int) := of_decide_eq_true J3
      obtain ⟨ad103, e103, hx103_0⟩ := Kd.at_int HR0.out x5_1 p103 q103
      cases e103
      replace p103 := eq_true p103
      replace q103 := eq_true q103
      go_wp2
      go_roundg kj3
      case measure => have := HK1.out; have := HJ3.out; omega
      case rel => exact ⟨(x4_1), (wrap64 (x5_1 + 1)), J4, J4, H', ⟨by have := HK1.out; have := HJ3.out; omega⟩, J5⟩
     clear c10
     have H' := zq H
     clear H
     have p103 : 0 ≤ (x5_1 : Int) := of_decide_eq_true J3
     have q103 : x5_1 < (l0.length : Int) := of_decide_eq_true J3
     obtain ⟨ad103, e103, hx103_0⟩ := Kd.at_int HR0.out x5_1 p103 q103
     cases e103
     replace p103 := eq_true p103
     replace q103 := eq_true q103
     go_wp2
     go_roundg kj3
     case measure => have := HK1.out; have := HJ3.out; omega
     case rel => exact ⟨(0), (wrap64 (x5_1 + 1)), J4, J4, H', ⟨by have := HK1.out; have := HJ3.out; omega⟩, J5⟩
def Xap.l0 : Nat → Int → Int → Option (Int × Int × Bool)
 | 0, _, _ => none
 | k + 1, x106000, x106001 => if (Int.tmod x106000 10) = 0 then (if x106001 ≤ 32767 then (Xap.l0 k (wrap64 (Int.tdiv x106000 10)) (wrap64 (x106001 + 1))) else (if x106001 < (-32768) then (some (0, 0, false)) else (if x106001 > 32767 then (some (0, 0, false)) else (some (x106000, x106001, true))))) else (if x106001 < (-32768) then (some (0, 0, false)) else (if x106001 > 32767 then (some (0, 0, false)) else (some (x106000, x106001, true))))
def Xap.f (k : Nat) (a0_0 : Int) (a0_1 : Int) : Option (Int × Int × Bool) := if a0_0 = 0 then (some (0, 0, true)) else (Xap.l0 k a0_0 a0_1)
theorem Xap.mono_l : ∀ k, (∀ y0 y1, LeO (Xap.l0 k y0 y1) (Xap.l0 (k + 1) y0 y1))
 | 0 => fun _ _ r h => by simp [Xap.l0] at h
 | k + 1 => by
  have ih0 := Xap.mono_l k
  ·intro y0 y1
   unfold Xap.l0
   exact mz0
theorem Xap.mono : ∀ a0 a1 k, LeO (Xap.f k a0 a1) (Xap.f (k + 1) a0 a1) := by
 intro a0 a1 k
 have ih0 := Xap.mono_l k
 unfold Xap.f
 exact mz0
set_option maxHeartbeats 8000000 in
set_option maxRecDepth 100000 in
theorem Xap.calls (k : Nat) (a0_0 : Int) (a0_1 : Int) (r1 : Int) (r2 : Int) (r3 : Bool) (w : World) (h : Xap.f k a0_0 a0_1 = some (r1, r2, r3)) :
  Calls Tryd.prog 82 #[.agg #[.int .i64 a0_0, .int .i64 a0_1]] w fun e w' => e = .returned (.tuple #[.agg #[.int .i64 r1, .int .i64 r2], .bool r3]) ∧ Below w.heap.size w w' := by
 have hu40 := Tryd.underlying40
 have HB := zq (Below.refl w.heap.size w)
 unfold Xap.f at h
 have H := h
 clear h
 refine yF H ?_ ?_ <;> clear H <;> rintro ⟨c2b0, c2b1, c2⟩ H
 ·clear c2
  obtain ⟨rfl, rfl, rfl⟩ := yp3 H
  go_enter Tryd.func82, Tryd.ntmps82
  go_wp2_with (first | ((with_reducible refine Xk (N := 1) rfl ?_); refine bxw 1 40 #[.int .i64 a0_0, .int .i64 a0_1] ?_; intro gb105 hg w3 hbox hb; have BK105 := zq (hbox); have GE105 := zq ((J12 : w.heap.size ≤ gb105)); replace HB := zq (Xd J0 hb); clear hb hbox hg) | ((with_reducible refine Xk (N := 2) rfl ?_); refine bxw 2 40 #[.int .i64 0, .int .i64 0] ?_; intro gb106 hg w4 hbox hb; have BK106 := zq (hbox); have GE106 := zq ((by rw [hg]; exact (Xf (zs1 GE105.out)) : w.heap.size ≤ gb106)); replace HB := zq (Xd (zs1 GE105.out) hb); have NB105_106 := zq ((J142 : gb105 ≠ gb106)); have NB106_105 := zq ((J143 : gb106 ≠ gb105)); replace BK105 := zq (Xh (g := gb105) (o := .cells #[.int .i64 a0_0, .int .i64 a0_1] 40 (0, 0)) (zk BK105.out) hb); clear hb hbox hg; have hnb5 := NB105_106.out; have hnc5 := NB106_105.out; obtain ⟨hcz6_0, hcz6_1, hfz6_0, hfz6_1⟩ := cz2 BK105.out; obtain ⟨hcz7_0, hcz7_1, hfz7_0, hfz7_1⟩ := cz2 BK106.out))
  refine bodyPost_ret (Xa1 rfl _ _ gb106 40 #[.int .i64 0, .int .i64 0] (0, 0) _ rfl J18 Tryd.underlying40 rfl J8) rfl ?_
  exact ⟨J2, J20⟩
 have H' := zq H
 clear H
 go_enter Tryd.func82, Tryd.ntmps82
 go_wp2_with (first | ((with_reducible refine Xk (N := 1) rfl ?_); refine bxw 1 40 #[.int .i64 a0_0, .int .i64 a0_1] ?_; intro gb105 hg w8 hbox hb; have BK105 := zq (hbox); have GE105 := zq ((J12 : w.heap.size ≤ gb105)); replace HB := zq (Xd J0 hb); clear hb hbox hg) | ((with_reducible refine Xk (N := 2) rfl ?_); refine bxw 2 40 #[.int .i64 0, .int .i64 0] ?_; intro gb106 hg w9 hbox hb; have BK106 := zq (hbox); have GE106 := zq ((by rw [hg]; exact (Xf (zs1 GE105.out)) : w.heap.size ≤ gb106)); replace HB := zq (Xd (zs1 GE105.out) hb); have NB105_106 := zq ((J142 : gb105 ≠ gb106)); have NB106_105 := zq ((J143 : gb106 ≠ gb105)); replace BK105 := zq (Xh (g := gb105) (o := .cells #[.int .i64 a0_0, .int .i64 a0_1] 40 (0, 0)) (zk BK105.out) hb); clear hb hbox hg; have hnb10 := NB105_106.out; have hnc10 := NB106_105.out; obtain ⟨hcz11_0, hcz11_1, hfz11_0, hfz11_1⟩ := cz2 BK105.out))
 go_loopg [] k (fun kq w' => ∃ (x106000_1 : Int) (x106001_1 : Int), Aside0 (Xap.l0 kq x106000_1 x106001_1 = some (r1, r2, r3)) ∧ Aside0 (kq ≤ k) ∧ Aside0 (w'.heap[gb105]? = some (.cells #[.int .i64 x106000_1, .int .i64 x106001_1] 40 (0, 0))) ∧ Aside0 (w'.heap[gb106]? = some (.cells #[.int .i64 0, .int .i64 0] 40 (0, 0))) ∧ Aside0 (Below w.heap.size w w'))
 case atStart => exact ⟨(a0_0), (a0_1), H', ⟨Nat.le_refl _⟩, ⟨by (with_reducible repeat (first | refine Xc ?_ _ | refine Xe ?_ | refine Xb ?_ _)); exact BK105.out⟩, ⟨by (with_reducible repeat (first | refine Xc ?_ _ | refine Xe ?_ | refine Xb ?_ _)); exact BK106.out⟩, ⟨J20⟩⟩
 case round =>
  clear H'
  try clear c2
  try clear c2b0
  try clear c2b1
  try clear hcz11_0
  try clear hcz11_1
  try clear hfz11_0
  try clear hfz11_1
  obtain ⟨x106000_1, x106001_1, HA, HK1, BK105, BK106, HB⟩ := hrel
  cases gk with
  | zero => exact absurd HA.out (by simp [Xap.l0])
  | succ k1 =>
   have H := HA.out
   clear HA
   simp only [Xap.l0] at H
   refine yE H ?_ ?_ <;> clear H <;> rintro ⟨c12b0, c12b1, c12⟩ H
   ·refine yD H ?_ ?_ <;> clear H <;> rintro c27b0 H
    ·obtain ⟨rfl, rfl, rfl⟩ := yp3 H
     have hnb28 := NB105_106.out
     have hnc28 := NB106_105.out
     obtain ⟨hcz29_0, hcz29_1, hfz29_0, hfz29_1⟩ := cz2 BK105.out
     obtain ⟨hcz30_0, hcz30_1, hfz30_0, hfz30_1⟩ := cz2 BK106.out
     go_wp2
     refine bodyPost_ret (Xa1 rfl _ _ gb106 40 #[.int .i64 0, .int .i64 0] (0, 0) _ rfl J18 Tryd.underlying40 rfl J8) rfl ?_
     exact ⟨J2, J20⟩
    ·refine yD H ?_ ?_ <;> clear H <;> rintro c31b0 H
     ·obtain ⟨rfl, rfl, rfl⟩ := yp3 H
      have hnb32 := NB105_106.out
      have hnc32 := NB106_105.out
      obtain ⟨hcz33_0, hcz33_1, hfz33_0, hfz33_1⟩ := cz2 BK105.out
      obtain ⟨hcz34_0, hcz34_1, hfz34_0, hfz34_1⟩ := cz2 BK106.out
      go_wp2
      refine bodyPost_ret (Xa1 rfl _ _ gb106 40 #[.int .i64 0, .int .i64 0] (0, 0) _ rfl J18 Tryd.underlying40 rfl J8) rfl ?_
      exact ⟨J2, J20⟩
     ·obtain ⟨rfl, rfl, rfl⟩ := yp3 H
      have hnb35 := NB105_106.out
      have hnc35 := NB106_105.out
      obtain ⟨hcz36_0, hcz36_1, hfz36_0, hfz36_1⟩ := cz2 BK105.out
      obtain ⟨hcz37_0, hcz37_1, hfz37_0, hfz37_1⟩ := cz2 BK106.out
      go_wp2
      refine bodyPost_ret (Xa1 rfl _ _ gb106 40 #[.int .i64 x106000_1, .int .i64 x106001_1] (0, 0) _ rfl J84 Tryd.underlying40 rfl J8) rfl ?_
      exact ⟨J2, J20⟩
   clear c12
   refine yD H ?_ ?_ <;> clear H <;> rintro c13b0 H
   ·have H' := zq H
    clear H
    have hnb14 := NB105_106.out
    have hnc14 := NB106_105.out
    obtain ⟨hcz15_0, hcz15_1, hfz15_0, hfz15_1⟩ := cz2 BK105.out
    go_wp2
    go_roundg k1
    case measure => have := HK1.out; omega
    case rel => exact ⟨(wrap64 (Int.tdiv x106000_1 10)), (wrap64 (x106001_1 + 1)), H', ⟨J86⟩, ⟨by (with_reducible repeat (first | refine Xc ?_ _ | refine Xe ?_ | refine Xb ?_ _)); refine Xj (cs := #[.int .i64 (wrap64 (Int.tdiv x106000_1 10)), .int .i64 x106001_1]) ?_ 1 _ rfl; (with_reducible repeat (first | refine Xc ?_ _ | refine Xe ?_ | refine Xb ?_ _)); refine Xj (cs := #[.int .i64 x106000_1, .int .i64 x106001_1]) ?_ 0 _ rfl; (with_reducible repeat (first | refine Xc ?_ _ | refine Xe ?_ | refine Xb ?_ _)); exact BK105.out⟩, ⟨by (with_reducible repeat (first | refine Xc ?_ _ | refine Xe ?_ | refine Xb ?_ _)); refine Xab ?_ NB106_105.out _; (with_reducible repeat (first | refine Xc ?_ _ | refine Xe ?_ | refine Xb ?_ _)); refine Xab ?_ NB106_105.out _; (with_reducible repeat (first | refine Xc ?_ _ | refine Xe ?_ | refine Xb ?_ _)); exact BK106.out⟩, ⟨J20⟩⟩
   refine yD H ?_ ?_ <;> clear H <;> rintro c16b0 H
   ·obtain ⟨rfl, rfl, rfl⟩ := yp3 H
    have hnb17 := NB105_106.out
    have hnc17 := NB106_105.out
    obtain ⟨hcz18_0, hcz18_1, hfz18_0, hfz18_1⟩ := cz2 BK105.out
    obtain ⟨hcz19_0, hcz19_1, hfz19_0, hfz19_1⟩ := cz2 BK106.out
    go_wp2
    refine bodyPost_ret (Xa1 rfl _ _ gb106 40 #[.int .i64 0, .int .i64 0] (0, 0) _ rfl J18 Tryd.underlying40 rfl J8) rfl ?_
    exact ⟨J2, J20⟩
   refine yd H ?_ ?_ <;> clear H <;> rintro c20b0 H
   ·obtain ⟨rfl, rfl, rfl⟩ := yp3 H
    have hnb24 := NB105_106.out
    have hnc24 := NB106_105.out
    obtain ⟨hcz25_0, hcz25_1, hfz25_0, hfz25_1⟩ := cz2 BK105.out
    obtain ⟨hcz26_0, hcz26_1, hfz26_0, hfz26_1⟩ := cz2 BK106.out
    go_wp2
    refine bodyPost_ret (Xa1 rfl _ _ gb106 40 #[.int .i64 x106000_1, .int .i64 x106001_1] (0, 0) _ rfl J84 Tryd.underlying40 rfl J8) rfl ?_
    exact ⟨J2, J20⟩
   obtain ⟨rfl, rfl, rfl⟩ := yp3 H
   have hnb21 := NB105_106.out
   have hnc21 := NB106_105.out
   obtain ⟨hcz22_0, hcz22_1, hfz22_0, hfz22_1⟩ := cz2 BK105.out
   obtain ⟨hcz23_0, hcz23_1, hfz23_0, hfz23_1⟩ := cz2 BK106.out
   go_wp2
   refine bodyPost_ret (Xa1 rfl _ _ gb106 40 #[.int .i64 0, .int .i64 0] (0, 0) _ rfl J18 Tryd.underlying40 rfl J8) rfl ?_
   exact ⟨J2, J20⟩
def X4.f (k : Nat) (a0_0 : Int) (a0_1 : Int) : Option (Bool) := (Xap.f k a0_0 a0_1).bind fun bt108 => (if bt108.2.2 = true then (some (bt108.1 == a0_0 && (bt108.2.1 == a0_1))) else (some false))
theorem X4.mono : ∀ a0 a1 k, LeO (X4.f k a0 a1) (X4.f (k + 1) a0 a1) := by
 intro a0 a1 k
 unfold X4.f
 have im0 := @Xap.mono
 exact mz3
set_option maxHeartbeats 8000000 in
set_option maxRecDepth 100000 in
theorem X4.calls (k : Nat) (a0_0 : Int) (a0_1 : Int) (r : Bool) (w : World) (h : X4.f k a0_0 a0_1 = some r) :
  Calls Tryd.prog 71 #[.agg #[.int .i64 a0_0, .int .i64 a0_1]] w fun e w' => e = .returned (.bool r) ∧ Below w.heap.size w w' := by
 have hu40 := Tryd.underlying40
 have HB := zq (Below.refl w.heap.size w)
 unfold X4.f at h
 have H := h
 clear h
 refine yv H ?_; clear H; rintro ⟨t108, t109, t110⟩ A2 H
 dsimp only at H
 refine yC H ?_ ?_ <;> clear H <;> rintro rfl H
 ·obtain rfl := yo H
  go_enter Tryd.func71, Tryd.ntmps71
  go_wp2_with (first | ((with_reducible refine Xk (N := 1) rfl ?_); refine bxw 1 40 #[.int .i64 a0_0, .int .i64 a0_1] ?_; intro gb107 hg w4 hbox hb; have BK107 := zq (hbox); have GE107 := zq ((J12 : w.heap.size ≤ gb107)); replace HB := zq (Xd J0 hb); clear hb hbox hg; obtain ⟨hcz5_0, hcz5_1, hfz5_0, hfz5_1⟩ := cz2 BK107.out) | ((with_reducible refine Xg (f := 82) rfl ?_); refine Xt (some 7) rfl rfl Tryd.func82 J8 rfl #[.agg #[.int .i64 a0_0, .int .i64 a0_1]] rfl J1 ?_; (with_reducible refine (Xap.calls k a0_0 a0_1 t108 t109 true _ A2.out).mono ?_); rintro e w6 ⟨rfl, hb⟩; refine ⟨_, rfl, ?_⟩; replace BK107 := zq (Xh (g := gb107) (o := .cells #[.int .i64 a0_0, .int .i64 a0_1] 40 (0, 0)) (zk BK107.out) hb); replace HB := zq (Xd (zs1 GE107.out) hb); (try clear hb)) | ((with_reducible refine Xk (N := 3) rfl ?_); refine bxw 3 40 #[.int .i64 0, .int .i64 0] ?_; intro gb111 hg w7 hbox hb; have BK111 := zq (hbox); have GE111 := zq ((by rw [hg]; exact (Xf (zs1 GE107.out)) : w.heap.size ≤ gb111)); replace HB := zq (Xd (zs1 GE107.out) hb); have NB107_111 := zq ((J144 : gb107 ≠ gb111)); have NB111_107 := zq ((J145 : gb111 ≠ gb107)); replace BK107 := zq (Xh (g := gb107) (o := .cells #[.int .i64 a0_0, .int .i64 a0_1] 40 (0, 0)) (zk BK107.out) hb); clear hb hbox hg; have hnb8 := NB111_107.out; have hnc8 := NB107_111.out; obtain ⟨hcz9_0, hcz9_1, hfz9_0, hfz9_1⟩ := cz2 BK111.out; obtain ⟨hcz10_0, hcz10_1, hfz10_0, hfz10_1⟩ := cz2 BK107.out))
  go_ret
  exact ⟨J2, J120⟩
 obtain rfl := yo H
 go_enter Tryd.func71, Tryd.ntmps71
 go_wp2_with (first | ((with_reducible refine Xk (N := 1) rfl ?_); refine bxw 1 40 #[.int .i64 a0_0, .int .i64 a0_1] ?_; intro gb107 hg w11 hbox hb; have BK107 := zq (hbox); have GE107 := zq ((J12 : w.heap.size ≤ gb107)); replace HB := zq (Xd J0 hb); clear hb hbox hg; obtain ⟨hcz12_0, hcz12_1, hfz12_0, hfz12_1⟩ := cz2 BK107.out) | ((with_reducible refine Xg (f := 82) rfl ?_); refine Xt (some 7) rfl rfl Tryd.func82 J8 rfl #[.agg #[.int .i64 a0_0, .int .i64 a0_1]] rfl J1 ?_; (with_reducible refine (Xap.calls k a0_0 a0_1 t108 t109 false _ A2.out).mono ?_); rintro e w13 ⟨rfl, hb⟩; refine ⟨_, rfl, ?_⟩; replace BK107 := zq (Xh (g := gb107) (o := .cells #[.int .i64 a0_0, .int .i64 a0_1] 40 (0, 0)) (zk BK107.out) hb); replace HB := zq (Xd (zs1 GE107.out) hb); (try clear hb)) | ((with_reducible refine Xk (N := 3) rfl ?_); refine bxw 3 40 #[.int .i64 0, .int .i64 0] ?_; intro gb111 hg w14 hbox hb; have BK111 := zq (hbox); have GE111 := zq ((by rw [hg]; exact (Xf (zs1 GE107.out)) : w.heap.size ≤ gb111)); replace HB := zq (Xd (zs1 GE107.out) hb); have NB107_111 := zq ((J144 : gb107 ≠ gb111)); have NB111_107 := zq ((J145 : gb111 ≠ gb107)); clear hb hbox hg; have hnb15 := NB111_107.out; have hnc15 := NB107_111.out; obtain ⟨hcz16_0, hcz16_1, hfz16_0, hfz16_1⟩ := cz2 BK111.out))
 go_ret
 exact ⟨J2, J120⟩
end Go.Proofs.YtfjhiiaahbjaiaaDoor.HSystemFirst
