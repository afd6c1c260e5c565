/- Words and walks, shortened by a program: what this claim's functions answer, and that other memory stays. -/
import Derived.Test.YtecdklheppcihaaSTightTellsx0
import Derived.Test.YtecdklheppcihaaSTightTellsx2
import Derived.Test.YtecdklheppcihaaSTightTellsx11
import Derived.Test.YtecdklheppcihaaSTightTellsx12
namespace Go.Proofs.Ytecdklheppcihaa.HTightTells
open Go.RowKit Go.Proofs.YtecdklheppcihaaW.PrintWords Go.Proofs.YtecdklheppcihaaW.PrintWords.Kd Go.Proofs.YtecdklheppcihaaW.PrintLast Go.Proofs.YtecdklheppcihaaW.PrintMore Go.Proofs.YtecdklheppcihaaW.PrintMore.Kd
attribute [local go_sem] Xbp Xbn Xbu Xbt Xbg Xbf Xbo Xbm
set_option linter.unusedVariables false
set_option linter.unusedSimpArgs false
def Xbi.f (k : Nat) (a0_0 : Int) (l0_1 : List Int) (l0_2 : List Int) (l0_3 : List (S38)) (a1_0 : Int) (l1_1 : List Int) (l1_2 : List Int) (l1_3 : List (S38)) : Option (Bool) := if a0_0 = a1_0 then ((Xr.f k l0_1 l1_1).bind fun t360 => (if t360 = true then ((Xr.f k l0_2 l1_2).bind fun t361 => (if t361 = true then ((Xa2.f k l0_3 l1_3).bind fun t362 => (some t362)) else (some false))) else (some false))) else (some false)
theorem Xbi.mono : ∀ a0 a1 a2 a3 a4 a5 a6 a7 k, LeO (Xbi.f k a0 a1 a2 a3 a4 a5 a6 a7) (Xbi.f (k + 1) a0 a1 a2 a3 a4 a5 a6 a7) := by
 intro a0 a1 a2 a3 a4 a5 a6 a7 k
 unfold Xbi.f
 have im0 := @Xa2.mono
 have im1 := @Xr.mono
 exact mz3
set_option maxHeartbeats 8000000 in
set_option maxRecDepth 100000 in
theorem Xbi.calls (k : Nat) (a0_0 : Int) (A0_1 : Option Addr) (c0_1 : Nat) (l0_1 : List Int) (A0_2 : Option Addr) (c0_2 : Nat) (l0_2 : List Int) (A0_3 : Option Addr) (c0_3 : Nat) (l0_3 : List (S38)) (a1_0 : Int) (A1_1 : Option Addr) (c1_1 : Nat) (l1_1 : List Int) (A1_2 : Option Addr) (c1_2 : Nat) (l1_2 : List Int) (A1_3 : Option Addr) (c1_3 : Nat) (l1_3 : List (S38)) (r : Bool) (w : World) (hr0_1 : Kd.C (Kd.int .i64) w A0_1 l0_1.length l0_1) (hc0_1 : l0_1.length ≤ c0_1) (hr0_2 : Kd.C (Kd.int .i64) w A0_2 l0_2.length l0_2) (hc0_2 : l0_2.length ≤ c0_2) (hr0_3 : Kd.C k38 w A0_3 l0_3.length l0_3) (hc0_3 : l0_3.length ≤ c0_3) (hr1_1 : Kd.C (Kd.int .i64) w A1_1 l1_1.length l1_1) (hc1_1 : l1_1.length ≤ c1_1) (hr1_2 : Kd.C (Kd.int .i64) w A1_2 l1_2.length l1_2) (hc1_2 : l1_2.length ≤ c1_2) (hr1_3 : Kd.C k38 w A1_3 l1_3.length l1_3) (hc1_3 : l1_3.length ≤ c1_3) (h : Xbi.f k a0_0 l0_1 l0_2 l0_3 a1_0 l1_1 l1_2 l1_3 = some r) :
  Calls Try.prog 62 #[.agg #[.int .i64 a0_0, .slice A0_1 l0_1.length c0_1, .slice A0_2 l0_2.length c0_2, .slice A0_3 l0_3.length c0_3], .agg #[.int .i64 a1_0, .slice A1_1 l1_1.length c1_1, .slice A1_2 l1_2.length c1_2, .slice A1_3 l1_3.length c1_3]] w fun e w' => e = .returned (.bool r) ∧ Below w.heap.size w w' := by
 have hu30 := Try.underlying30
 have HR0_1 := zq hr0_1
 have HC0_1 := zq hc0_1
 clear hr0_1 hc0_1
 have HR0_2 := zq hr0_2
 have HC0_2 := zq hc0_2
 clear hr0_2 hc0_2
 have HR0_3 := zq hr0_3
 have HC0_3 := zq hc0_3
 clear hr0_3 hc0_3
 have HR1_1 := zq hr1_1
 have HC1_1 := zq hc1_1
 clear hr1_1 hc1_1
 have HR1_2 := zq hr1_2
 have HC1_2 := zq hc1_2
 clear hr1_2 hc1_2
 have HR1_3 := zq hr1_3
 have HC1_3 := zq hc1_3
 clear hr1_3 hc1_3
 have HB := zq (Below.refl w.heap.size w)
 unfold Xbi.f at h
 have H := h
 clear h
 refine yE H ?_ ?_ <;> clear H <;> rintro ⟨c3b0, c3b1, c3⟩ H
 ·obtain rfl := yo H
  go_enter Try.func62, Try.ntmps62
  go_wp2_with (first | ((with_reducible refine Xj (N := 2) rfl ?_); refine bxw 2 30 #[.int .i64 a0_0, .slice A0_1 l0_1.length c0_1, .slice A0_2 l0_2.length c0_2, .slice A0_3 l0_3.length c0_3] ?_; intro gb358 hg w24 hbox hb; have BK358 := zq (hbox); have GE358 := zq ((J22 : w.heap.size ≤ gb358)); replace HB := zq (Xe J0 hb); clear hb hbox hg) | ((with_reducible refine Xj (N := 3) rfl ?_); refine bxw 3 30 #[.int .i64 a1_0, .slice A1_1 l1_1.length c1_1, .slice A1_2 l1_2.length c1_2, .slice A1_3 l1_3.length c1_3] ?_; intro gb359 hg w25 hbox hb; have BK359 := zq (hbox); have GE359 := zq ((J150 : w.heap.size ≤ gb359)); replace HB := zq (Xe (zs1 GE358.out) hb); have NB358_359 := zq ((J58 : gb358 ≠ gb359)); have NB359_358 := zq ((J59 : gb359 ≠ gb358)); replace BK358 := zq (Xg (zk BK358.out) hb); clear hb hbox hg; have hnb26 := NB358_359.out; have hnc26 := NB359_358.out; have Z27 := cz4 BK358.out; have Z28 := cz4 BK359.out))
  go_ret
  exact ⟨J1, J60⟩
 clear c3
 refine yv H ?_; clear H; rintro t360 A4 H
 refine yB H ?_ ?_ <;> clear H <;> rintro rfl H
 ·obtain rfl := yo H
  go_enter Try.func62, Try.ntmps62
  go_wp2_with (first | ((with_reducible refine Xj (N := 2) rfl ?_); refine bxw 2 30 #[.int .i64 a0_0, .slice A0_1 l0_1.length c0_1, .slice A0_2 l0_2.length c0_2, .slice A0_3 l0_3.length c0_3] ?_; intro gb358 hg w19 hbox hb; have BK358 := zq (hbox); have GE358 := zq ((J22 : w.heap.size ≤ gb358)); replace HB := zq (Xe J0 hb); clear hb hbox hg) | ((with_reducible refine Xj (N := 3) rfl ?_); refine bxw 3 30 #[.int .i64 a1_0, .slice A1_1 l1_1.length c1_1, .slice A1_2 l1_2.length c1_2, .slice A1_3 l1_3.length c1_3] ?_; intro gb359 hg w20 hbox hb; have BK359 := zq (hbox); have GE359 := zq ((J150 : w.heap.size ≤ gb359)); replace HB := zq (Xe (zs1 GE358.out) hb); have NB358_359 := zq ((J58 : gb358 ≠ gb359)); have NB359_358 := zq ((J59 : gb359 ≠ gb358)); replace BK358 := zq (Xg (zk BK358.out) hb); clear hb hbox hg; have hnb21 := NB358_359.out; have hnc21 := NB359_358.out; have Z22 := cz4 BK358.out; have Z23 := cz4 BK359.out) | (go_at_call 63; (with_reducible refine (Xr.calls k _ _ l0_1 _ _ l1_1 false _ ?side1 ?side2 ?side3 ?side4 A4.out).mono ?_); (case side1 => exact zc (ac HR0_1.out HB.out)); (case side2 => exact HC0_1.out); (case side3 => exact zc (ac HR1_1.out HB.out)); (case side4 => exact HC1_1.out); rintro e w' ⟨rfl, ⟨nd, rfl⟩⟩))
  go_ret
  exact ⟨J1, J60⟩
 refine yv H ?_; clear H; rintro t361 A6 H
 refine yB H ?_ ?_ <;> clear H <;> rintro rfl H
 ·obtain rfl := yo H
  go_enter Try.func62, Try.ntmps62
  go_wp2_with (first | ((with_reducible refine Xj (N := 2) rfl ?_); refine bxw 2 30 #[.int .i64 a0_0, .slice A0_1 l0_1.length c0_1, .slice A0_2 l0_2.length c0_2, .slice A0_3 l0_3.length c0_3] ?_; intro gb358 hg w14 hbox hb; have BK358 := zq (hbox); have GE358 := zq ((J22 : w.heap.size ≤ gb358)); replace HB := zq (Xe J0 hb); clear hb hbox hg) | ((with_reducible refine Xj (N := 3) rfl ?_); refine bxw 3 30 #[.int .i64 a1_0, .slice A1_1 l1_1.length c1_1, .slice A1_2 l1_2.length c1_2, .slice A1_3 l1_3.length c1_3] ?_; intro gb359 hg w15 hbox hb; have BK359 := zq (hbox); have GE359 := zq ((J150 : w.heap.size ≤ gb359)); replace HB := zq (Xe (zs1 GE358.out) hb); have NB358_359 := zq ((J58 : gb358 ≠ gb359)); have NB359_358 := zq ((J59 : gb359 ≠ gb358)); replace BK358 := zq (Xg (zk BK358.out) hb); clear hb hbox hg; have hnb16 := NB358_359.out; have hnc16 := NB359_358.out; have Z17 := cz4 BK358.out; have Z18 := cz4 BK359.out) | (go_at_call 63; (with_reducible refine (Xr.calls k _ _ l0_1 _ _ l1_1 true _ ?side1 ?side2 ?side3 ?side4 A4.out).mono ?_); (case side1 => exact zc (ac HR0_1.out HB.out)); (case side2 => exact HC0_1.out); (case side3 => exact zc (ac HR1_1.out HB.out)); (case side4 => exact HC1_1.out); rintro e w' ⟨rfl, ⟨nd, rfl⟩⟩) | (go_at_call 63; (with_reducible refine (Xr.calls k _ _ l0_2 _ _ l1_2 false _ ?side1 ?side2 ?side3 ?side4 A6.out).mono ?_); (case side1 => repeat (first | exact (ac HR0_2.out (zs2 GE358.out GE359.out)) | (with_reducible refine Kd.C_alloc ?_ _) | (with_reducible refine au ?_ _) | (with_reducible refine Kd.C_drew ?_))); (case side2 => exact HC0_2.out); (case side3 => repeat (first | exact (ac HR1_2.out (zs2 GE358.out GE359.out)) | (with_reducible refine Kd.C_alloc ?_ _) | (with_reducible refine au ?_ _) | (with_reducible refine Kd.C_drew ?_))); (case side4 => exact HC1_2.out); rintro e w' ⟨rfl, ⟨nd, rfl⟩⟩))
  go_ret
  exact ⟨J1, J60⟩
 refine yv H ?_; clear H; rintro t362 A8 H
 obtain rfl := yo H
 go_enter Try.func62, Try.ntmps62
 go_wp2_with (first | ((with_reducible refine Xj (N := 2) rfl ?_); refine bxw 2 30 #[.int .i64 a0_0, .slice A0_1 l0_1.length c0_1, .slice A0_2 l0_2.length c0_2, .slice A0_3 l0_3.length c0_3] ?_; intro gb358 hg w9 hbox hb; have BK358 := zq (hbox); have GE358 := zq ((J22 : w.heap.size ≤ gb358)); replace HB := zq (Xe J0 hb); clear hb hbox hg) | ((with_reducible refine Xj (N := 3) rfl ?_); refine bxw 3 30 #[.int .i64 a1_0, .slice A1_1 l1_1.length c1_1, .slice A1_2 l1_2.length c1_2, .slice A1_3 l1_3.length c1_3] ?_; intro gb359 hg w10 hbox hb; have BK359 := zq (hbox); have GE359 := zq ((J150 : w.heap.size ≤ gb359)); replace HB := zq (Xe (zs1 GE358.out) hb); have NB358_359 := zq ((J58 : gb358 ≠ gb359)); have NB359_358 := zq ((J59 : gb359 ≠ gb358)); replace BK358 := zq (Xg (zk BK358.out) hb); clear hb hbox hg; have hnb11 := NB358_359.out; have hnc11 := NB359_358.out; have Z12 := cz4 BK358.out; have Z13 := cz4 BK359.out) | (go_at_call 63; (with_reducible refine (Xr.calls k _ _ l0_1 _ _ l1_1 true _ ?side1 ?side2 ?side3 ?side4 A4.out).mono ?_); (case side1 => exact zc (ac HR0_1.out HB.out)); (case side2 => exact HC0_1.out); (case side3 => exact zc (ac HR1_1.out HB.out)); (case side4 => exact HC1_1.out); rintro e w' ⟨rfl, ⟨nd, rfl⟩⟩) | (go_at_call 63; (with_reducible refine (Xr.calls k _ _ l0_2 _ _ l1_2 true _ ?side1 ?side2 ?side3 ?side4 A6.out).mono ?_); (case side1 => repeat (first | exact (ac HR0_2.out (zs2 GE358.out GE359.out)) | (with_reducible refine Kd.C_alloc ?_ _) | (with_reducible refine au ?_ _) | (with_reducible refine Kd.C_drew ?_))); (case side2 => exact HC0_2.out); (case side3 => repeat (first | exact (ac HR1_2.out (zs2 GE358.out GE359.out)) | (with_reducible refine Kd.C_alloc ?_ _) | (with_reducible refine au ?_ _) | (with_reducible refine Kd.C_drew ?_))); (case side4 => exact HC1_2.out); rintro e w' ⟨rfl, ⟨nd, rfl⟩⟩) | (go_at_call 64; (with_reducible refine (Xa2.calls k _ _ l0_3 _ _ l1_3 t362 _ ?side1 ?side2 ?side3 ?side4 A8.out).mono ?_); (case side1 => repeat (first | exact (ac HR0_3.out (zs2 GE358.out GE359.out)) | (with_reducible refine Kd.C_alloc ?_ _) | (with_reducible refine au ?_ _) | (with_reducible refine Kd.C_drew ?_))); (case side2 => exact HC0_3.out); (case side3 => repeat (first | exact (ac HR1_3.out (zs2 GE358.out GE359.out)) | (with_reducible refine Kd.C_alloc ?_ _) | (with_reducible refine au ?_ _) | (with_reducible refine Kd.C_drew ?_))); (case side4 => exact HC1_3.out); rintro e w' ⟨rfl, ⟨nd, rfl⟩⟩))
 go_ret
 exact ⟨J1, J60⟩
def Xaz.l0 : Nat → List (S30) → List (S30) → Int → Int → Option (Bool)
 | 0, _, _, _, _ => none
 | k + 1, x1, x15, x16, x17 => if x17 < x16 then (if 0 ≤ x17 then (if x17 < (x15.length : Int) then (if x17 < (x1.length : Int) then ((Xbi.f k ((Xa x15 x17).f0) ((Xa x15 x17).f1) ((Xa x15 x17).f2) ((Xa x15 x17).f3) ((Xa x1 x17).f0) ((Xa x1 x17).f1) ((Xa x1 x17).f2) ((Xa x1 x17).f3)).bind fun t367 => (if t367 = true then (Xaz.l0 k x1 x15 x16 (wrap64 (x17 + 1))) else (some false))) else (none)) else (none)) else (none)) else (some true)
def Xaz.f (k : Nat) (l0 : List (S30)) (l1 : List (S30)) : Option (Bool) := if (l0.length : Int) = (l1.length : Int) then (Xaz.l0 k l1 l0 (l0.length : Int) 0) else (some false)
theorem Xaz.mono_l : ∀ k, (∀ y0 y1 y2 y3, LeO (Xaz.l0 k y0 y1 y2 y3) (Xaz.l0 (k + 1) y0 y1 y2 y3))
 | 0 => fun _ _ _ _ r h => by simp [Xaz.l0] at h
 | k + 1 => by
  have ih0 := Xaz.mono_l k
  ·intro y0 y1 y2 y3
   unfold Xaz.l0
   have im0 := @Xbi.mono
   exact mz3
theorem Xaz.mono : ∀ a0 a1 k, LeO (Xaz.f k a0 a1) (Xaz.f (k + 1) a0 a1) := by
 intro a0 a1 k
 have ih0 := Xaz.mono_l k
 unfold Xaz.f
 have im0 := @Xbi.mono
 exact mz3
set_option maxHeartbeats 8000000 in
set_option maxRecDepth 100000 in
theorem Xaz.calls (k : Nat) (A0 : Option Addr) (c0 : Nat) (l0 : List (S30)) (A1 : Option Addr) (c1 : Nat) (l1 : List (S30)) (r : Bool) (w : World) (hr0 : Kd.C k30 w A0 l0.length l0) (hc0 : l0.length ≤ c0) (hr1 : Kd.C k30 w A1 l1.length l1) (hc1 : l1.length ≤ c1) (h : Xaz.f k l0 l1 = some r) :
  Calls Try.prog 61 #[.slice A0 l0.length c0, .slice A1 l1.length c1, .func (.func 62) #[] #[]] w fun e w' => e = .returned (.bool r) ∧ Below w.heap.size w w' := by
 have hu30 := Try.underlying30
 have HR0 := zq hr0
 have HC0 := zq hc0
 clear hr0 hc0
 have HR1 := zq hr1
 have HC1 := zq hc1
 clear hr1 hc1
 have HB := zq (Below.refl w.heap.size w)
 unfold Xaz.f at h
 have H := h
 clear h
 refine yE H ?_ ?_ <;> clear H <;> rintro ⟨c3b0, c3b1, c3⟩ H
 ·have c3b2 : (l0.length == l1.length) = false := by first | simpa using c3 | (simp at c3 ⊢; omega)
  obtain rfl := yo H
  go_enter Try.func61, Try.ntmps61
  go_wp2
  go_ret
  exact ⟨J1, J0⟩
 have c3b2 : (l0.length == l1.length) = true := J112
 clear c3
 have H' := zq H
 clear H
 go_enter Try.func61, Try.ntmps61
 go_wp2
 go_loopg [17] k (fun kq v17 w' => ∃ (x17_1 : Int), v17 = .int .i64 x17_1 ∧ Aside0 (Xaz.l0 kq l1 l0 (l0.length : Int) x17_1 = some r) ∧ Aside0 (kq ≤ k) ∧ Aside0 (Below w.heap.size w w'))
 case atStart => exact ⟨(0), J4, H', ⟨Nat.le_refl _⟩, ⟨J0⟩⟩
 case round =>
  clear H'
  try clear c1
  try clear c3
  try clear c3b0
  try clear c3b1
  try clear c3b2
  obtain ⟨x17_1, rfl, HA, HK1, HB⟩ := hrel
  cases gk with
  | zero => exact absurd HA.out (by simp [Xaz.l0])
  | succ k1 =>
   have H := HA.out
   clear HA
   simp only [Xaz.l0] at H
   refine yd H ?_ ?_ <;> clear H <;> rintro c4b0 H
   ·obtain rfl := yo H
    go_wp2
    go_ret
    exact ⟨J1, J0⟩
   refine yj H ?_; clear H; intro c5b0 H
   refine yj H ?_; clear H; intro c6b0 H
   refine yj H ?_; clear H; intro c7b0 H
   refine yv H ?_; clear H; rintro t367 A8 H
   refine yB H ?_ ?_ <;> clear H <;> rintro rfl H
   ·obtain rfl := yo H
    obtain ⟨ad363, A363_1, c363_1, A363_2, c363_2, A363_3, c363_3, e363, hx363_0, hx363_1, hx363_2, hx363_3, HR363_1, HC363_1, HR363_2, HC363_2, HR363_3, HC363_3, p363, q363⟩ := rdC HR0.out HB.out x17_1
    cases e363
    go_wp2_with (first | ((with_reducible refine Xj (N := 8) rfl ?_); refine bxw 8 30 #[.int .i64 0, .slice none 0 0, .slice none 0 0, .slice none 0 0] ?_; intro gb364 hg w17 hbox hb; have BK364 := zq (hbox); have GW364 := zq ((J22 : w.heap.size ≤ gb364)); have GE364 := zq ((J22 : w.heap.size ≤ gb364)); replace HB := zq (Xe J0 hb); clear hb hbox hg; have Z18 := cz4 BK364.out; have p365 : 0 ≤ (x17_1 : Int) := of_decide_eq_true J2; have q365 : x17_1 < (l1.length : Int) := of_decide_eq_true J2; obtain ⟨ad365, A365_1, c365_1, A365_2, c365_2, A365_3, c365_3, e365, hx365_0, hx365_1, hx365_2, hx365_3, hl365_1, hi365_1, hl365_2, hi365_2, hl365_3, hi365_3⟩ := Xb4 HR1.out x17_1 p365 q365; cases e365; have hn365_0 : ad365.block ≠ gb364 := Nat.ne_of_lt (Nat.lt_of_lt_of_le J54 GW364.out); have hn365_1 : ad365.block ≠ gb364 := Nat.ne_of_lt (Nat.lt_of_lt_of_le J54 GW364.out); have hn365_2 : ad365.block ≠ gb364 := Nat.ne_of_lt (Nat.lt_of_lt_of_le J54 GW364.out); have hn365_3 : ad365.block ≠ gb364 := Nat.ne_of_lt (Nat.lt_of_lt_of_le J54 GW364.out); replace hx365_0 := yh HB hx365_0; replace hx365_1 := yh HB hx365_1; replace hx365_2 := yh HB hx365_2; replace hx365_3 := yh HB hx365_3; have HR365_1 := zq hi365_1; have HC365_1 := zq hl365_1; clear hi365_1 hl365_1; have HR365_2 := zq hi365_2; have HC365_2 := zq hl365_2; clear hi365_2 hl365_2; have HR365_3 := zq hi365_3; have HC365_3 := zq hl365_3; clear hi365_3 hl365_3; replace hx365_0 := (Xai (p := ⟨gb364, 0, none⟩) (zb hn365_0) (.int .i64 ((Xa l0 x17_1).f0))).trans hx365_0; replace hx365_1 := (Xai (p := ⟨gb364, 0, none⟩) (zb hn365_0) (.int .i64 ((Xa l0 x17_1).f0))).trans hx365_1; replace hx365_2 := (Xai (p := ⟨gb364, 0, none⟩) (zb hn365_0) (.int .i64 ((Xa l0 x17_1).f0))).trans hx365_2; replace hx365_3 := (Xai (p := ⟨gb364, 0, none⟩) (zb hn365_0) (.int .i64 ((Xa l0 x17_1).f0))).trans hx365_3; replace hx365_0 := (Xai (p := ⟨gb364, 1, none⟩) (zb hn365_1) (.slice A363_1 ((Xa l0 x17_1).f1).length c363_1)).trans hx365_0; replace hx365_1 := (Xai (p := ⟨gb364, 1, none⟩) (zb hn365_1) (.slice A363_1 ((Xa l0 x17_1).f1).length c363_1)).trans hx365_1; replace hx365_2 := (Xai (p := ⟨gb364, 1, none⟩) (zb hn365_1) (.slice A363_1 ((Xa l0 x17_1).f1).length c363_1)).trans hx365_2; replace hx365_3 := (Xai (p := ⟨gb364, 1, none⟩) (zb hn365_1) (.slice A363_1 ((Xa l0 x17_1).f1).length c363_1)).trans hx365_3; replace hx365_0 := (Xai (p := ⟨gb364, 2, none⟩) (zb hn365_2) (.slice A363_2 ((Xa l0 x17_1).f2).length c363_2)).trans hx365_0; replace hx365_1 := (Xai (p := ⟨gb364, 2, none⟩) (zb hn365_2) (.slice A363_2 ((Xa l0 x17_1).f2).length c363_2)).trans hx365_1; replace hx365_2 := (Xai (p := ⟨gb364, 2, none⟩) (zb hn365_2) (.slice A363_2 ((Xa l0 x17_1).f2).length c363_2)).trans hx365_2; replace hx365_3 := (Xai (p := ⟨gb364, 2, none⟩) (zb hn365_2) (.slice A363_2 ((Xa l0 x17_1).f2).length c363_2)).trans hx365_3; replace hx365_0 := (Xai (p := ⟨gb364, 3, none⟩) (zb hn365_3) (.slice A363_3 ((Xa l0 x17_1).f3).length c363_3)).trans hx365_0; replace hx365_1 := (Xai (p := ⟨gb364, 3, none⟩) (zb hn365_3) (.slice A363_3 ((Xa l0 x17_1).f3).length c363_3)).trans hx365_1; replace hx365_2 := (Xai (p := ⟨gb364, 3, none⟩) (zb hn365_3) (.slice A363_3 ((Xa l0 x17_1).f3).length c363_3)).trans hx365_2; replace hx365_3 := (Xai (p := ⟨gb364, 3, none⟩) (zb hn365_3) (.slice A363_3 ((Xa l0 x17_1).f3).length c363_3)).trans hx365_3; clear hn365_0; clear hn365_1; clear hn365_2; clear hn365_3; replace p365 := eq_true p365; replace q365 := eq_true q365) | ((with_reducible refine Xj (N := 9) rfl ?_); refine bxw 9 30 #[.int .i64 0, .slice none 0 0, .slice none 0 0, .slice none 0 0] ?_; intro gb366 hg w19 hbox hb; have BK366 := zq (hbox); have GE366 := zq ((by rw [hg]; exact (Xc (zs1 GE364.out)) : w.heap.size ≤ gb366)); replace HB := zq (Xe (zs1 GE364.out) hb); have NB364_366 := zq ((J108 : gb364 ≠ gb366)); have NB366_364 := zq ((J109 : gb366 ≠ gb364)); replace BK364 := zq (Xg (g := gb364) (o := .cells #[.int .i64 ((Xa l0 x17_1).f0), .slice A363_1 ((Xa l0 x17_1).f1).length c363_1, .slice A363_2 ((Xa l0 x17_1).f2).length c363_2, .slice A363_3 ((Xa l0 x17_1).f3).length c363_3] 30 (0, 0)) J6 hb); clear hb hbox hg; have hnb20 := NB366_364.out; have hnc20 := NB364_366.out; have Z21 := cz4 BK366.out; have Z22 := cz4 BK364.out) | ((with_reducible refine Xj (N := 29) rfl ?_); refine Xcj (some 29) rfl rfl Try.func62 J17 rfl #[.agg #[.int .i64 ((Xa l0 x17_1).f0), .slice A363_1 ((Xa l0 x17_1).f1).length c363_1, .slice A363_2 ((Xa l0 x17_1).f2).length c363_2, .slice A363_3 ((Xa l0 x17_1).f3).length c363_3], .agg #[.int .i64 ((Xa l1 x17_1).f0), .slice A365_1 ((Xa l1 x17_1).f1).length c365_1, .slice A365_2 ((Xa l1 x17_1).f2).length c365_2, .slice A365_3 ((Xa l1 x17_1).f3).length c365_3]] (.tmp 26) rfl rfl J3 ?_; (with_reducible refine (Xbi.calls k1 ((Xa l0 x17_1).f0) _ _ ((Xa l0 x17_1).f1) _ _ ((Xa l0 x17_1).f2) _ _ ((Xa l0 x17_1).f3) ((Xa l1 x17_1).f0) _ _ ((Xa l1 x17_1).f1) _ _ ((Xa l1 x17_1).f2) _ _ ((Xa l1 x17_1).f3) false _ ?side1 ?side2 ?side3 ?side4 ?side5 ?side6 ?side7 ?side8 ?side9 ?side10 ?side11 ?side12 A8.out).mono ?_); (case side1 => exact ac HR363_1.out (zs2 GE364.out GE366.out)); (case side2 => exact HC363_1.out); (case side3 => exact ac HR363_2.out (zs2 GE364.out GE366.out)); (case side4 => exact HC363_2.out); (case side5 => exact ac HR363_3.out (zs2 GE364.out GE366.out)); (case side6 => exact HC363_3.out); (case side7 => exact ac HR365_1.out (zs2 GE364.out GE366.out)); (case side8 => exact HC365_1.out); (case side9 => exact ac HR365_2.out (zs2 GE364.out GE366.out)); (case side10 => exact HC365_2.out); (case side11 => exact ac HR365_3.out (zs2 GE364.out GE366.out)); (case side12 => exact HC365_3.out); rintro e w23 ⟨rfl, hb⟩; refine ⟨_, rfl, ?_⟩; replace HB := zq (Xe (zs2 GE364.out GE366.out) hb); (try clear hb)))
    go_ret
    exact ⟨J1, J128⟩
   have H' := zq H
   clear H
   obtain ⟨ad363, A363_1, c363_1, A363_2, c363_2, A363_3, c363_3, e363, hx363_0, hx363_1, hx363_2, hx363_3, HR363_1, HC363_1, HR363_2, HC363_2, HR363_3, HC363_3, p363, q363⟩ := rdC HR0.out HB.out x17_1
   cases e363
   go_wp2_with (first | ((with_reducible refine Xj (N := 8) rfl ?_); refine bxw 8 30 #[.int .i64 0, .slice none 0 0, .slice none 0 0, .slice none 0 0] ?_; intro gb364 hg w10 hbox hb; have BK364 := zq (hbox); have GW364 := zq ((J22 : w.heap.size ≤ gb364)); have GE364 := zq ((J22 : w.heap.size ≤ gb364)); replace HB := zq (Xe J0 hb); clear hb hbox hg; have Z11 := cz4 BK364.out; have p365 : 0 ≤ (x17_1 : Int) := of_decide_eq_true J2; have q365 : x17_1 < (l1.length : Int) := of_decide_eq_true J2; obtain ⟨ad365, A365_1, c365_1, A365_2, c365_2, A365_3, c365_3, e365, hx365_0, hx365_1, hx365_2, hx365_3, hl365_1, hi365_1, hl365_2, hi365_2, hl365_3, hi365_3⟩ := Xb4 HR1.out x17_1 p365 q365; cases e365; have hn365_0 : ad365.block ≠ gb364 := Nat.ne_of_lt (Nat.lt_of_lt_of_le J54 GW364.out); have hn365_1 : ad365.block ≠ gb364 := Nat.ne_of_lt (Nat.lt_of_lt_of_le J54 GW364.out); have hn365_2 : ad365.block ≠ gb364 := Nat.ne_of_lt (Nat.lt_of_lt_of_le J54 GW364.out); have hn365_3 : ad365.block ≠ gb364 := Nat.ne_of_lt (Nat.lt_of_lt_of_le J54 GW364.out); replace hx365_0 := yh HB hx365_0; replace hx365_1 := yh HB hx365_1; replace hx365_2 := yh HB hx365_2; replace hx365_3 := yh HB hx365_3; have HR365_1 := zq hi365_1; have HC365_1 := zq hl365_1; clear hi365_1 hl365_1; have HR365_2 := zq hi365_2; have HC365_2 := zq hl365_2; clear hi365_2 hl365_2; have HR365_3 := zq hi365_3; have HC365_3 := zq hl365_3; clear hi365_3 hl365_3; replace hx365_0 := (Xai (p := ⟨gb364, 0, none⟩) (zb hn365_0) (.int .i64 ((Xa l0 x17_1).f0))).trans hx365_0; replace hx365_1 := (Xai (p := ⟨gb364, 0, none⟩) (zb hn365_0) (.int .i64 ((Xa l0 x17_1).f0))).trans hx365_1; replace hx365_2 := (Xai (p := ⟨gb364, 0, none⟩) (zb hn365_0) (.int .i64 ((Xa l0 x17_1).f0))).trans hx365_2; replace hx365_3 := (Xai (p := ⟨gb364, 0, none⟩) (zb hn365_0) (.int .i64 ((Xa l0 x17_1).f0))).trans hx365_3; replace hx365_0 := (Xai (p := ⟨gb364, 1, none⟩) (zb hn365_1) (.slice A363_1 ((Xa l0 x17_1).f1).length c363_1)).trans hx365_0; replace hx365_1 := (Xai (p := ⟨gb364, 1, none⟩) (zb hn365_1) (.slice A363_1 ((Xa l0 x17_1).f1).length c363_1)).trans hx365_1; replace hx365_2 := (Xai (p := ⟨gb364, 1, none⟩) (zb hn365_1) (.slice A363_1 ((Xa l0 x17_1).f1).length c363_1)).trans hx365_2; replace hx365_3 := (Xai (p := ⟨gb364, 1, none⟩) (zb hn365_1) (.slice A363_1 ((Xa l0 x17_1).f1).length c363_1)).trans hx365_3; replace hx365_0 := (Xai (p := ⟨gb364, 2, none⟩) (zb hn365_2) (.slice A363_2 ((Xa l0 x17_1).f2).length c363_2)).trans hx365_0; replace hx365_1 := (Xai (p := ⟨gb364, 2, none⟩) (zb hn365_2) (.slice A363_2 ((Xa l0 x17_1).f2).length c363_2)).trans hx365_1; replace hx365_2 := (Xai (p := ⟨gb364, 2, none⟩) (zb hn365_2) (.slice A363_2 ((Xa l0 x17_1).f2).length c363_2)).trans hx365_2; replace hx365_3 := (Xai (p := ⟨gb364, 2, none⟩) (zb hn365_2) (.slice A363_2 ((Xa l0 x17_1).f2).length c363_2)).trans hx365_3; replace hx365_0 := (Xai (p := ⟨gb364, 3, none⟩) (zb hn365_3) (.slice A363_3 ((Xa l0 x17_1).f3).length c363_3)).trans hx365_0; replace hx365_1 := (Xai (p := ⟨gb364, 3, none⟩) (zb hn365_3) (.slice A363_3 ((Xa l0 x17_1).f3).length c363_3)).trans hx365_1; replace hx365_2 := (Xai (p := ⟨gb364, 3, none⟩) (zb hn365_3) (.slice A363_3 ((Xa l0 x17_1).f3).length c363_3)).trans hx365_2; replace hx365_3 := (Xai (p := ⟨gb364, 3, none⟩) (zb hn365_3) (.slice A363_3 ((Xa l0 x17_1).f3).length c363_3)).trans hx365_3; clear hn365_0; clear hn365_1; clear hn365_2; clear hn365_3; replace p365 := eq_true p365; replace q365 := eq_true q365) | ((with_reducible refine Xj (N := 9) rfl ?_); refine bxw 9 30 #[.int .i64 0, .slice none 0 0, .slice none 0 0, .slice none 0 0] ?_; intro gb366 hg w12 hbox hb; have BK366 := zq (hbox); have GE366 := zq ((by rw [hg]; exact (Xc (zs1 GE364.out)) : w.heap.size ≤ gb366)); replace HB := zq (Xe (zs1 GE364.out) hb); have NB364_366 := zq ((J108 : gb364 ≠ gb366)); have NB366_364 := zq ((J109 : gb366 ≠ gb364)); replace BK364 := zq (Xg (g := gb364) (o := .cells #[.int .i64 ((Xa l0 x17_1).f0), .slice A363_1 ((Xa l0 x17_1).f1).length c363_1, .slice A363_2 ((Xa l0 x17_1).f2).length c363_2, .slice A363_3 ((Xa l0 x17_1).f3).length c363_3] 30 (0, 0)) J6 hb); clear hb hbox hg; have hnb13 := NB366_364.out; have hnc13 := NB364_366.out; have Z14 := cz4 BK366.out; have Z15 := cz4 BK364.out) | ((with_reducible refine Xj (N := 29) rfl ?_); refine Xcj (some 29) rfl rfl Try.func62 J17 rfl #[.agg #[.int .i64 ((Xa l0 x17_1).f0), .slice A363_1 ((Xa l0 x17_1).f1).length c363_1, .slice A363_2 ((Xa l0 x17_1).f2).length c363_2, .slice A363_3 ((Xa l0 x17_1).f3).length c363_3], .agg #[.int .i64 ((Xa l1 x17_1).f0), .slice A365_1 ((Xa l1 x17_1).f1).length c365_1, .slice A365_2 ((Xa l1 x17_1).f2).length c365_2, .slice A365_3 ((Xa l1 x17_1).f3).length c365_3]] (.tmp 26) rfl rfl J3 ?_; (with_reducible refine (Xbi.calls k1 ((Xa l0 x17_1).f0) _ _ ((Xa l0 x17_1).f1) _ _ ((Xa l0 x17_1).f2) _ _ ((Xa l0 x17_1).f3) ((Xa l1 x17_1).f0) _ _ ((Xa l1 x17_1).f1) _ _ ((Xa l1 x17_1).f2) _ _ ((Xa l1 x17_1).f3) true _ ?side1 ?side2 ?side3 ?side4 ?side5 ?side6 ?side7 ?side8 ?side9 ?side10 ?side11 ?side12 A8.out).mono ?_); (case side1 => exact ac HR363_1.out (zs2 GE364.out GE366.out)); (case side2 => exact HC363_1.out); (case side3 => exact ac HR363_2.out (zs2 GE364.out GE366.out)); (case side4 => exact HC363_2.out); (case side5 => exact ac HR363_3.out (zs2 GE364.out GE366.out)); (case side6 => exact HC363_3.out); (case side7 => exact ac HR365_1.out (zs2 GE364.out GE366.out)); (case side8 => exact HC365_1.out); (case side9 => exact ac HR365_2.out (zs2 GE364.out GE366.out)); (case side10 => exact HC365_2.out); (case side11 => exact ac HR365_3.out (zs2 GE364.out GE366.out)); (case side12 => exact HC365_3.out); rintro e w16 ⟨rfl, hb⟩; refine ⟨_, rfl, ?_⟩; replace BK364 := zq (Xg (g := gb364) (o := .cells #[.int .i64 ((Xa l0 x17_1).f0), .slice A363_1 ((Xa l0 x17_1).f1).length c363_1, .slice A363_2 ((Xa l0 x17_1).f2).length c363_2, .slice A363_3 ((Xa l0 x17_1).f3).length c363_3] 30 (0, 0)) (by (with_reducible repeat (first | refine Xd ?_ _ | refine Xf ?_ | refine Xb ?_ _)); refine Xab ?_ NB364_366.out _; (with_reducible repeat (first | refine Xd ?_ _ | refine Xf ?_ | refine Xb ?_ _)); refine Xab ?_ NB364_366.out _; (with_reducible repeat (first | refine Xd ?_ _ | refine Xf ?_ | refine Xb ?_ _)); refine Xab ?_ NB364_366.out _; (with_reducible repeat (first | refine Xd ?_ _ | refine Xf ?_ | refine Xb ?_ _)); refine Xab ?_ NB364_366.out _; (with_reducible repeat (first | refine Xd ?_ _ | refine Xf ?_ | refine Xb ?_ _)); exact BK364.out) hb); replace BK366 := zq (Xg (g := gb366) (o := .cells #[.int .i64 ((Xa l1 x17_1).f0), .slice A365_1 ((Xa l1 x17_1).f1).length c365_1, .slice A365_2 ((Xa l1 x17_1).f2).length c365_2, .slice A365_3 ((Xa l1 x17_1).f3).length c365_3] 30 (0, 0)) (by (with_reducible repeat (first | refine Xd ?_ _ | refine Xf ?_ | refine Xb ?_ _)); refine Xk (cs := #[.int .i64 ((Xa l1 x17_1).f0), .slice A365_1 ((Xa l1 x17_1).f1).length c365_1, .slice A365_2 ((Xa l1 x17_1).f2).length c365_2, .slice none 0 0]) ?_ 3 _ rfl; (with_reducible repeat (first | refine Xd ?_ _ | refine Xf ?_ | refine Xb ?_ _)); refine Xk (cs := #[.int .i64 ((Xa l1 x17_1).f0), .slice A365_1 ((Xa l1 x17_1).f1).length c365_1, .slice none 0 0, .slice none 0 0]) ?_ 2 _ rfl; (with_reducible repeat (first | refine Xd ?_ _ | refine Xf ?_ | refine Xb ?_ _)); refine Xk (cs := #[.int .i64 ((Xa l1 x17_1).f0), .slice none 0 0, .slice none 0 0, .slice none 0 0]) ?_ 1 _ rfl; (with_reducible repeat (first | refine Xd ?_ _ | refine Xf ?_ | refine Xb ?_ _)); refine Xk (cs := #[.int .i64 0, .slice none 0 0, .slice none 0 0, .slice none 0 0]) ?_ 0 _ rfl; (with_reducible repeat (first | refine Xd ?_ _ | refine Xf ?_ | refine Xb ?_ _)); exact BK366.out) hb); replace HB := zq (Xe (zs2 GE364.out GE366.out) hb); (try clear hb)))
   go_roundg k1
   case measure => have := HK1.out; omega
   case rel => exact ⟨(wrap64 (x17_1 + 1)), J4, H', ⟨J84⟩, ⟨J128⟩⟩
def Xb0.f (k : Nat) (l0 : List (S30)) (l1 : List (S30)) : Option (Bool) := (Xaz.f k l0 l1).bind fun t368 => (some t368)
theorem Xb0.mono : ∀ a0 a1 k, LeO (Xb0.f k a0 a1) (Xb0.f (k + 1) a0 a1) := by
 intro a0 a1 k
 unfold Xb0.f
 have im0 := @Xaz.mono
 exact mz3
set_option maxHeartbeats 8000000 in
set_option maxRecDepth 100000 in
theorem Xb0.calls (k : Nat) (A0 : Option Addr) (c0 : Nat) (l0 : List (S30)) (A1 : Option Addr) (c1 : Nat) (l1 : List (S30)) (r : Bool) (w : World) (hr0 : Kd.C k30 w A0 l0.length l0) (hc0 : l0.length ≤ c0) (hr1 : Kd.C k30 w A1 l1.length l1) (hc1 : l1.length ≤ c1) (h : Xb0.f k l0 l1 = some r) :
  Calls Try.prog 42 #[.slice A0 l0.length c0, .slice A1 l1.length c1] w fun e w' => e = .returned (.bool r) ∧ Below w.heap.size w w' := by
 have HR0 := zq hr0
 have HC0 := zq hc0
 clear hr0 hc0
 have HR1 := zq hr1
 have HC1 := zq hc1
 clear hr1 hc1
 have HB := zq (Below.refl w.heap.size w)
 unfold Xb0.f at h
 have H := h
 clear h
 refine yv H ?_; clear H; rintro t368 A3 H
 obtain rfl := yo H
 go_enter Try.func42, Try.ntmps42
 go_wp2_with (first | ((with_reducible refine Xi (f := 61) rfl ?_); refine gL 7 Try.func61 #[.slice A0 l0.length c0, .slice A1 l1.length c1, .func (.func 62) #[] #[]] (Xaz.calls k _ _ l0 _ _ l1 t368 _ (zc HR0.out) HC0.out (zc HR1.out) HC1.out A3.out) ?_; rintro e w4 ⟨rfl, hb⟩; refine ⟨_, rfl, ?_⟩; replace HB := zq (Xe J0 hb); (try clear hb)))
 go_ret
 exact ⟨J1, J0⟩
def Xbc.f (k : Nat) (l0 : List (S30)) : Option (Bool) := (Xav.f k l0).bind fun bt369 => (if bt369.2 = true then ((Xb0.f k l0 bt369.1).bind fun t373 => (some t373)) else (some false))
theorem Xbc.mono : ∀ a0 k, LeO (Xbc.f k a0) (Xbc.f (k + 1) a0) := by
 intro a0 k
 unfold Xbc.f
 have im0 := @Xb0.mono
 have im1 := @Xav.mono
 exact mz3
set_option maxHeartbeats 8000000 in
set_option maxRecDepth 100000 in
theorem Xbc.calls (k : Nat) (A0 : Option Addr) (c0 : Nat) (l0 : List (S30)) (r : Bool) (w : World) (hr0 : Kd.C k30 w A0 l0.length l0) (hc0 : l0.length ≤ c0) (h : Xbc.f k l0 = some r) :
  Calls Try.prog 18 #[.slice A0 l0.length c0] w fun e w' => e = .returned (.bool r) ∧ Below w.heap.size w w' := by
 have HR0 := zq hr0
 have HC0 := zq hc0
 clear hr0 hc0
 have HB := zq (Below.refl w.heap.size w)
 unfold Xbc.f at h
 have H := h
 clear h
 refine yv H ?_; clear H; rintro ⟨t369, t372⟩ A2 H
 dsimp only at H
 refine yB H ?_ ?_ <;> clear H <;> rintro rfl H
 ·obtain rfl := yo H
  go_enter Try.func18, Try.ntmps18
  go_wp2_with (first | ((first | ((with_reducible refine Xi (f := 11) rfl ?_); refine Xbz (some 7) rfl rfl Try.func11 J17 rfl #[.slice A0 l0.length c0] rfl J3 ?_) | go_at_call 11); (with_reducible refine (Xav.calls k (fun k_ => k_ < w.heap.size) _ _ l0 t369 false _ ?side1 A2.out).mono ?_); (case side1 => exact be HC0.out (bu (Kd.C_F Xdu HR0.out) J0)); rintro e w8 ⟨v370, rfl, ho0, hb⟩; (try refine ⟨_, rfl, ?_⟩); replace HB := zq (Xe J0 hb); (try clear hb); (try clear ho0)))
  go_ret
  exact ⟨J1, J0⟩
 refine yv H ?_; clear H; rintro t373 A4 H
 obtain rfl := yo H
 go_enter Try.func18, Try.ntmps18
 go_wp2_with (first | ((first | ((with_reducible refine Xi (f := 11) rfl ?_); refine Xbz (some 7) rfl rfl Try.func11 J17 rfl #[.slice A0 l0.length c0] rfl J3 ?_) | go_at_call 11); (with_reducible refine (Xav.calls k (fun k_ => k_ < w.heap.size) _ _ l0 t369 true _ ?side1 A2.out).mono ?_); (case side1 => exact be HC0.out (bu (Kd.C_F Xdu HR0.out) J0)); rintro e w5 ⟨v370, rfl, ho0, hb⟩; (try refine ⟨_, rfl, ?_⟩); have HO371 := zq (aH (ap (ok' := fun k_ => True) ho0 (fun k_ hk_ => trivial)) (Xc J0)); replace HB := zq (Xe J0 hb); (try clear hb); (try clear ho0); obtain ⟨Ao6, co6, eo6⟩ := aJ HO371.out; subst eo6) | (go_at_call 42; (with_reducible refine (Xb0.calls k _ _ l0 _ _ t369 t373 _ ?side1 ?side2 ?side3 ?side4 A4.out).mono ?_); (case side1 => exact zc (ac HR0.out HB.out)); (case side2 => exact HC0.out); (case side3 => exact zc ((ar HO371.out).2.2)); (case side4 => exact (ar HO371.out).2.1); rintro e w7 ⟨rfl, hb⟩; replace HB := zq (Xe J0 hb); (try clear hb)))
 go_ret
 exact ⟨J1, J0⟩
def Xaw.f (a0 : Int) : Option (Int × List Int × List Int × (List (S38))) := some (2, ([] : List Int), (([a0] : List Int)), ([] : List (S38)))
set_option maxHeartbeats 8000000 in
set_option maxRecDepth 100000 in
theorem Xaw.calls (a0 : Int) (r1 : Int) (r2 : List Int) (r3 : List Int) (r4 : List (S38)) (w : World) (h : Xaw.f a0 = some (r1, r2, r3, r4)) :
  Calls Try.prog 26 #[.int .i64 a0] w fun e w' => ∃ v1_ v2_ v3_ : Value, e = .returned (.agg #[.int .i64 r1, v1_, v2_, v3_]) ∧ Kd.R (Kd.int .i64) 3 w' w.heap.size (fun k_ => some k_ ≠ (v2_ : Value).ownBlock) v1_ r2 ∧ Kd.R (Kd.int .i64) 3 w' w.heap.size (fun k_ => some k_ ≠ (v1_ : Value).ownBlock) v2_ r3 ∧ Kd.R k38 38 w' w.heap.size (fun _ => True) v3_ r4 ∧ Below w.heap.size w w' := by
 have hu30 := Try.underlying30
 have HB := zq (Below.refl w.heap.size w)
 unfold Xaw.f at h
 have H := h
 clear h
 obtain ⟨y375, hy375⟩ : ∃ y_ : List Int, y_ = (([a0] : List Int)) := ⟨_, rfl⟩
 rw (occs := .pos [1]) [← hy375] at H
 have Ny375 := zq hy375
 clear hy375
 obtain ⟨rfl, rfl, rfl, rfl⟩ := yp4 H
 go_enter Try.func26, Try.ntmps26
 go_wp2_with (first | ((with_reducible refine Xj (N := 2) rfl ?_); refine bxw 2 30 #[.int .i64 0, .slice none 0 0, .slice none 0 0, .slice none 0 0] ?_; intro gb374 hg w2 hbox hb; have BK374 := zq (hbox); have GE374 := zq ((J22 : w.heap.size ≤ gb374)); replace HB := zq (Xe J0 hb); clear hb hbox hg) | ((with_reducible refine Xj (N := 4) rfl ?_); refine lwR (Kd.int .i64) 3 4 (xs := ([a0] : List Int)) [.int .i64 a0] Ny375 (Reps.one (show Kd.M (Kd.int .i64) _ _ _ a0 [.int .i64 a0] from rfl) (Reps.none _ _)) ?_; intro v376 w3 ho4 hb; have HO377 := zq (ag ho4 (Xc (zs1 GE374.out))); replace BK374 := zq (Xg (zk BK374.out) hb); replace HB := zq (Xe (zs1 GE374.out) hb); clear hb ho4; obtain ⟨Ao5, co5, eo5⟩ := ah HO377.out; subst eo5; have Z6 := cz4 BK374.out))
 refine bodyPost_ret (results_cell_row rfl _ _ gb374 30 #[.int .i64 2, .slice none 0 0, .slice Ao5 y375.length co5, .slice none 0 0] (0, 0) _ rfl (by (with_reducible repeat (first | refine Xd ?_ _ | refine Xf ?_ | refine Xb ?_ _)); refine Xk (cs := #[.int .i64 2, .slice none 0 0, .slice Ao5 y375.length co5, .slice none 0 0]) ?_ 3 _ rfl; (with_reducible repeat (first | refine Xd ?_ _ | refine Xf ?_ | refine Xb ?_ _)); refine Xk (cs := #[.int .i64 2, .slice none 0 0, .slice none 0 0, .slice none 0 0]) ?_ 2 _ rfl; (with_reducible repeat (first | refine Xd ?_ _ | refine Xf ?_ | refine Xb ?_ _)); refine Xk (cs := #[.int .i64 2, .slice none 0 0, .slice none 0 0, .slice none 0 0]) ?_ 1 _ rfl; (with_reducible repeat (first | refine Xd ?_ _ | refine Xf ?_ | refine Xb ?_ _)); refine Xk (cs := #[.int .i64 0, .slice none 0 0, .slice none 0 0, .slice none 0 0]) ?_ 0 _ rfl; (with_reducible repeat (first | refine Xd ?_ _ | refine Xf ?_ | refine Xb ?_ _)); exact BK374.out) Try.underlying30 rfl J17) rfl ?_
 exact ⟨_, _, _, J1, J8, by (with_reducible repeat (first | apply Kd.R_alloc | apply ai | apply ak)); exact af (fR4 (al HO377.out BK374.out J14)) (fun _ hk => J118), J8, by repeat (first | (with_reducible first | exact HB.out | apply Xaf | apply X3 | apply X9 | refine X0 ?_ GE374.out) | exact HB.out)⟩
end Go.Proofs.Ytecdklheppcihaa.HTightTells
