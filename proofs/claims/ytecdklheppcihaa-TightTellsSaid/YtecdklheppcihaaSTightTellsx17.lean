/- Words and walks, shortened by a program: what this claim's functions answer, and that other memory stays. -/
import Derived.Test.YtecdklheppcihaaSTightTellsx0
import Derived.Test.YtecdklheppcihaaSTightTellsx15
import Derived.Test.YtecdklheppcihaaSTightTellsx16
namespace Go.Proofs.Ytecdklheppcihaa.HTightTells
open Go.RowKit Go.Proofs.YtecdklheppcihaaW.PrintWords Go.Proofs.YtecdklheppcihaaW.PrintWords.Kd Go.Proofs.YtecdklheppcihaaW.PrintLast Go.Proofs.YtecdklheppcihaaW.PrintMore Go.Proofs.YtecdklheppcihaaW.PrintMore.Kd
attribute [local go_sem] Xbp Xbn Xbu Xbt Xbg Xbf Xbo Xbm
set_option linter.unusedVariables false
set_option linter.unusedSimpArgs false
mutual
def Xh.j0 : Nat → Int → Bool → Int → List Int → List Int → List (S38) → Option (Int × Bool)
 | 0, _, _, _, _, _, _ => none
 | k + 1, x4, x29, x601000, x601001, x601002, x601003 => if x29 = true then (some (0, false)) else (if x601000 ≥ 4 then (Xh.j1 k x4 0 0 x601000 x601001 x601002 x601003) else (Xh.j1 k x4 x4 0 x601000 x601001 x601002 x601003))
def Xh.j1 : Nat → Int → Int → Int → Int → List Int → List Int → List (S38) → Option (Int × Bool)
 | 0, _, _, _, _, _, _, _ => none
 | k + 1, x4, x6, x7, x601000, x601001, x601002, x601003 => if x601000 = 4 then (Xh.j2 k x4 x6 x4 x601000 x601001 x601002 x601003) else (Xh.j2 k x4 x6 x7 x601000 x601001 x601002 x601003)
def Xh.j2 : Nat → Int → Int → Int → Int → List Int → List Int → List (S38) → Option (Int × Bool)
 | 0, _, _, _, _, _, _, _ => none
 | k + 1, x4, x6, x7, x601000, x601001, x601002, x601003 => if (x601002.length : Int) = x6 then (Xh.j3 k x4 x6 x7 ((x601003.length : Int) != x7) x601000 x601001 x601002 x601003) else (Xh.j3 k x4 x6 x7 true x601000 x601001 x601002 x601003)
def Xh.j3 : Nat → Int → Int → Int → Bool → Int → List Int → List Int → List (S38) → Option (Int × Bool)
 | 0, _, _, _, _, _, _, _, _ => none
 | k + 1, x4, x6, x7, x49, x601000, x601001, x601002, x601003 => if x49 = true then (some (0, false)) else (Xh.l0 k x4 x6 x7 0 x601000 x601001 x601002 x601003)
def Xh.l0 : Nat → Int → Int → Int → Int → Int → List Int → List Int → List (S38) → Option (Int × Bool)
 | 0, _, _, _, _, _, _, _, _ => none
 | k + 1, x4, x6, x7, x8, x601000, x601001, x601002, x601003 => if x8 < x6 then (if 0 ≤ x8 then (if x8 < (x601002.length : Int) then (if x601000 = 1 then (if (rd x601002 x8) = 0 then (if x601000 = 3 then (if (rd x601002 x8) < 0 then (some (0, false)) else (if (rd x601002 x8) > 1114111 then (some (0, false)) else (if (rd x601002 x8) ≥ 55296 then (if (rd x601002 x8) ≤ 57343 then (some (0, false)) else (Xh.l0 k x4 x6 x7 (wrap64 (x8 + 1)) x601000 x601001 x601002 x601003)) else (Xh.l0 k x4 x6 x7 (wrap64 (x8 + 1)) x601000 x601001 x601002 x601003)))) else (Xh.l0 k x4 x6 x7 (wrap64 (x8 + 1)) x601000 x601001 x601002 x601003)) else (if (rd x601002 x8) = 1 then (if x601000 = 3 then (if (rd x601002 x8) < 0 then (some (0, false)) else (if (rd x601002 x8) > 1114111 then (some (0, false)) else (if (rd x601002 x8) ≥ 55296 then (if (rd x601002 x8) ≤ 57343 then (some (0, false)) else (Xh.l0 k x4 x6 x7 (wrap64 (x8 + 1)) x601000 x601001 x601002 x601003)) else (Xh.l0 k x4 x6 x7 (wrap64 (x8 + 1)) x601000 x601001 x601002 x601003)))) else (Xh.l0 k x4 x6 x7 (wrap64 (x8 + 1)) x601000 x601001 x601002 x601003)) else (some (0, false)))) else (if x601000 = 3 then (if (rd x601002 x8) < 0 then (some (0, false)) else (if (rd x601002 x8) > 1114111 then (some (0, false)) else (if (rd x601002 x8) ≥ 55296 then (if (rd x601002 x8) ≤ 57343 then (some (0, false)) else (Xh.l0 k x4 x6 x7 (wrap64 (x8 + 1)) x601000 x601001 x601002 x601003)) else (Xh.l0 k x4 x6 x7 (wrap64 (x8 + 1)) x601000 x601001 x601002 x601003)))) else (Xh.l0 k x4 x6 x7 (wrap64 (x8 + 1)) x601000 x601001 x601002 x601003))) else (none)) else (none)) else (Xh.l1 k x4 x7 0 x601000 x601001 x601002 x601003)
def Xh.l1 : Nat → Int → Int → Int → Int → List Int → List Int → List (S38) → Option (Int × Bool)
 | 0, _, _, _, _, _, _, _ => none
 | k + 1, x4, x7, x10, x601000, x601001, x601002, x601003 => if x10 < x7 then (if 0 ≤ x10 then (if x10 < (x601003.length : Int) then ((Xar.f k ((Xt x601003 x10).f0) ((Xt x601003 x10).f1)).bind fun t605 => (if t605 = true then (Xh.l1 k x4 x7 (wrap64 (x10 + 1)) x601000 x601001 x601002 x601003) else (some (0, false)))) else (none)) else (none)) else (some (x4, true))
end
def Xh.f (k : Nat) (a0_0 : Int) (l0_1 : List Int) (l0_2 : List Int) (l0_3 : List (S38)) : Option (Int × Bool) := (Xv.f k l0_1).bind fun bt601 => (if bt601.2 = true then (if a0_0 < 1 then (Xh.j0 k bt601.1 true a0_0 l0_1 l0_2 l0_3) else (Xh.j0 k bt601.1 (decide (a0_0 > 5)) a0_0 l0_1 l0_2 l0_3)) else (Xh.j0 k bt601.1 true a0_0 l0_1 l0_2 l0_3))
set_option maxHeartbeats 8000000 in
set_option maxRecDepth 100000 in
theorem Xh.calls (k : Nat) (a0_0 : Int) (A0_1 : Option Addr) (c0_1 : Nat) (l0_1 : List Int) (A0_2 : Option Addr) (c0_2 : Nat) (l0_2 : List Int) (A0_3 : Option Addr) (c0_3 : Nat) (l0_3 : List (S38)) (r1 : Int) (r2 : Bool) (w : World) (hr0_1 : Kd.C (Kd.int .i64) w A0_1 l0_1.length l0_1) (hc0_1 : l0_1.length ≤ c0_1) (hr0_2 : Kd.C (Kd.int .i64) w A0_2 l0_2.length l0_2) (hc0_2 : l0_2.length ≤ c0_2) (hr0_3 : Kd.C k38 w A0_3 l0_3.length l0_3) (hc0_3 : l0_3.length ≤ c0_3) (h : Xh.f k a0_0 l0_1 l0_2 l0_3 = some (r1, r2)) :
  Calls Try.prog 75 #[.agg #[.int .i64 a0_0, .slice A0_1 l0_1.length c0_1, .slice A0_2 l0_2.length c0_2, .slice A0_3 l0_3.length c0_3]] w fun e w' => e = .returned (.tuple #[.int .i64 r1, .bool r2]) ∧ Below w.heap.size w w' := by
 have hu30 := Try.underlying30
 have hu38 := Try.underlying38
 have HR0_1 := zq hr0_1
 have HC0_1 := zq hc0_1
 clear hr0_1 hc0_1
 have HR0_2 := zq hr0_2
 have HC0_2 := zq hc0_2
 clear hr0_2 hc0_2
 have HR0_3 := zq hr0_3
 have HC0_3 := zq hc0_3
 clear hr0_3 hc0_3
 have HB := zq (Below.refl w.heap.size w)
 unfold Xh.f at h
 have H := h
 clear h
 refine yv H ?_; clear H; rintro ⟨t601, t602⟩ A2 H
 dsimp only at H
 have HC3 := zq H
 clear H
 go_enter Try.func75, Try.ntmps75
 go_upto_region 2 with (first | ((with_reducible refine Xj (N := 1) rfl ?_); (try (refine Xw J63 ?_; dsimp only)); refine bxw 1 30 #[.int .i64 a0_0, .slice A0_1 l0_1.length c0_1, .slice A0_2 l0_2.length c0_2, .slice A0_3 l0_3.length c0_3] ?_; intro gb600 hg w4 hbox hb; have BK600 := zq (hbox); have GE600 := zq ((J22 : w.heap.size ≤ gb600)); replace HB := zq (Xe J0 hb); clear hb hbox hg; have Z5 := cz4 BK600.out) | ((with_reducible refine Xi (f := 39) rfl ?_); refine gL 15 Try.func39 #[.slice A0_1 l0_1.length c0_1] (Xv.calls k _ _ l0_1 t601 t602 _ (zc (ac HR0_1.out HB.out)) HC0_1.out A2.out) ?_; rintro e w' ⟨rfl, ⟨nd, rfl⟩⟩; refine ⟨_, rfl, ?_⟩))
 (try simp only [Act.put, List.setIfInBounds_toArray, List.set_cons_zero, List.set_cons_succ])
 go_cut [29] (fun v29 wc => ∃ (kq : Nat) (x29_2 : Bool), v29 = .bool x29_2 ∧ Aside0 (Xh.j0 kq t601 x29_2 a0_0 l0_1 l0_2 l0_3 = some (r1, r2)) ∧ Aside0 (kq ≤ k) ∧ Aside0 (wc.heap[gb600]? = some (.cells #[.int .i64 a0_0, (.slice A0_1 l0_1.length c0_1), (.slice A0_2 l0_2.length c0_2), (.slice A0_3 l0_3.length c0_3)] 30 (0, 0))) ∧ Aside0 (Below w.heap.size w wc))
 case first =>
  have H := HC3.out
  clear HC3
  refine yB H ?_ ?_ <;> clear H <;> rintro rfl H
  ·have H' := zq H
   clear H
   go_wp2
   go_meet
   case rel => exact ⟨_, (true), J4, H', ⟨J32⟩, ⟨J13⟩, ⟨J5⟩⟩
  refine yd H ?_ ?_ <;> clear H <;> rintro c7b0 H
  ·(first | rw [c7b0] | (simp only [Xan, Xaq]; rw [c7b0]) | skip)
   have H' := zq H
   clear H
   have Z9 := cz4 BK600.out
   go_wp2
   go_meet
   case rel => exact ⟨_, (decide (a0_0 > 5)), J4, H', ⟨J32⟩, ⟨J13⟩, ⟨J5⟩⟩
  (first | rw [c7b0] | (simp only [Xan, Xaq]; rw [c7b0]) | skip)
  have H' := zq H
  clear H
  have Z8 := cz4 BK600.out
  go_wp2
  go_meet
  case rel => exact ⟨_, (true), J4, H', ⟨J32⟩, ⟨J13⟩, ⟨J5⟩⟩
 case rest =>
  clear HC3
  try clear Z5
  obtain ⟨kq, x29_2, rfl, HA, HJ2, BK600, HB⟩ := hcut
  cases kq with
  | zero => exact absurd HA.out (by simp [Xh.j0])
  | succ kj2 =>
   have H := HA.out
   clear HA
   simp only [Xh.j0] at H
   refine yC H ?_ ?_ <;> clear H <;> rintro rfl H
   ·obtain ⟨rfl, rfl⟩ := yp2 H
    go_wp2
    go_ret2
    exact ⟨J1, J5⟩
   have HC11 := zq H
   clear H
   have Z12 := cz4 BK600.out
   go_upto_if 33 with (fail)
   go_cut [6] (fun v6 wc => ∃ (kq : Nat) (x6_10 : Int), v6 = .int .i64 x6_10 ∧ Aside0 (Xh.j1 kq t601 x6_10 0 a0_0 l0_1 l0_2 l0_3 = some (r1, r2)) ∧ Aside0 (kq ≤ kj2) ∧ Aside0 (wc.heap[gb600]? = some (.cells #[.int .i64 a0_0, (.slice A0_1 l0_1.length c0_1), (.slice A0_2 l0_2.length c0_2), (.slice A0_3 l0_3.length c0_3)] 30 (0, 0))) ∧ Aside0 (Below w.heap.size w wc))
   case first =>
    have H := HC11.out
    clear HC11
    refine yd H ?_ ?_ <;> clear H <;> rintro c13b0 H
    ·(first | rw [c13b0] | (simp only [Xan, Xaq]; rw [c13b0]) | skip)
     have H' := zq H
     clear H
     go_wp2
     go_meet
     case rel => exact ⟨_, (t601), J4, H', ⟨by have := HJ2.out; first | omega | exact Nat.le_refl _⟩, ⟨J13⟩, ⟨J5⟩⟩
    (first | rw [c13b0] | (simp only [Xan, Xaq]; rw [c13b0]) | skip)
    have H' := zq H
    clear H
    go_wp2
    go_meet
    case rel => exact ⟨_, (0), J4, H', ⟨by have := HJ2.out; first | omega | exact Nat.le_refl _⟩, ⟨J13⟩, ⟨J5⟩⟩
   case rest =>
    clear HC11
    try clear Z12
    try clear Z5
    obtain ⟨kq, x6_10, rfl, HA, HJ10, BK600, HB⟩ := hcut
    cases kq with
    | zero => exact absurd HA.out (by simp [Xh.j1])
    | succ kj10 =>
     have H := HA.out
     clear HA
     simp only [Xh.j1] at H
     have HC14 := zq H
     clear H
     have Z15 := cz4 BK600.out
     go_upto_if 36 with (fail)
     go_cut [7] (fun v7 wc => ∃ (kq : Nat) (x7_13 : Int), v7 = .int .i64 x7_13 ∧ Aside0 (Xh.j2 kq t601 x6_10 x7_13 a0_0 l0_1 l0_2 l0_3 = some (r1, r2)) ∧ Aside0 (kq ≤ kj10) ∧ Aside0 (wc.heap[gb600]? = some (.cells #[.int .i64 a0_0, (.slice A0_1 l0_1.length c0_1), (.slice A0_2 l0_2.length c0_2), (.slice A0_3 l0_3.length c0_3)] 30 (0, 0))) ∧ Aside0 (Below w.heap.size w wc))
     case first =>
      have H := HC14.out
      clear HC14
      refine yE H ?_ ?_ <;> clear H <;> rintro ⟨c16b0, c16b1, c16⟩ H
      ·(first | rw [c16b0] | (simp only [Xan, Xaq]; rw [c16b0]) | skip)
       have H' := zq H
       clear H
       go_wp2
       go_meet
       case rel => exact ⟨_, (0), J4, H', ⟨by have := HJ2.out; have := HJ10.out; first | omega | exact Nat.le_refl _⟩, ⟨J13⟩, ⟨J5⟩⟩
      clear c16
      (first | rw [c16b0] | (simp only [Xan, Xaq]; rw [c16b0]) | skip)
      have H' := zq H
      clear H
      go_wp2
      go_meet
      case rel => exact ⟨_, (t601), J4, H', ⟨by have := HJ2.out; have := HJ10.out; first | omega | exact Nat.le_refl _⟩, ⟨J13⟩, ⟨J5⟩⟩
     case rest =>
      clear HC14
      try clear Z12
      try clear Z15
      try clear Z5
      obtain ⟨kq, x7_13, rfl, HA, HJ13, BK600, HB⟩ := hcut
      cases kq with
      | zero => exact absurd HA.out (by simp [Xh.j2])
      | succ kj13 =>
       have H := HA.out
       clear HA
       simp only [Xh.j2] at H
       have HC17 := zq H
       clear H
       go_upto_region 10 with (fail)
       go_cut [49] (fun v49 wc => ∃ (kq : Nat) (x49_16 : Bool), v49 = .bool x49_16 ∧ Aside0 (Xh.j3 kq t601 x6_10 x7_13 x49_16 a0_0 l0_1 l0_2 l0_3 = some (r1, r2)) ∧ Aside0 (kq ≤ kj13) ∧ Aside0 (wc.heap[gb600]? = some (.cells #[.int .i64 a0_0, (.slice A0_1 l0_1.length c0_1), (.slice A0_2 l0_2.length c0_2), (.slice A0_3 l0_3.length c0_3)] 30 (0, 0))) ∧ Aside0 (Below w.heap.size w wc))
       case first =>
        have H := HC17.out
        clear HC17
        refine yE H ?_ ?_ <;> clear H <;> rintro ⟨c18b0, c18b1, c18⟩ H
        ·(first | rw [c18b0] | (simp only [Xan, Xaq]; rw [c18b0]) | skip)
         have H' := zq H
         clear H
         have Z20 := cz4 BK600.out
         go_wp2
         go_meet
         case rel => exact ⟨_, (true), J4, H', ⟨by have := HJ2.out; have := HJ10.out; have := HJ13.out; first | omega | exact Nat.le_refl _⟩, ⟨J13⟩, ⟨J5⟩⟩
        clear c18
        (first | rw [c18b0] | (simp only [Xan, Xaq]; rw [c18b0]) | skip)
        have H' := zq H
        clear H
        have Z19 := cz4 BK600.out
        go_wp2
        go_meet
        case rel => exact ⟨_, (((l0_3.length : Int) != x7_13)), J4, H', ⟨by have := HJ2.out; have := HJ10.out; have := HJ13.out; first | omega | exact Nat.le_refl _⟩, ⟨J13⟩, ⟨J5⟩⟩
       case rest =>
        clear HC17
        try clear Z12
        try clear Z15
        try clear Z5
        obtain ⟨kq, x49_16, rfl, HA, HJ16, BK600, HB⟩ := hcut
        cases kq with
        | zero => exact absurd HA.out (by simp [Xh.j3])
        | succ kj16 =>
         have H := HA.out
         clear HA
         simp only [Xh.j3] at H
         refine yC H ?_ ?_ <;> clear H <;> rintro rfl H
         ·obtain ⟨rfl, rfl⟩ := yp2 H
          go_wp2
          go_ret2
          exact ⟨J1, J5⟩
         have H' := zq H
         clear H
         go_wp2
         go_loopg [8] kj16 (fun kq v8 w' => ∃ (x8_5 : Int), v8 = .int .i64 x8_5 ∧ Aside0 (Xh.l0 kq t601 x6_10 x7_13 x8_5 a0_0 l0_1 l0_2 l0_3 = some (r1, r2)) ∧ Aside0 (kq ≤ kj16) ∧ Aside0 (w'.heap[gb600]? = some (.cells #[.int .i64 a0_0, (.slice A0_1 l0_1.length c0_1), (.slice A0_2 l0_2.length c0_2), (.slice A0_3 l0_3.length c0_3)] 30 (0, 0))) ∧ Aside0 (Below w.heap.size w w'))
         case atStart => exact ⟨(0), J4, H', ⟨Nat.le_refl _⟩, ⟨J13⟩, ⟨J5⟩⟩
         case round =>
          clear H'
          try clear Z12
          try clear Z15
          try clear Z5
          obtain ⟨x8_5, rfl, HA, HK5, BK600, HB⟩ := hrel
          cases gk with
          | zero => exact absurd HA.out (by simp [Xh.l0])
          | succ k5 =>
           have H := HA.out
           clear HA
           simp only [Xh.l0] at H
           refine yd H ?_ ?_ <;> clear H <;> rintro c22b0 H
           ·have H' := zq H
            clear H
            go_wp2
            go_loopg [10] k5 (fun kq v10 w' => ∃ (x10_6 : Int), v10 = .int .i64 x10_6 ∧ Aside0 (Xh.l1 kq t601 x7_13 x10_6 a0_0 l0_1 l0_2 l0_3 = some (r1, r2)) ∧ Aside0 (kq ≤ k5) ∧ Aside0 (w'.heap[gb600]? = some (.cells #[.int .i64 a0_0, (.slice A0_1 l0_1.length c0_1), (.slice A0_2 l0_2.length c0_2), (.slice A0_3 l0_3.length c0_3)] 30 (0, 0))) ∧ Aside0 (Below w.heap.size w w'))
            case atStart => exact ⟨(0), J4, H', ⟨Nat.le_refl _⟩, ⟨J13⟩, ⟨J5⟩⟩
            case round =>
             clear H'
             try clear c22b0
             try clear Z5
             obtain ⟨x10_6, rfl, HA, HK6, BK600, HB⟩ := hrel
             cases gk with
             | zero => exact absurd HA.out (by simp [Xh.l1])
             | succ k6 =>
              have H := HA.out
              clear HA
              simp only [Xh.l1] at H
              refine yD H ?_ ?_ <;> clear H <;> rintro c62b0 H
              ·refine yu H ?_ ?_ <;> clear H <;> rintro c63 H
               ·have c63b0 : decide (0 ≤ x10_6) = true := decide_eq_true c63
                clear c63
                refine yu H ?_ ?_ <;> clear H <;> rintro c64 H
                ·have c64b0 : decide (x10_6 < (l0_3.length : Int)) = true := decide_eq_true c64
                 clear c64
                 refine yv H ?_; clear H; rintro t605 A65 H
                 refine yC H ?_ ?_ <;> clear H <;> rintro rfl H
                 ·have H' := zq H
                  clear H
                  have Z67 := cz4 BK600.out
                  obtain ⟨ad604, e604, hx604_0, hx604_1, p604, q604⟩ := rdD HR0_3.out HB.out x10_6
                  cases e604
                  go_wp2_with (first | ((with_reducible refine Xi (f := 40) rfl ?_); refine gL 102 Try.func40 #[.agg #[.int .i64 ((Xt l0_3 x10_6).f0), .int .i64 ((Xt l0_3 x10_6).f1)]] (Xar.calls k6 ((Xt l0_3 x10_6).f0) ((Xt l0_3 x10_6).f1) true _ A65.out) ?_; rintro e w68 ⟨rfl, hb⟩; refine ⟨_, rfl, ?_⟩; replace BK600 := zq (Xg (zk BK600.out) hb); replace HB := zq (Xe (zs1 GE600.out) hb); (try clear hb)))
                  go_roundg k6
                  case measure => have := HJ2.out; have := HJ10.out; have := HJ13.out; have := HJ16.out; have := HK5.out; have := HK6.out; omega
                  case rel => exact ⟨(wrap64 (x10_6 + 1)), J4, H', ⟨by have := HJ2.out; have := HJ10.out; have := HJ13.out; have := HJ16.out; have := HK5.out; have := HK6.out; omega⟩, ⟨J13⟩, ⟨J5⟩⟩
                 ·obtain ⟨rfl, rfl⟩ := yp2 H
                  have Z69 := cz4 BK600.out
                  obtain ⟨ad604, e604, hx604_0, hx604_1, p604, q604⟩ := rdD HR0_3.out HB.out x10_6
                  cases e604
                  go_wp2_with (first | ((with_reducible refine Xi (f := 40) rfl ?_); refine gL 102 Try.func40 #[.agg #[.int .i64 ((Xt l0_3 x10_6).f0), .int .i64 ((Xt l0_3 x10_6).f1)]] (Xar.calls k6 ((Xt l0_3 x10_6).f0) ((Xt l0_3 x10_6).f1) false _ A65.out) ?_; rintro e w70 ⟨rfl, hb⟩; refine ⟨_, rfl, ?_⟩; replace HB := zq (Xe (zs1 GE600.out) hb); (try clear hb)))
                  go_ret2
                  exact ⟨J1, J5⟩
                ·exact absurd H J83
               ·exact absurd H J83
              ·obtain ⟨rfl, rfl⟩ := yp2 H
               go_wp2
               go_ret2
               exact ⟨J1, J5⟩
           refine yj H ?_; clear H; intro c23b0 H
           refine yj H ?_; clear H; intro c24b0 H
           refine yE H ?_ ?_ <;> clear H <;> rintro ⟨c25b0, c25b1, c25⟩ H
           ·refine yF H ?_ ?_ <;> clear H <;> rintro ⟨c51b0, c51b1, c51⟩ H
            ·clear c51
             refine yD H ?_ ?_ <;> clear H <;> rintro c52b0 H
             ·obtain ⟨rfl, rfl⟩ := yp2 H
              have Z53 := cz4 BK600.out
              have p603 : 0 ≤ (x8_5 : Int) := of_decide_eq_true J2
              have q603 : x8_5 < (l0_2.length : Int) := of_decide_eq_true J2
              obtain ⟨ad603, e603, hx603_0⟩ := Kd.at_int HR0_2.out x8_5 p603 q603
              cases e603
              replace hx603_0 := yh HB hx603_0
              replace p603 := eq_true p603
              replace q603 := eq_true q603
              go_wp2
              go_ret2
              exact ⟨J1, J5⟩
             ·refine yD H ?_ ?_ <;> clear H <;> rintro c54b0 H
              ·obtain ⟨rfl, rfl⟩ := yp2 H
               have Z55 := cz4 BK600.out
               have p603 : 0 ≤ (x8_5 : Int) := of_decide_eq_true J2
               have q603 : x8_5 < (l0_2.length : Int) := of_decide_eq_true J2
               obtain ⟨ad603, e603, hx603_0⟩ := Kd.at_int HR0_2.out x8_5 p603 q603
               cases e603
               replace hx603_0 := yh HB hx603_0
               replace p603 := eq_true p603
               replace q603 := eq_true q603
               go_wp2
               go_ret2
               exact ⟨J1, J5⟩
              ·refine yD H ?_ ?_ <;> clear H <;> rintro c56b0 H
               ·refine yD H ?_ ?_ <;> clear H <;> rintro c57b0 H
                ·obtain ⟨rfl, rfl⟩ := yp2 H
                 have Z58 := cz4 BK600.out
                 have p603 : 0 ≤ (x8_5 : Int) := of_decide_eq_true J2
                 have q603 : x8_5 < (l0_2.length : Int) := of_decide_eq_true J2
                 obtain ⟨ad603, e603, hx603_0⟩ := Kd.at_int HR0_2.out x8_5 p603 q603
                 cases e603
                 replace hx603_0 := yh HB hx603_0
                 replace p603 := eq_true p603
                 replace q603 := eq_true q603
                 go_wp2
                 go_ret2
                 exact ⟨J1, J5⟩
                ·have H' := zq H
                 clear H
                 have Z59 := cz4 BK600.out
                 have p603 : 0 ≤ (x8_5 : Int) := of_decide_eq_true J2
                 have q603 : x8_5 < (l0_2.length : Int) := of_decide_eq_true J2
                 obtain ⟨ad603, e603, hx603_0⟩ := Kd.at_int HR0_2.out x8_5 p603 q603
                 cases e603
                 replace hx603_0 := yh HB hx603_0
                 replace p603 := eq_true p603
                 replace q603 := eq_true q603
                 go_wp2
                 go_roundg k5
                 case measure => have := HJ2.out; have := HJ10.out; have := HJ13.out; have := HJ16.out; have := HK5.out; omega
                 case rel => exact ⟨(wrap64 (x8_5 + 1)), J4, H', ⟨J45⟩, ⟨J13⟩, ⟨J5⟩⟩
               ·have H' := zq H
                clear H
                have Z60 := cz4 BK600.out
                have p603 : 0 ≤ (x8_5 : Int) := of_decide_eq_true J2
                have q603 : x8_5 < (l0_2.length : Int) := of_decide_eq_true J2
                obtain ⟨ad603, e603, hx603_0⟩ := Kd.at_int HR0_2.out x8_5 p603 q603
                cases e603
                replace hx603_0 := yh HB hx603_0
                replace p603 := eq_true p603
                replace q603 := eq_true q603
                go_wp2
                go_roundg k5
                case measure => have := HJ2.out; have := HJ10.out; have := HJ13.out; have := HJ16.out; have := HK5.out; omega
                case rel => exact ⟨(wrap64 (x8_5 + 1)), J4, H', ⟨J45⟩, ⟨J13⟩, ⟨J5⟩⟩
            ·have H' := zq H
             clear H
             have Z61 := cz4 BK600.out
             have p603 : 0 ≤ (x8_5 : Int) := of_decide_eq_true J2
             have q603 : x8_5 < (l0_2.length : Int) := of_decide_eq_true J2
             obtain ⟨ad603, e603, hx603_0⟩ := Kd.at_int HR0_2.out x8_5 p603 q603
             cases e603
             replace hx603_0 := yh HB hx603_0
             replace p603 := eq_true p603
             replace q603 := eq_true q603
             go_wp2
             go_roundg k5
             case measure => have := HJ2.out; have := HJ10.out; have := HJ13.out; have := HJ16.out; have := HK5.out; omega
             case rel => exact ⟨(wrap64 (x8_5 + 1)), J4, H', ⟨J45⟩, ⟨J13⟩, ⟨J5⟩⟩
           clear c25
           refine yF H ?_ ?_ <;> clear H <;> rintro ⟨c26b0, c26b1, c26⟩ H
           ·clear c26
            refine yF H ?_ ?_ <;> clear H <;> rintro ⟨c27b0, c27b1, c27⟩ H
            ·clear c27
             refine yD H ?_ ?_ <;> clear H <;> rintro c28b0 H
             ·obtain ⟨rfl, rfl⟩ := yp2 H
              have Z29 := cz4 BK600.out
              have p603 : 0 ≤ (x8_5 : Int) := of_decide_eq_true J2
              have q603 : x8_5 < (l0_2.length : Int) := of_decide_eq_true J2
              obtain ⟨ad603, e603, hx603_0⟩ := Kd.at_int HR0_2.out x8_5 p603 q603
              cases e603
              replace hx603_0 := yh HB hx603_0
              replace p603 := eq_true p603
              replace q603 := eq_true q603
              go_wp2
              go_ret2
              exact ⟨J1, J5⟩
             ·refine yD H ?_ ?_ <;> clear H <;> rintro c30b0 H
              ·obtain ⟨rfl, rfl⟩ := yp2 H
               have Z31 := cz4 BK600.out
               have p603 : 0 ≤ (x8_5 : Int) := of_decide_eq_true J2
               have q603 : x8_5 < (l0_2.length : Int) := of_decide_eq_true J2
               obtain ⟨ad603, e603, hx603_0⟩ := Kd.at_int HR0_2.out x8_5 p603 q603
               cases e603
               replace hx603_0 := yh HB hx603_0
               replace p603 := eq_true p603
               replace q603 := eq_true q603
               go_wp2
               go_ret2
               exact ⟨J1, J5⟩
              ·refine yD H ?_ ?_ <;> clear H <;> rintro c32b0 H
               ·refine yD H ?_ ?_ <;> clear H <;> rintro c33b0 H
                ·obtain ⟨rfl, rfl⟩ := yp2 H
                 have Z34 := cz4 BK600.out
                 have p603 : 0 ≤ (x8_5 : Int) := of_decide_eq_true J2
                 have q603 : x8_5 < (l0_2.length : Int) := of_decide_eq_true J2
                 obtain ⟨ad603, e603, hx603_0⟩ := Kd.at_int HR0_2.out x8_5 p603 q603
                 cases e603
                 replace hx603_0 := yh HB hx603_0
                 replace p603 := eq_true p603
                 replace q603 := eq_true q603
                 go_wp2
                 go_ret2
                 exact ⟨J1, J5⟩
                ·have H' := zq H
                 clear H
                 have Z35 := cz4 BK600.out
                 have p603 : 0 ≤ (x8_5 : Int) := of_decide_eq_true J2
                 have q603 : x8_5 < (l0_2.length : Int) := of_decide_eq_true J2
                 obtain ⟨ad603, e603, hx603_0⟩ := Kd.at_int HR0_2.out x8_5 p603 q603
                 cases e603
                 replace hx603_0 := yh HB hx603_0
                 replace p603 := eq_true p603
                 replace q603 := eq_true q603
                 go_wp2
                 go_roundg k5
                 case measure => have := HJ2.out; have := HJ10.out; have := HJ13.out; have := HJ16.out; have := HK5.out; omega
                 case rel => exact ⟨(wrap64 (x8_5 + 1)), J4, H', ⟨J45⟩, ⟨J13⟩, ⟨J5⟩⟩
               ·have H' := zq H
                clear H
                have Z36 := cz4 BK600.out
                have p603 : 0 ≤ (x8_5 : Int) := of_decide_eq_true J2
                have q603 : x8_5 < (l0_2.length : Int) := of_decide_eq_true J2
                obtain ⟨ad603, e603, hx603_0⟩ := Kd.at_int HR0_2.out x8_5 p603 q603
                cases e603
                replace hx603_0 := yh HB hx603_0
                replace p603 := eq_true p603
                replace q603 := eq_true q603
                go_wp2
                go_roundg k5
                case measure => have := HJ2.out; have := HJ10.out; have := HJ13.out; have := HJ16.out; have := HK5.out; omega
                case rel => exact ⟨(wrap64 (x8_5 + 1)), J4, H', ⟨J45⟩, ⟨J13⟩, ⟨J5⟩⟩
            ·have H' := zq H
             clear H
             have Z37 := cz4 BK600.out
             have p603 : 0 ≤ (x8_5 : Int) := of_decide_eq_true J2
             have q603 : x8_5 < (l0_2.length : Int) := of_decide_eq_true J2
             obtain ⟨ad603, e603, hx603_0⟩ := Kd.at_int HR0_2.out x8_5 p603 q603
             cases e603
             replace hx603_0 := yh HB hx603_0
             replace p603 := eq_true p603
             replace q603 := eq_true q603
             go_wp2
             go_roundg k5
             case measure => have := HJ2.out; have := HJ10.out; have := HJ13.out; have := HJ16.out; have := HK5.out; omega
             case rel => exact ⟨(wrap64 (x8_5 + 1)), J4, H', ⟨J45⟩, ⟨J13⟩, ⟨J5⟩⟩
           refine yE H ?_ ?_ <;> clear H <;> rintro ⟨c38b0, c38b1, c38⟩ H
           ·obtain ⟨rfl, rfl⟩ := yp2 H
            have Z50 := cz4 BK600.out
            have p603 : 0 ≤ (x8_5 : Int) := of_decide_eq_true J2
            have q603 : x8_5 < (l0_2.length : Int) := of_decide_eq_true J2
            obtain ⟨ad603, e603, hx603_0⟩ := Kd.at_int HR0_2.out x8_5 p603 q603
            cases e603
            replace hx603_0 := yh HB hx603_0
            replace p603 := eq_true p603
            replace q603 := eq_true q603
            go_wp2
            go_ret2
            exact ⟨J1, J5⟩
           clear c38
           refine yE H ?_ ?_ <;> clear H <;> rintro ⟨c39b0, c39b1, c39⟩ H
           ·have H' := zq H
            clear H
            have Z49 := cz4 BK600.out
            have p603 : 0 ≤ (x8_5 : Int) := of_decide_eq_true J2
            have q603 : x8_5 < (l0_2.length : Int) := of_decide_eq_true J2
            obtain ⟨ad603, e603, hx603_0⟩ := Kd.at_int HR0_2.out x8_5 p603 q603
            cases e603
            replace hx603_0 := yh HB hx603_0
            replace p603 := eq_true p603
            replace q603 := eq_true q603
            go_wp2
            go_roundg k5
            case measure => have := HJ2.out; have := HJ10.out; have := HJ13.out; have := HJ16.out; have := HK5.out; omega
            case rel => exact ⟨(wrap64 (x8_5 + 1)), J4, H', ⟨J45⟩, ⟨J13⟩, ⟨J5⟩⟩
           clear c39
           refine yD H ?_ ?_ <;> clear H <;> rintro c40b0 H
           ·obtain ⟨rfl, rfl⟩ := yp2 H
            have Z41 := cz4 BK600.out
            have p603 : 0 ≤ (x8_5 : Int) := of_decide_eq_true J2
            have q603 : x8_5 < (l0_2.length : Int) := of_decide_eq_true J2
            obtain ⟨ad603, e603, hx603_0⟩ := Kd.at_int HR0_2.out x8_5 p603 q603
            cases e603
            replace hx603_0 := yh HB hx603_0
            replace p603 := eq_true p603
            replace q603 := eq_true q603
            go_wp2
            go_ret2
            exact ⟨J1, J5⟩
           refine yD H ?_ ?_ <;> clear H <;> rintro c42b0 H
           ·obtain ⟨rfl, rfl⟩ := yp2 H
            have Z43 := cz4 BK600.out
            have p603 : 0 ≤ (x8_5 : Int) := of_decide_eq_true J2
            have q603 : x8_5 < (l0_2.length : Int) := of_decide_eq_true J2
            obtain ⟨ad603, e603, hx603_0⟩ := Kd.at_int HR0_2.out x8_5 p603 q603
            cases e603
            replace hx603_0 := yh HB hx603_0
            replace p603 := eq_true p603
            replace q603 := eq_true q603
            go_wp2
            go_ret2
            exact ⟨J1, J5⟩
           refine yd H ?_ ?_ <;> clear H <;> rintro c44b0 H
           ·have H' := zq H
            clear H
            have Z48 := cz4 BK600.out
            have p603 : 0 ≤ (x8_5 : Int) := of_decide_eq_true J2
            have q603 : x8_5 < (l0_2.length : Int) := of_decide_eq_true J2
            obtain ⟨ad603, e603, hx603_0⟩ := Kd.at_int HR0_2.out x8_5 p603 q603
            cases e603
            replace hx603_0 := yh HB hx603_0
            replace p603 := eq_true p603
            replace q603 := eq_true q603
            go_wp2
            go_roundg k5
            case measure => have := HJ2.out; have := HJ10.out; have := HJ13.out; have := HJ16.out; have := HK5.out; omega
            case rel => exact ⟨(wrap64 (x8_5 + 1)), J4, H', ⟨J45⟩, ⟨J13⟩, ⟨J5⟩⟩
           refine yD H ?_ ?_ <;> clear H <;> rintro c45b0 H
           ·obtain ⟨rfl, rfl⟩ := yp2 H
            have Z46 := cz4 BK600.out
            have p603 : 0 ≤ (x8_5 : Int) := of_decide_eq_true J2
            have q603 : x8_5 < (l0_2.length : Int) := of_decide_eq_true J2
            obtain ⟨ad603, e603, hx603_0⟩ := Kd.at_int HR0_2.out x8_5 p603 q603
            cases e603
            replace hx603_0 := yh HB hx603_0
            replace p603 := eq_true p603
            replace q603 := eq_true q603
            go_wp2
            go_ret2
            exact ⟨J1, J5⟩
           have H' := zq H
           clear H
           have Z47 := cz4 BK600.out
           have p603 : 0 ≤ (x8_5 : Int) := of_decide_eq_true J2
           have q603 : x8_5 < (l0_2.length : Int) := of_decide_eq_true J2
           obtain ⟨ad603, e603, hx603_0⟩ := Kd.at_int HR0_2.out x8_5 p603 q603
           cases e603
           replace hx603_0 := yh HB hx603_0
           replace p603 := eq_true p603
           replace q603 := eq_true q603
           go_wp2
           go_roundg k5
           case measure => have := HJ2.out; have := HJ10.out; have := HJ13.out; have := HJ16.out; have := HK5.out; omega
           case rel => exact ⟨(wrap64 (x8_5 + 1)), J4, H', ⟨J45⟩, ⟨J13⟩, ⟨J5⟩⟩
end Go.Proofs.Ytecdklheppcihaa.HTightTells
