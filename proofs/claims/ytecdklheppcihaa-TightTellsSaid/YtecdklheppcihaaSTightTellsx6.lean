/- Words and walks, shortened by a program: what this claim's functions answer, and that other memory stays. -/
import Derived.Test.YtecdklheppcihaaSTightTellsx0
import Derived.Test.YtecdklheppcihaaSTightTellsx2
import Derived.Test.YtecdklheppcihaaSTightTellsx5
namespace Go.Proofs.Ytecdklheppcihaa.HTightTells
open Go.RowKit Go.Proofs.YtecdklheppcihaaW.PrintWords Go.Proofs.YtecdklheppcihaaW.PrintWords.Kd Go.Proofs.YtecdklheppcihaaW.PrintLast Go.Proofs.YtecdklheppcihaaW.PrintMore Go.Proofs.YtecdklheppcihaaW.PrintMore.Kd
attribute [local go_sem] Xbp Xbn Xbu Xbt Xbg Xbf Xbo Xbm
set_option linter.unusedVariables false
set_option linter.unusedSimpArgs false
def Xbr.f (k : Nat) (l0 : List (S30)) : Option (Int) := (Xm.f k l0).bind fun bt143 => (some bt143.1)
theorem Xbr.mono : ∀ a0 k, LeO (Xbr.f k a0) (Xbr.f (k + 1) a0) := by
 intro a0 k
 unfold Xbr.f
 have im0 := @Xm.mono
 exact mz3
set_option maxHeartbeats 8000000 in
set_option maxRecDepth 100000 in
theorem Xbr.calls (k : Nat) (A0 : Option Addr) (c0 : Nat) (l0 : List (S30)) (r : Int) (w : World) (hr0 : Kd.C k30 w A0 l0.length l0) (hc0 : l0.length ≤ c0) (h : Xbr.f k l0 = some r) :
  Calls Try.prog 47 #[.slice A0 l0.length c0] w fun e w' => e = .returned (.int .i64 r) ∧ Below w.heap.size w w' := by
 have HR0 := zq hr0
 have HC0 := zq hc0
 clear hr0 hc0
 have HB := zq (Below.refl w.heap.size w)
 unfold Xbr.f at h
 have H := h
 clear h
 replace H := Option.bind_eq_some_iff.mp H
 obtain ⟨⟨t143, t144, t145⟩, A20, H⟩ := H
 replace H : (some t143) = some r := H
 have A2 := zq A20
 clear A20
 obtain rfl := yo H
 go_enter Try.func47, Try.ntmps47
 go_wp2_with (first | ((with_reducible refine Xi (f := 48) rfl ?_); refine gL 8 Try.func48 #[.slice A0 l0.length c0] (Xm.calls k _ _ l0 t143 t144 t145 _ (zc HR0.out) HC0.out A2.out) ?_; rintro e w3 ⟨rfl, hb⟩; refine ⟨_, rfl, ?_⟩; replace HB := zq (Xe J0 hb); (try clear hb)))
 go_ret
 exact ⟨J1, J0⟩
def Xa8.f (k : Nat) (l0 : List (S30)) : Option (Bool) := if (l0.length : Int) > 0 then ((Xbr.f k l0).bind fun t146 => (some (t146 == (l0.length : Int)))) else (some false)
theorem Xa8.mono : ∀ a0 k, LeO (Xa8.f k a0) (Xa8.f (k + 1) a0) := by
 intro a0 k
 unfold Xa8.f
 have im0 := @Xbr.mono
 exact mz3
set_option maxHeartbeats 8000000 in
set_option maxRecDepth 100000 in
theorem Xa8.calls (k : Nat) (A0 : Option Addr) (c0 : Nat) (l0 : List (S30)) (r : Bool) (w : World) (hr0 : Kd.C k30 w A0 l0.length l0) (hc0 : l0.length ≤ c0) (h : Xa8.f k l0 = some r) :
  Calls Try.prog 23 #[.slice A0 l0.length c0] w fun e w' => e = .returned (.bool r) ∧ Below w.heap.size w w' := by
 have HR0 := zq hr0
 have HC0 := zq hc0
 clear hr0 hc0
 have HB := zq (Below.refl w.heap.size w)
 unfold Xa8.f at h
 have H := h
 clear h
 refine yt H ?_ ?_ <;> clear H <;> rintro c2 H
 ·have c2b0 : decide (0 < (l0.length : Int)) = false := decide_eq_false c2
  have c2b1 : decide (0 < l0.length) = false := decide_eq_false J29
  clear c2
  obtain rfl := yo H
  go_enter Try.func23, Try.ntmps23
  go_wp2
  go_ret
  exact ⟨J1, J0⟩
 have c2b0 := decide_eq_true c2
 have c2b1 : decide (0 < l0.length) = true := decide_eq_true J29
 clear c2
 refine yv H ?_; clear H; rintro t146 A3 H
 obtain rfl := yo H
 go_enter Try.func23, Try.ntmps23
 go_wp2_with (first | (go_at_call 47; (with_reducible refine (Xbr.calls k _ _ l0 t146 _ ?side1 ?side2 A3.out).mono ?_); (case side1 => exact zc HR0.out); (case side2 => exact HC0.out); rintro e w4 ⟨rfl, hb⟩; replace HB := zq (Xe J0 hb); (try clear hb)))
 go_ret
 exact ⟨J1, J0⟩
def Xba.f (k : Nat) (a0_0 : Int) (a0_1 : Int) : Option (Bool) := (Xao.f k a0_0 a0_1).bind fun t148 => (some (!t148))
theorem Xba.mono : ∀ a0 a1 k, LeO (Xba.f k a0 a1) (Xba.f (k + 1) a0 a1) := by
 intro a0 a1 k
 unfold Xba.f
 have im0 := @Xao.mono
 exact mz3
set_option maxHeartbeats 8000000 in
set_option maxRecDepth 100000 in
theorem Xba.calls (k : Nat) (a0_0 : Int) (a0_1 : Int) (r : Bool) (w : World) (h : Xba.f k a0_0 a0_1 = some r) :
  Calls Try.prog 30 #[.agg #[.int .i64 a0_0, .int .i64 a0_1]] w fun e w' => e = .returned (.bool r) ∧ Below w.heap.size w w' := by
 have hu38 := Try.underlying38
 have HB := zq (Below.refl w.heap.size w)
 unfold Xba.f at h
 have H := h
 clear h
 refine yv H ?_; clear H; rintro t148 A2 H
 obtain rfl := yo H
 go_enter Try.func30, Try.ntmps30
 go_wp2_with (first | ((with_reducible refine Xj (N := 1) rfl ?_); refine bxw 1 38 #[.int .i64 a0_0, .int .i64 a0_1] ?_; intro gb147 hg w3 hbox hb; have BK147 := zq (hbox); have GE147 := zq ((J22 : w.heap.size ≤ gb147)); replace HB := zq (Xe J0 hb); clear hb hbox hg; have Z4 := cz2 BK147.out) | ((with_reducible refine Xi (f := 31) rfl ?_); refine gL 4 Try.func31 #[.agg #[.int .i64 a0_0, .int .i64 a0_1]] (Xao.calls k a0_0 a0_1 t148 _ A2.out) ?_; rintro e w5 ⟨rfl, hb⟩; refine ⟨_, rfl, ?_⟩; replace HB := zq (Xe (zs1 GE147.out) hb); (try clear hb)))
 go_ret
 exact ⟨J1, by repeat (first | (with_reducible first | exact HB.out | apply Xaf | apply X3 | apply X9 | refine X0 ?_ GE147.out) | exact HB.out)⟩
def Xa4.l0 : Nat → List (S38) → Int → Int → Option (Int)
 | 0, _, _, _ => none
 | k + 1, x0, x7, x8 => if x8 < x7 then (if 0 ≤ x8 then (if x8 < (x0.length : Int) then ((Xba.f k ((Xt x0 x8).f0) ((Xt x0 x8).f1)).bind fun t150 => (if t150 = true then (some x8) else (Xa4.l0 k x0 x7 (wrap64 (x8 + 1))))) else (none)) else (none)) else (some (-1))
def Xa4.f (k : Nat) (l0 : List (S38)) : Option (Int) := Xa4.l0 k l0 (l0.length : Int) 0
theorem Xa4.mono_l : ∀ k, (∀ y0 y1 y2, LeO (Xa4.l0 k y0 y1 y2) (Xa4.l0 (k + 1) y0 y1 y2))
 | 0 => fun _ _ _ r h => by simp [Xa4.l0] at h
 | k + 1 => by
  have ih0 := Xa4.mono_l k
  ·intro y0 y1 y2
   unfold Xa4.l0
   have im0 := @Xba.mono
   exact mz3
theorem Xa4.mono : ∀ a0 k, LeO (Xa4.f k a0) (Xa4.f (k + 1) a0) := by
 intro a0 k
 have ih0 := Xa4.mono_l k
 unfold Xa4.f
 have im0 := @Xba.mono
 exact mz3
set_option maxHeartbeats 8000000 in
set_option maxRecDepth 100000 in
theorem Xa4.calls (k : Nat) (A0 : Option Addr) (c0 : Nat) (l0 : List (S38)) (r : Int) (w : World) (hr0 : Kd.C k38 w A0 l0.length l0) (hc0 : l0.length ≤ c0) (h : Xa4.f k l0 = some r) :
  Calls Try.prog 57 #[.slice A0 l0.length c0, .func (.func 30) #[] #[]] w fun e w' => e = .returned (.int .i64 r) ∧ Below w.heap.size w w' := by
 have hu38 := Try.underlying38
 have HR0 := zq hr0
 have HC0 := zq hc0
 clear hr0 hc0
 have HB := zq (Below.refl w.heap.size w)
 unfold Xa4.f at h
 have H := h
 clear h
 have H' := zq H
 clear H
 go_enter Try.func57, Try.ntmps57
 go_wp2
 go_loopg [8] k (fun kq v8 w' => ∃ (x8_1 : Int), v8 = .int .i64 x8_1 ∧ Aside0 (Xa4.l0 kq l0 (l0.length : Int) x8_1 = some r) ∧ Aside0 (kq ≤ k) ∧ Aside0 (Below w.heap.size w w'))
 case atStart => exact ⟨(0), J4, H', ⟨Nat.le_refl _⟩, ⟨J0⟩⟩
 case round =>
  clear H'
  obtain ⟨x8_1, rfl, HA, HK1, HB⟩ := hrel
  cases gk with
  | zero => exact absurd HA.out (by simp [Xa4.l0])
  | succ k1 =>
   have H := HA.out
   clear HA
   simp only [Xa4.l0] at H
   refine yd H ?_ ?_ <;> clear H <;> rintro c2b0 H
   ·obtain rfl := yo H
    go_wp2
    go_ret
    exact ⟨J1, J0⟩
   refine yj H ?_; clear H; intro c3b0 H
   refine yj H ?_; clear H; intro c4b0 H
   refine yv H ?_; clear H; rintro t150 A5 H
   refine yC H ?_ ?_ <;> clear H <;> rintro rfl H
   ·obtain rfl := yo H
    obtain ⟨ad149, e149, hx149_0, hx149_1, p149, q149⟩ := rdD HR0.out HB.out x8_1
    cases e149
    go_wp2_with (first | ((with_reducible refine Xj (N := 16) rfl ?_); refine Xcj (some 16) rfl rfl Try.func30 J17 rfl #[.agg #[.int .i64 ((Xt l0 x8_1).f0), .int .i64 ((Xt l0 x8_1).f1)]] (.tmp 11) rfl rfl J3 ?_; (with_reducible refine (Xba.calls k1 ((Xt l0 x8_1).f0) ((Xt l0 x8_1).f1) true _ A5.out).mono ?_); rintro e w7 ⟨rfl, hb⟩; refine ⟨_, rfl, ?_⟩; replace HB := zq (Xe J0 hb); (try clear hb)))
    go_ret
    exact ⟨J1, J0⟩
   have H' := zq H
   clear H
   obtain ⟨ad149, e149, hx149_0, hx149_1, p149, q149⟩ := rdD HR0.out HB.out x8_1
   cases e149
   go_wp2_with (first | ((with_reducible refine Xj (N := 16) rfl ?_); refine Xcj (some 16) rfl rfl Try.func30 J17 rfl #[.agg #[.int .i64 ((Xt l0 x8_1).f0), .int .i64 ((Xt l0 x8_1).f1)]] (.tmp 11) rfl rfl J3 ?_; (with_reducible refine (Xba.calls k1 ((Xt l0 x8_1).f0) ((Xt l0 x8_1).f1) false _ A5.out).mono ?_); rintro e w8 ⟨rfl, hb⟩; refine ⟨_, rfl, ?_⟩; replace HB := zq (Xe J0 hb); (try clear hb)))
   go_roundg k1
   case measure => have := HK1.out; omega
   case rel => exact ⟨(wrap64 (x8_1 + 1)), J4, H', ⟨J84⟩, ⟨J0⟩⟩
def Xby.f (k : Nat) (l0 : List (S38)) : Option (Bool) := (Xa4.f k l0).bind fun t151 => (some (decide (t151 ≥ 0)))
theorem Xby.mono : ∀ a0 k, LeO (Xby.f k a0) (Xby.f (k + 1) a0) := by
 intro a0 k
 unfold Xby.f
 have im0 := @Xa4.mono
 exact mz3
set_option maxHeartbeats 8000000 in
set_option maxRecDepth 100000 in
theorem Xby.calls (k : Nat) (A0 : Option Addr) (c0 : Nat) (l0 : List (S38)) (r : Bool) (w : World) (hr0 : Kd.C k38 w A0 l0.length l0) (hc0 : l0.length ≤ c0) (h : Xby.f k l0 = some r) :
  Calls Try.prog 33 #[.slice A0 l0.length c0, .func (.func 30) #[] #[]] w fun e w' => e = .returned (.bool r) ∧ Below w.heap.size w w' := by
 have HR0 := zq hr0
 have HC0 := zq hc0
 clear hr0 hc0
 have HB := zq (Below.refl w.heap.size w)
 unfold Xby.f at h
 have H := h
 clear h
 refine yv H ?_; clear H; rintro t151 A2 H
 obtain rfl := yo H
 go_enter Try.func33, Try.ntmps33
 go_wp2_with (first | ((with_reducible refine Xi (f := 57) rfl ?_); refine gL 7 Try.func57 #[.slice A0 l0.length c0, .func (.func 30) #[] #[]] (Xa4.calls k _ _ l0 t151 _ (zc HR0.out) HC0.out A2.out) ?_; rintro e w3 ⟨rfl, hb⟩; refine ⟨_, rfl, ?_⟩; replace HB := zq (Xe J0 hb); (try clear hb)))
 go_ret
 exact ⟨J1, J0⟩
def Xae.f (l0 : List Int) : Option (List Int) := (some (([] : List Int) : List Int)).bind fun y152 => (if y152.length + l0.length < 17592186044416 then (some (y152 ++ l0)) else (none))
set_option maxHeartbeats 8000000 in
set_option maxRecDepth 100000 in
theorem Xae.calls (A0 : Option Addr) (c0 : Nat) (l0 : List Int) (r : List Int) (w : World) (hr0 : Kd.C (Kd.int .i64) w A0 l0.length l0) (hc0 : l0.length ≤ c0) (h : Xae.f l0 = some r) :
  Calls Try.prog 34 #[.slice A0 l0.length c0] w fun e w' => ∃ v0_ : Value, e = .returned (v0_) ∧ Kd.R (Kd.int .i64) 3 w' w.heap.size (fun _ => True) v0_ r ∧ Below w.heap.size w w' := by
 cases A0 with
 | none =>
  obtain rfl : l0 = [] := by
   cases l0 with
   | nil => rfl
   | cons x_ y_ =>
    obtain ⟨ad_, c_, e_, _⟩ := bH hr0 0 0 J29 (by rw [List.length_cons]; omega)
    exact absurd e_ J83
  have hn_ : ∀ W : World, (binOp .eql 23 (.slice none 0 c0) (.slice none 0 0)).run Try.prog W = .ok (.bool true) W := fun W => Lib.run_eql_slice_nil W 23 3 none _ c0 0 0 Try.underlying23
  rw [show ([] : List Int).length = 0 from rfl]
  go_enter Try.func34, Try.ntmps34
  go_wp2
  go_ret
  obtain rfl : r = [] := by simpa [Xae.f] using h.symm
  exact ⟨_, rfl, bw _ _ _ _ _, Below.refl _ _⟩
 | some a0_ =>
  have hn_ : ∀ W : World, (binOp .eql 23 (.slice (some a0_) l0.length c0) (.slice none 0 0)).run Try.prog W = .ok (.bool false) W := fun W => Lib.run_eql_slice_nil W 23 3 (some a0_) _ c0 0 0 Try.underlying23
  have HR0 := zq hr0
  have HC0 := zq hc0
  clear hr0 hc0
  have HB := zq (Below.refl w.heap.size w)
  unfold Xae.f at h
  have H := h
  clear h
  refine yl H ?_; clear H; rintro y152 Ny152 H
  refine yu H ?_ ?_ <;> clear H <;> rintro c2 H
  ·have LMc2 := zq c2
   clear c2
   refine yS H ?_; clear H; rintro y155 Ny155 H
   obtain rfl := yo H
   go_enter Try.func34, Try.ntmps34
   go_wp2_with (first | ((with_reducible refine Xj (N := 5) rfl ?_); refine lwR (Kd.int .i64) 3 5 (xs := ([] : List Int)) [] Ny152 (Reps.none _ _) ?_; intro v153 w3 ho4 hb; have HO154 := zq (ag ho4 (Xc J0)); replace HB := zq (Xe J0 hb); clear hb ho4) | ((with_reducible refine Xa0 (b := .append) (xs := #[.tmp 5, .tmp 6]) rfl ?_); at_builtin; refine aI (Kd.int .i64) (w0 := w) w.heap.size rfl (.tmp 5) (.tmp 6) 23 3 (.int .i64 0) 8 rfl Try.underlying23 Xcm rfl J14 J29 v153 y152 l0 _ _ _ (fun _ => True) (fun _ => False) rfl rfl ?aO ?aR (fun _ _ h => h) (fun _ h => h.elim) ?aF ?aB ?aS ?aL ?_; (case aR => repeat (first | exact (ac HR0.out HB.out) | (with_reducible refine Kd.C_alloc ?_ _) | (with_reducible refine au ?_ _) | (with_reducible refine Kd.C_drew ?_))); (case aB => exact J0); (case aF => exact (fun _ _ => trivial)); (case aO => exact (zr HO154.out)); (case aS => exact (Xc J0)); (case aL => have := LMc2.out; omega); intro v156 w5 ho hb hg hat; rw [← Ny155.out] at ho; replace HB := zq (hb); have HO157 := zq (ho); clear HO154; clear ho hb hg hat))
   go_ret
   exact ⟨_, J1, by (with_reducible repeat (first | apply Kd.R_alloc | apply ai | apply ak)); exact HO157.out, J0⟩
  ·exact absurd H J83
mutual
def Xn.j0 : Nat → Bool → Int → Int → Option (Int × Bool)
 | 0, _, _, _ => none
 | k + 1, x17, x159000, x159001 => if x17 = true then (some (0, false)) else (Xn.l0 k x159000 x159001 0)
def Xn.l0 : Nat → Int → Int → Int → Option (Int × Bool)
 | 0, _, _, _ => none
 | k + 1, x4, x21, x22 => if x22 < x21 then (if (wrap64 (Int.tdiv (wrap64 (x4 * 10)) 10)) = x4 then (Xn.l0 k (wrap64 (x4 * 10)) x21 (wrap64 (x22 + 1))) else (some (0, false))) else (some (x4, true))
end
def Xn.f (k : Nat) (a0_0 : Int) (a0_1 : Int) : Option (Int × Bool) := (Xao.f k a0_0 a0_1).bind fun t159 => (if t159 = true then (if a0_1 < 0 then (Xn.j0 k true a0_0 a0_1) else (Xn.j0 k (decide (a0_1 > 18)) a0_0 a0_1)) else (Xn.j0 k true a0_0 a0_1))
theorem Xn.mono_l : ∀ k, (∀ y0 y1 y2, LeO (Xn.j0 k y0 y1 y2) (Xn.j0 (k + 1) y0 y1 y2)) ∧ (∀ y0 y1 y2, LeO (Xn.l0 k y0 y1 y2) (Xn.l0 (k + 1) y0 y1 y2))
 | 0 => ⟨fun _ _ _ r h => by simp [Xn.j0] at h, fun _ _ _ r h => by simp [Xn.l0] at h⟩
 | k + 1 => by
  obtain ⟨ih0, ih1⟩ := Xn.mono_l k
  refine ⟨?_, ?_⟩
  ·intro y0 y1 y2
   unfold Xn.j0
   have im0 := @Xao.mono
   exact mz3
  ·intro y0 y1 y2
   unfold Xn.l0
   have im0 := @Xao.mono
   exact mz3
theorem Xn.mono : ∀ a0 a1 k, LeO (Xn.f k a0 a1) (Xn.f (k + 1) a0 a1) := by
 intro a0 a1 k
 obtain ⟨ih0, ih1⟩ := Xn.mono_l k
 unfold Xn.f
 have im0 := @Xao.mono
 exact mz3
set_option maxHeartbeats 8000000 in
set_option maxRecDepth 100000 in
theorem Xn.calls (k : Nat) (a0_0 : Int) (a0_1 : Int) (r1 : Int) (r2 : Bool) (w : World) (h : Xn.f k a0_0 a0_1 = some (r1, r2)) :
  Calls Try.prog 58 #[.agg #[.int .i64 a0_0, .int .i64 a0_1]] w fun e w' => e = .returned (.tuple #[.int .i64 r1, .bool r2]) ∧ Below w.heap.size w w' := by
 have hu38 := Try.underlying38
 have HB := zq (Below.refl w.heap.size w)
 unfold Xn.f at h
 have H := h
 clear h
 have HC2 := zq H
 clear H
 go_enter Try.func58, Try.ntmps58
 go_upto_region 1 with (first | ((with_reducible refine Xj (N := 1) rfl ?_); refine bxw 1 38 #[.int .i64 a0_0, .int .i64 a0_1] ?_; intro gb158 hg w3 hbox hb; have BK158 := zq (hbox); have GE158 := zq ((J22 : w.heap.size ≤ gb158)); replace HB := zq (Xe J0 hb); clear hb hbox hg))
 (try simp only [Act.put, List.setIfInBounds_toArray, List.set_cons_zero, List.set_cons_succ])
 go_cut [17] (fun v17 wc => ∃ (kq : Nat) (x17_1 : Bool), v17 = .bool x17_1 ∧ Aside0 (Xn.j0 kq x17_1 a0_0 a0_1 = some (r1, r2)) ∧ Aside0 (kq ≤ k) ∧ Aside0 (wc.heap[gb158]? = some (.cells #[.int .i64 a0_0, .int .i64 a0_1] 38 (0, 0))) ∧ Aside0 (Below w.heap.size w wc))
 case first =>
  have H := HC2.out
  clear HC2
  refine yv H ?_; clear H; rintro t159 A4 H
  refine yB H ?_ ?_ <;> clear H <;> rintro rfl H
  ·have H' := zq H
   clear H
   have Z13 := cz2 BK158.out
   go_wp2_with (first | ((with_reducible refine Xi (f := 31) rfl ?_); refine gL 6 Try.func31 #[.agg #[.int .i64 a0_0, .int .i64 a0_1]] (Xao.calls k a0_0 a0_1 false _ A4.out) ?_; rintro e w14 ⟨rfl, hb⟩; refine ⟨_, rfl, ?_⟩; replace BK158 := zq (Xg (zk BK158.out) hb); replace HB := zq (Xe (zs1 GE158.out) hb); (try clear hb)))
   go_meet
   case rel => exact ⟨_, (true), J4, H', ⟨J32⟩, ⟨J76⟩, ⟨J31⟩⟩
  refine yd H ?_ ?_ <;> clear H <;> rintro c6b0 H
  ·(first | rw [c6b0] | (simp only [Xan, Xaq]; rw [c6b0]) | skip)
   have H' := zq H
   clear H
   have Z10 := cz2 BK158.out
   go_wp2_with (first | ((with_reducible refine Xi (f := 31) rfl ?_); refine gL 6 Try.func31 #[.agg #[.int .i64 a0_0, .int .i64 a0_1]] (Xao.calls k a0_0 a0_1 true _ A4.out) ?_; rintro e w11 ⟨rfl, hb⟩; refine ⟨_, rfl, ?_⟩; replace BK158 := zq (Xg (zk BK158.out) hb); replace HB := zq (Xe (zs1 GE158.out) hb); (try clear hb); have Z12 := cz2 BK158.out))
   go_meet
   case rel => exact ⟨_, (decide (a0_1 > 18)), J4, H', ⟨J32⟩, ⟨J76⟩, ⟨J31⟩⟩
  (first | rw [c6b0] | (simp only [Xan, Xaq]; rw [c6b0]) | skip)
  have H' := zq H
  clear H
  have Z7 := cz2 BK158.out
  go_wp2_with (first | ((with_reducible refine Xi (f := 31) rfl ?_); refine gL 6 Try.func31 #[.agg #[.int .i64 a0_0, .int .i64 a0_1]] (Xao.calls k a0_0 a0_1 true _ A4.out) ?_; rintro e w8 ⟨rfl, hb⟩; refine ⟨_, rfl, ?_⟩; replace BK158 := zq (Xg (zk BK158.out) hb); replace HB := zq (Xe (zs1 GE158.out) hb); (try clear hb); have Z9 := cz2 BK158.out))
  go_meet
  case rel => exact ⟨_, (true), J4, H', ⟨J32⟩, ⟨J76⟩, ⟨J31⟩⟩
 case rest =>
  clear HC2
  obtain ⟨kq, x17_1, rfl, HA, HJ1, BK158, HB⟩ := hcut
  cases kq with
  | zero => exact absurd HA.out (by simp [Xn.j0])
  | succ kj1 =>
   have H := HA.out
   clear HA
   simp only [Xn.j0] at H
   refine yC H ?_ ?_ <;> clear H <;> rintro rfl H
   ·obtain ⟨rfl, rfl⟩ := yp2 H
    go_wp2
    go_ret2
    exact ⟨J1, J31⟩
   have H' := zq H
   clear H
   have Z16 := cz2 BK158.out
   go_wp2
   go_loopg [4, 22] kj1 (fun kq v4 v22 w' => ∃ (x4_2 : Int) (x22_2 : Int), v4 = .int .i64 x4_2 ∧ v22 = .int .i64 x22_2 ∧ Aside0 (Xn.l0 kq x4_2 a0_1 x22_2 = some (r1, r2)) ∧ Aside0 (kq ≤ kj1) ∧ Aside0 (w'.heap[gb158]? = some (.cells #[.int .i64 a0_0, .int .i64 a0_1] 38 (0, 0))) ∧ Aside0 (Below w.heap.size w w'))
   case atStart => exact ⟨(a0_0), (0), J4, J4, H', ⟨Nat.le_refl _⟩, ⟨J76⟩, ⟨J31⟩⟩
   case round =>
    clear H'
    try clear Z16
    obtain ⟨x4_2, x22_2, rfl, rfl, HA, HK2, BK158, HB⟩ := hrel
    cases gk with
    | zero => exact absurd HA.out (by simp [Xn.l0])
    | succ k2 =>
     have H := HA.out
     clear HA
     simp only [Xn.l0] at H
     refine yd H ?_ ?_ <;> clear H <;> rintro c17b0 H
     ·obtain ⟨rfl, rfl⟩ := yp2 H
      go_wp2
      go_ret2
      exact ⟨J1, J31⟩
     refine yE H ?_ ?_ <;> clear H <;> rintro ⟨c18b0, c18b1, c18⟩ H
     ·obtain ⟨rfl, rfl⟩ := yp2 H
      go_wp2
      go_ret2
      exact ⟨J1, J31⟩
     clear c18
     have H' := zq H
     clear H
     go_wp2
     go_roundg k2
     case measure => have := HJ1.out; have := HK2.out; omega
     case rel => exact ⟨(wrap64 (x4_2 * 10)), (wrap64 (x22_2 + 1)), J4, J4, H', ⟨J144⟩, ⟨J76⟩, ⟨J31⟩⟩
def Xat.l0 : Nat → List Int → List (S38) → Int → Int → Option (List Int × Bool)
 | 0, _, _, _, _ => none
 | k + 1, x4, x9, x10, x11 => if x11 < x10 then (if 0 ≤ x11 then (if x11 < (x9.length : Int) then ((Xn.f k ((Xt x9 x11).f0) ((Xt x9 x11).f1)).bind fun bt162 => (if bt162.2 = true then (if x4.length < 17592186044416 then (Xat.l0 k (x4 ++ [bt162.1]) x9 x10 (wrap64 (x11 + 1))) else (none)) else (some (([] : List Int), false)))) else (none)) else (none)) else (some (x4, true))
def Xat.f (k : Nat) (l0 : List (S38)) : Option (List Int × Bool) := Xat.l0 k ([] : List Int) l0 (l0.length : Int) 0
theorem Xat.mono_l : ∀ k, (∀ y0 y1 y2 y3, LeO (Xat.l0 k y0 y1 y2 y3) (Xat.l0 (k + 1) y0 y1 y2 y3))
 | 0 => fun _ _ _ _ r h => by simp [Xat.l0] at h
 | k + 1 => by
  have ih0 := Xat.mono_l k
  ·intro y0 y1 y2 y3
   unfold Xat.l0
   have im0 := @Xn.mono
   exact mz3
theorem Xat.mono : ∀ a0 k, LeO (Xat.f k a0) (Xat.f (k + 1) a0) := by
 intro a0 k
 have ih0 := Xat.mono_l k
 unfold Xat.f
 have im0 := @Xn.mono
 exact mz3
set_option maxHeartbeats 8000000 in
set_option maxRecDepth 100000 in
theorem Xat.calls (k : Nat) (A0 : Option Addr) (c0 : Nat) (l0 : List (S38)) (r1 : List Int) (r2 : Bool) (w : World) (hr0 : Kd.C k38 w A0 l0.length l0) (hc0 : l0.length ≤ c0) (h : Xat.f k l0 = some (r1, r2)) :
  Calls Try.prog 35 #[.slice A0 l0.length c0] w fun e w' => ∃ v0_ : Value, e = .returned (.tuple #[v0_, .bool r2]) ∧ Kd.R (Kd.int .i64) 3 w' w.heap.size (fun _ => True) v0_ r1 ∧ Below w.heap.size w w' := by
 have hu38 := Try.underlying38
 have HR0 := zq hr0
 have HC0 := zq hc0
 clear hr0 hc0
 have HB := zq (Below.refl w.heap.size w)
 unfold Xat.f at h
 have H := h
 clear h
 have H' := zq H
 clear H
 go_enter Try.func35, Try.ntmps35
 go_wp2
 go_loopg [4, 11] k (fun kq v4 v11 w' => ∃ (x4_1 : List Int) (x11_1 : Int), v11 = .int .i64 x11_1 ∧ Aside0 (Xat.l0 kq x4_1 l0 (l0.length : Int) x11_1 = some (r1, r2)) ∧ Aside0 (kq ≤ k) ∧ Aside0 (Kd.R (Kd.int .i64) 3 w' w.heap.size (fun _ => True) v4 x4_1) ∧ Aside0 (Below w.heap.size w w'))
 case atStart => exact ⟨(([] : List Int)), (0), J4, H', ⟨Nat.le_refl _⟩, ⟨J8⟩, ⟨J0⟩⟩
 case round =>
  clear H'
  obtain ⟨x4_1, x11_1, rfl, HA, HK1, HO_4, HB⟩ := hrel
  cases gk with
  | zero => exact absurd HA.out (by simp [Xat.l0])
  | succ k1 =>
   have H := HA.out
   clear HA
   simp only [Xat.l0] at H
   refine yd H ?_ ?_ <;> clear H <;> rintro c2b0 H
   ·obtain ⟨rfl, rfl⟩ := yp2 H
    go_wp2
    go_ret2
    exact ⟨_, J1, by (with_reducible repeat (first | apply Kd.R_alloc | apply ai | apply ak)); exact HO_4.out, J0⟩
   refine yj H ?_; clear H; intro c3b0 H
   refine yj H ?_; clear H; intro c4b0 H
   refine yv H ?_; clear H; rintro ⟨t162, t163⟩ A5 H
   dsimp only at H
   refine yB H ?_ ?_ <;> clear H <;> rintro rfl H
   ·obtain ⟨rfl, rfl⟩ := yp2 H
    obtain ⟨ad160, e160, hx160_0, hx160_1, p160, q160⟩ := rdD HR0.out HB.out x11_1
    cases e160
    go_wp2_with (first | ((with_reducible refine Xj (N := 6) rfl ?_); refine bxw 6 38 #[.int .i64 0, .int .i64 0] ?_; intro gb161 hg w12 hbox hb; replace HO_4 := zq (ab (zr HO_4.out) hb); have BK161 := zq (hbox); have GE161 := zq ((J22 : w.heap.size ≤ gb161)); replace HB := zq (Xe J0 hb); clear hb hbox hg; have Z13 := cz2 BK161.out) | ((with_reducible refine Xi (f := 58) rfl ?_); refine gL 17 Try.func58 #[.agg #[.int .i64 ((Xt l0 x11_1).f0), .int .i64 ((Xt l0 x11_1).f1)]] (Xn.calls k1 ((Xt l0 x11_1).f0) ((Xt l0 x11_1).f1) t162 false _ A5.out) ?_; rintro e w14 ⟨rfl, hb⟩; refine ⟨_, rfl, ?_⟩; replace HO_4 := zq (ab J161 hb); replace HB := zq (Xe (zs1 GE161.out) hb); (try clear hb); (try clear hk)))
    go_ret2
    exact ⟨_, J1, J8, J139⟩
   refine yi H ?_; clear H; intro c7 H
   have LMc7 := zq c7
   clear c7
   obtain ⟨y164, hy164⟩ : ∃ y_ : List Int, y_ = (x4_1 ++ [t162]) := ⟨_, rfl⟩
   replace H : (Xat.l0 k1 y164 l0 (l0.length : Int) (wrap64 (x11_1 + 1))) = some (r1, r2) := by first | (rw [hy164]; with_reducible exact H) | (have H2_ := (Option.bind_some _ _).symm.trans H; rw [hy164]; with_reducible exact H2_) | (have H2_ := (Option.bind_some _ _).symm.trans H; with_reducible exact H2_) | with_reducible exact H | (rw [hy164]; exact H) | exact H
   have Ny164 := zq hy164
   clear hy164
   have H' := zq H
   clear H
   obtain ⟨ad160, e160, hx160_0, hx160_1, p160, q160⟩ := rdD HR0.out HB.out x11_1
   cases e160
   go_wp2_with (first | ((with_reducible refine Xj (N := 6) rfl ?_); refine bxw 6 38 #[.int .i64 0, .int .i64 0] ?_; intro gb161 hg w8 hbox hb; replace HO_4 := zq (ab (zr HO_4.out) hb); have BK161 := zq (hbox); have GE161 := zq ((J22 : w.heap.size ≤ gb161)); replace HB := zq (Xe J0 hb); clear hb hbox hg; have Z9 := cz2 BK161.out) | ((with_reducible refine Xi (f := 58) rfl ?_); refine gL 17 Try.func58 #[.agg #[.int .i64 ((Xt l0 x11_1).f0), .int .i64 ((Xt l0 x11_1).f1)]] (Xn.calls k1 ((Xt l0 x11_1).f0) ((Xt l0 x11_1).f1) t162 true _ A5.out) ?_; rintro e w10 ⟨rfl, hb⟩; refine ⟨_, rfl, ?_⟩; replace HO_4 := zq (ab J161 hb); replace BK161 := zq (Xg (g := gb161) (o := .cells #[.int .i64 ((Xt l0 x11_1).f0), .int .i64 ((Xt l0 x11_1).f1)] 38 (0, 0)) (by (with_reducible repeat (first | refine Xd ?_ _ | refine Xf ?_ | refine Xb ?_ _)); refine Xk (cs := #[.int .i64 ((Xt l0 x11_1).f0), .int .i64 0]) ?_ 1 _ rfl; (with_reducible repeat (first | refine Xd ?_ _ | refine Xf ?_ | refine Xb ?_ _)); refine Xk (cs := #[.int .i64 0, .int .i64 0]) ?_ 0 _ rfl; (with_reducible repeat (first | refine Xd ?_ _ | refine Xf ?_ | refine Xb ?_ _)); exact BK161.out) hb); replace HB := zq (Xe (zs1 GE161.out) hb); (try clear hb); (try clear hk)) | ((with_reducible refine Xa0 (b := .append) (xs := #[.tmp 22, .tmp 24]) rfl ?_); at_builtin; refine br (Kd.int .i64) (w0 := w) w.heap.size rfl (.tmp 22) (.tmp 24) 23 3 (.int .i64 0) 8 rfl Try.underlying23 Xcm rfl J14 J29 u4 x4_1 t162 [.int .i64 t162] (fun _ => True) (fun _ => False) rfl rfl ?aP (fun _ hk => hk.elim) ?aF ?aO ?aB ?aS ?aL ?_; (case aP => exact rfl); (case aB => exact (zs1 GE161.out)); (case aF => exact (fun _ _ => trivial)); (case aO => exact (zr HO_4.out)); (case aS => exact (Xc (zs1 GE161.out))); (case aL => have := LMc7.out; omega); intro v165 w11 ho hb hg hat; rw [← Ny164.out] at ho; replace BK161 := zq (Xa9 (g := gb161) (o := .cells #[.int .i64 ((Xt l0 x11_1).f0), .int .i64 ((Xt l0 x11_1).f1)] 38 (0, 0)) (zk BK161.out) hg (bk HO_4.out BK161.out J14)); replace HB := zq (hb); have HO166 := zq (ho); clear HO_4; clear ho hb hg hat))
   go_roundg k1
   case measure => have := HK1.out; omega
   case rel => exact ⟨(y164), (wrap64 (x11_1 + 1)), J4, H', ⟨J84⟩, ⟨by (with_reducible repeat (first | apply Kd.R_alloc | apply ai | apply ak)); exact HO166.out⟩, ⟨J139⟩⟩
def Xbv.f (a0 : Int) : Option (Bool) := some ((Go.bits .andNot .i64 a0 1) != 0)
set_option maxHeartbeats 8000000 in
set_option maxRecDepth 100000 in
theorem Xbv.calls (a0 : Int) (r : Bool) (w : World) (h : Xbv.f a0 = some r) :
  Calls Try.prog 36 #[.int .i64 a0] w fun e w' => e = .returned (.bool r) ∧ Drawn0 w w' := by
 unfold Xbv.f at h
 have H := h
 clear h
 obtain rfl := yo H
 go_enter Try.func36, Try.ntmps36
 go_wp2
 go_ret
 exact ⟨J4, J9⟩
def Xb7.f (l0 : List (S38)) : Option ((List (S38))) := (some (([] : List (S38)) : List (S38))).bind fun y167 => (if y167.length + l0.length < 8796093022208 then (some (y167 ++ l0)) else (none))
set_option maxHeartbeats 8000000 in
set_option maxRecDepth 100000 in
theorem Xb7.calls (A0 : Option Addr) (c0 : Nat) (l0 : List (S38)) (r : List (S38)) (w : World) (hr0 : Kd.C k38 w A0 l0.length l0) (hc0 : l0.length ≤ c0) (h : Xb7.f l0 = some r) :
  Calls Try.prog 37 #[.slice A0 l0.length c0] w fun e w' => ∃ v0_ : Value, e = .returned (v0_) ∧ Kd.R k38 38 w' w.heap.size (fun _ => True) v0_ r ∧ Below w.heap.size w w' := by
 cases A0 with
 | none =>
  obtain rfl : l0 = [] := by
   cases l0 with
   | nil => rfl
   | cons x_ y_ =>
    obtain ⟨ad_, c_, e_, _⟩ := bH hr0 z38 0 J29 (by rw [List.length_cons]; omega)
    exact absurd e_ J83
  have hn_ : ∀ W : World, (binOp .eql 24 (.slice none 0 c0) (.slice none 0 0)).run Try.prog W = .ok (.bool true) W := fun W => Lib.run_eql_slice_nil W 24 38 none _ c0 0 0 Try.underlying24
  rw [show ([] : List (S38)).length = 0 from rfl]
  go_enter Try.func37, Try.ntmps37
  go_wp2
  go_ret
  obtain rfl : r = [] := by simpa [Xb7.f] using h.symm
  exact ⟨_, rfl, bw _ _ _ _ _, Below.refl _ _⟩
 | some a0_ =>
  have hn_ : ∀ W : World, (binOp .eql 24 (.slice (some a0_) l0.length c0) (.slice none 0 0)).run Try.prog W = .ok (.bool false) W := fun W => Lib.run_eql_slice_nil W 24 38 (some a0_) _ c0 0 0 Try.underlying24
  have HR0 := zq hr0
  have HC0 := zq hc0
  clear hr0 hc0
  have HB := zq (Below.refl w.heap.size w)
  unfold Xb7.f at h
  have H := h
  clear h
  refine yl H ?_; clear H; rintro y167 Ny167 H
  refine yu H ?_ ?_ <;> clear H <;> rintro c2 H
  ·have LMc2 := zq c2
   clear c2
   refine yS H ?_; clear H; rintro y170 Ny170 H
   obtain rfl := yo H
   go_enter Try.func37, Try.ntmps37
   go_wp2_with (first | ((with_reducible refine Xj (N := 5) rfl ?_); refine lwR k38 38 5 (xs := ([] : List (S38))) [] Ny167 (Reps.none _ _) ?_; intro v168 w3 ho4 hb; have HO169 := zq (ag ho4 (Xc J0)); replace HB := zq (Xe J0 hb); clear hb ho4) | ((with_reducible refine Xa0 (b := .append) (xs := #[.tmp 5, .tmp 6]) rfl ?_); at_builtin; refine aI k38 (w0 := w) w.heap.size rfl (.tmp 5) (.tmp 6) 24 38 (.agg #[(.int .i64 0), (.int .i64 0)]) 16 rfl Try.underlying24 Xdo rfl J14 J29 v168 y167 l0 _ _ _ (fun _ => True) (fun _ => False) rfl rfl ?aO ?aR (fun _ _ h => h) (fun _ h => h.elim) ?aF ?aB ?aS ?aL ?_; (case aR => repeat (first | exact (ac HR0.out HB.out) | (with_reducible refine Kd.C_alloc ?_ _) | (with_reducible refine au ?_ _) | (with_reducible refine Kd.C_drew ?_))); (case aB => exact J0); (case aF => exact (fun _ _ => trivial)); (case aO => exact (zr HO169.out)); (case aS => exact (Xc J0)); (case aL => have := LMc2.out; omega); intro v171 w5 ho hb hg hat; rw [← Ny170.out] at ho; replace HB := zq (hb); have HO172 := zq (ho); clear HO169; clear ho hb hg hat))
   go_ret
   exact ⟨_, J1, by (with_reducible repeat (first | apply Kd.R_alloc | apply ai | apply ak)); exact HO172.out, J0⟩
  ·exact absurd H J83
end Go.Proofs.Ytecdklheppcihaa.HTightTells
