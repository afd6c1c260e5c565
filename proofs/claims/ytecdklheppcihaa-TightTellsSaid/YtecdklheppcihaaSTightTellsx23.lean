/- Words and walks, shortened by a program: what this claim's functions answer, and that other memory stays. -/
import Derived.Test.YtecdklheppcihaaSTightTellsx0
import Derived.Test.YtecdklheppcihaaSTightTellsx7
import Derived.Test.YtecdklheppcihaaSTightTellsx11
import Derived.Test.YtecdklheppcihaaSTightTellsx12
import Derived.Test.YtecdklheppcihaaSTightTellsx13
import Derived.Test.YtecdklheppcihaaSTightTellsx14
import Derived.Test.YtecdklheppcihaaSTightTellsx15
import Derived.Test.YtecdklheppcihaaSTightTellsx18
import Derived.Test.YtecdklheppcihaaSTightTellsx19
import Derived.Test.YtecdklheppcihaaSTightTellsx20
import Derived.Test.YtecdklheppcihaaSTightTellsx22
namespace Go.Proofs.Ytecdklheppcihaa.HTightTells
open Go.RowKit Go.Proofs.YtecdklheppcihaaW.PrintWords Go.Proofs.YtecdklheppcihaaW.PrintWords.Kd Go.Proofs.YtecdklheppcihaaW.PrintLast Go.Proofs.YtecdklheppcihaaW.PrintMore Go.Proofs.YtecdklheppcihaaW.PrintMore.Kd
attribute [local go_sem] Xbp Xbn Xbu Xbt Xbg Xbf Xbo Xbm
set_option linter.unusedVariables false
set_option linter.unusedSimpArgs false
def Xbk.f (k : Nat) (l0 : List (S30)) : Option ((List (S30)) × Bool) := (Xa7.f k l0).bind fun t802 => (if t802 = true then ((deckleref11_form.f k l0).bind fun t803 => (some (t803, true))) else (some (([] : List (S30)), false)))
set_option maxHeartbeats 8000000 in
set_option maxRecDepth 100000 in
theorem Xbk.calls (k : Nat) (A0 : Option Addr) (c0 : Nat) (l0 : List (S30)) (r1 : List (S30)) (r2 : Bool) (w : World) (hr0 : Kd.C k30 w A0 l0.length l0) (hc0 : l0.length ≤ c0) (h : Xbk.f k l0 = some (r1, r2)) :
  Calls Try.prog 12 #[.slice A0 l0.length c0] w fun e w' => ∃ v0_ : Value, e = .returned (.tuple #[v0_, .bool r2]) ∧ Kd.N k30 30 w' w.heap.size (fun k_ => (w.heap.size ≤ k_)) v0_ r1 ∧ Below w.heap.size w w' := by
 have HR0 := zq hr0
 have HC0 := zq hc0
 clear hr0 hc0
 have HB := zq (Below.refl w.heap.size w)
 unfold Xbk.f at h
 have H := h
 clear h
 refine yv H ?_; clear H; rintro t802 A2 H
 refine yB H ?_ ?_ <;> clear H <;> rintro rfl H
 ·obtain ⟨rfl, rfl⟩ := yp2 H
  go_enter Try.func12, Try.ntmps12
  go_wp2_with (first | ((with_reducible refine Xi (f := 28) rfl ?_); refine gL 6 Try.func28 #[.slice A0 l0.length c0] (Xa7.calls k _ _ l0 false _ (zc HR0.out) HC0.out A2.out) ?_; rintro e w7 ⟨rfl, hb⟩; refine ⟨_, rfl, ?_⟩; replace HB := zq (Xe J0 hb); (try clear hb)))
  go_ret2
  exact ⟨_, J1, J106, J0⟩
 refine yv H ?_; clear H; rintro t803 A4 H
 obtain ⟨rfl, rfl⟩ := yp2 H
 go_enter Try.func12, Try.ntmps12
 go_wp2_with (first | ((with_reducible refine Xi (f := 28) rfl ?_); refine gL 6 Try.func28 #[.slice A0 l0.length c0] (Xa7.calls k _ _ l0 true _ (zc HR0.out) HC0.out A2.out) ?_; rintro e w5 ⟨rfl, hb⟩; refine ⟨_, rfl, ?_⟩; replace HB := zq (Xe J0 hb); (try clear hb)) | ((with_reducible refine Xi (f := 29) rfl ?_); refine gL 10 Try.func29 #[.slice A0 l0.length c0] (deckleref11_form.calls k _ _ l0 t803 _ (zc (ac HR0.out HB.out)) HC0.out A4.out) ?_; rintro e w6 ⟨v804, rfl, ho0, hb⟩; refine ⟨_, rfl, ?_⟩; have HO805 := zq (aH (ap (ok' := fun k_ => (w.heap.size ≤ k_)) ho0 (fun k_ hk_ => (Nat.le_trans (Xc J0) hk_))) (Xc J0)); replace HB := zq (Xe J0 hb); (try clear hb); (try clear ho0)))
 go_ret2
 exact ⟨_, J1, by (with_reducible repeat (first | apply Kd.N_alloc | apply Kd.N_drewN | apply aC)); exact HO805.out, J0⟩
def Xbs.f (k : Nat) (l0 : List (S30)) : Option (Bool) := (Xbk.f k l0).bind fun bt806 => (if bt806.2 = true then ((deckleref10_Same.f k l0 bt806.1).bind fun t810 => (some t810)) else (some false))
set_option maxHeartbeats 8000000 in
set_option maxRecDepth 100000 in
theorem Xbs.calls (k : Nat) (A0 : Option Addr) (c0 : Nat) (l0 : List (S30)) (r : Bool) (w : World) (hr0 : Kd.C k30 w A0 l0.length l0) (hc0 : l0.length ≤ c0) (h : Xbs.f k l0 = some r) :
  Calls Try.prog 19 #[.slice A0 l0.length c0] w fun e w' => e = .returned (.bool r) ∧ Below w.heap.size w w' := by
 have HR0 := zq hr0
 have HC0 := zq hc0
 clear hr0 hc0
 have HB := zq (Below.refl w.heap.size w)
 unfold Xbs.f at h
 have H := h
 clear h
 refine yv H ?_; clear H; rintro ⟨t806, t809⟩ A2 H
 dsimp only at H
 refine yB H ?_ ?_ <;> clear H <;> rintro rfl H
 ·obtain rfl := yo H
  go_enter Try.func19, Try.ntmps19
  go_wp2_with (first | ((with_reducible refine Xi (f := 12) rfl ?_); refine gL 7 Try.func12 #[.slice A0 l0.length c0] (Xbk.calls k _ _ l0 t806 false _ (zc HR0.out) HC0.out A2.out) ?_; rintro e w8 ⟨v807, rfl, ho0, hb⟩; refine ⟨_, rfl, ?_⟩; replace HB := zq (Xe J0 hb); (try clear hb); (try clear ho0)))
  go_ret
  exact ⟨J1, J0⟩
 refine yv H ?_; clear H; rintro t810 A4 H
 obtain rfl := yo H
 go_enter Try.func19, Try.ntmps19
 go_wp2_with (first | ((with_reducible refine Xi (f := 12) rfl ?_); refine gL 7 Try.func12 #[.slice A0 l0.length c0] (Xbk.calls k _ _ l0 t806 true _ (zc HR0.out) HC0.out A2.out) ?_; rintro e w5 ⟨v807, rfl, ho0, hb⟩; refine ⟨_, rfl, ?_⟩; have HO808 := zq (aH (ap (ok' := fun k_ => True) ho0 (fun k_ hk_ => trivial)) (Xc J0)); replace HB := zq (Xe J0 hb); (try clear hb); (try clear ho0); obtain ⟨Ao6, co6, eo6⟩ := aJ HO808.out; subst eo6) | (go_at_call 16; (with_reducible refine (deckleref10_Same.calls k _ _ l0 _ _ t806 t810 _ ?side1 ?side2 ?side3 ?side4 A4.out).mono ?_); (case side1 => exact zc (ac HR0.out HB.out)); (case side2 => exact HC0.out); (case side3 => exact zc ((ar HO808.out).2.2)); (case side4 => exact (ar HO808.out).2.1); rintro e w7 ⟨rfl, hb⟩; replace HB := zq (Xe J0 hb); (try clear hb)))
 go_ret
 exact ⟨J1, J0⟩
def Xal.j0 : Nat → List (S30) → List Int → List (S38) → Bool → Bool → Option (Bool)
 | 0, _, _, _, _, _ => none
 | k + 1, x0, x1, x2, x7, x37 => if x37 = true then (some x7) else ((Xav.f k x0).bind fun bt813 => ((Xbk.f k x0).bind fun bt817 => ((X2.f k x1 x2).bind fun bt821 => ((deckleref11_Numbers.f k x1 x2).bind fun bt833 => ((deckleref10_Copy.f k x0).bind fun t845 => ((Xav.f k x0).bind fun bt848 => (if x7 = true then ((deckleref10_Same.f k x0 t845).bind fun t852 => (if t852 = true then ((deckleref10_Same.f k bt813.1 bt817.1).bind fun t853 => (if t853 = true then (if (bt813.2 == bt817.2) = true then ((X5.f k bt821.1 bt821.2.1 bt821.2.2.1 bt821.2.2.2.1 bt833.1 bt833.2.1 bt833.2.2.1 bt833.2.2.2.1).bind fun t854 => (if t854 = true then (if (bt821.2.2.2.2 == bt833.2.2.2.2) = true then ((Xbc.f k x0).bind fun t855 => ((Xbs.f k x0).bind fun t856 => (some (t855 == t856)))) else (none)) else (none))) else (none)) else (none))) else (none))) else (none))))))))
def Xal.f (k : Nat) (l0 : List (S30)) (l1 : List Int) (l2 : List (S38)) : Option (Bool) := (decklelaw11_small.f k).bind fun t811 => ((X4.f k l0).bind fun t812 => (if t812 = true then (if (l1.length : Int) > 30 then (Xal.j0 k l0 l1 l2 t811 true) else (Xal.j0 k l0 l1 l2 t811 (decide ((l2.length : Int) > 100)))) else (Xal.j0 k l0 l1 l2 t811 true)))
def WrC (W : World) (b : Nat) (A : Option Addr) (c : List S30) : Prop := ∀ i, (h : i < c.length) → ∃ (g : Nat) (cur : Array Value) (A1 : Option Addr) (c1 : Nat) (A2 : Option Addr) (c2 : Nat), A = some ⟨g, 0, none⟩ ∧ b ≤ g ∧ W.heap[g]? = some (.cells cur 30 (0, 0)) ∧
 cur[i * 4 + 1]? = some (.slice A1 c[i].f1.length c1) ∧ cur[i * 4 + 2]? = some (.slice A2 c[i].f2.length c2) ∧ Wr3 W b A1 c[i].f1.length ∧ Wr3 W b A2 c[i].f2.length ∧ c[i].f1.length ≤ 9223372036854775807 ∧ c[i].f2.length ≤ 9223372036854775807
theorem WrC.of_N {W : World} {b base : Nat} {ok : Nat → Prop} {A : Option Addr} {n cap : Nat} {c : List S30} (h : Kd.N (kW b) 30 W base ok (.slice A n cap) c) (hb : b ≤ base) : WrC W b A c := by
 intro i hi
 obtain ⟨_, rows, hl, hR, hf⟩ := h
 obtain ⟨_, inner, ho, hr⟩ := hR
 rcases ho.2 with ⟨_, hn⟩ | ⟨g, cap2, cur, e, hg1, hg, hc, _, hs, ht⟩
 ·rw [hl] at hn; omega
 ·have hm := hr.2 i _ (List.getElem?_eq_getElem J29)
  obtain ⟨_, A1, c1, A2, c2, e1, e2, w1, w2, n1, n2⟩ := hf i _ _ (List.getElem?_eq_getElem hi) (List.getElem?_eq_getElem J29) W (fun _ _ _ => rfl)
  have key : ∀ q u, q < 4 → (rows[i]'J29)[q]? = some u → cur[i * 4 + q]? = some u := by
   intro q u hq hu
   rw [← hm.1, show (kW b).sz = 4 from rfl, show ((Kd.raw 4).sz : Nat) = 4 from rfl, List.getElem?_take, if_pos hq, List.getElem?_drop, ← ht, List.getElem?_take] at hu
   by_cases hlt : i * 4 + q < rows.length * 4
   ·rw [show ((Kd.raw (kW b).sz).sz : Nat) = 4 from rfl, if_pos hlt] at hu
    simpa using hu
   ·omega
  refine ⟨g, cur, A1, c1, A2, c2, ?_, Nat.le_trans hb hg1, hg, key 1 _ J29 e1, key 2 _ J29 e2, w1, w2, n1, n2⟩
  injection e
theorem Wr3.set {W : World} {b : Nat} {A : Option Addr} {n : Nat} (h : Wr3 W b A n) {g j t : Nat} {cur : Array Value} (hg : W.heap[g]? = some (.cells cur t (0, 0))) (u : Value) : Wr3 (W.setCell ⟨g, j, none⟩ u) b A n := by
 intro q hq
 obtain ⟨g2, cur2, e, hb, hg2, hs⟩ := h q hq
 by_cases hne : g2 = g
 ·subst hne
  rw [hg] at hg2
  injection hg2 with h1
  injection h1 with h1 h2
  subst h1; subst h2
  exact ⟨g2, _, e, hb, blk_set hg j u, by simpa using hs⟩
 ·exact ⟨g2, cur2, e, hb, (Below.heap_setCell W ⟨g, j, none⟩ u g2 hne).trans hg2, hs⟩
theorem hd_set {W : World} {g g' j : Nat} {cur cur' : Array Value} (h : W.heap[g']? = some (.cells cur' 30 (0, 0))) (hg : W.heap[g]? = some (.cells cur 3 (0, 0))) (u : Value) : (W.setCell ⟨g, j, none⟩ u).heap[g']? = some (.cells cur' 30 (0, 0)) :=
 (Below.heap_setCell W ⟨g, j, none⟩ u g' (blk_ne h hg J14)).trans h
theorem WrC.set {W : World} {b : Nat} {A : Option Addr} {c : List S30} (h : WrC W b A c) {g j : Nat} {cur : Array Value} (hg : W.heap[g]? = some (.cells cur 3 (0, 0))) (u : Value) : WrC (W.setCell ⟨g, j, none⟩ u) b A c := by
 intro i hi
 obtain ⟨g', cur', A1, c1, A2, c2, e, h0, h1, h2, h3, w1, w2, n1, n2⟩ := h i hi
 exact ⟨g', cur', A1, c1, A2, c2, e, h0, hd_set h1 hg u, h2, h3, w1.set hg u, w2.set hg u, n1, n2⟩
theorem WrC.setK {W : World} {b g : Nat} {c : List S30} (h : WrC W b (some ⟨g, 0, none⟩) c) {i : Nat} {cur : Array Value} (hg : W.heap[g]? = some (.cells cur 30 (0, 0))) (u : Value) : WrC (W.setCell ⟨g, i * 4, none⟩ u) b (some ⟨g, 0, none⟩) c := by
 intro q hq
 obtain ⟨g', cur', A1, c1, A2, c2, e, h0, h1, h2, h3, w1, w2, n1, n2⟩ := h q hq
 obtain rfl : g = g' := by injection e with e; injection e
 rw [hg] at h1
 obtain rfl : cur = cur' := by injection h1 with h1; injection h1
 refine ⟨g, _, A1, c1, A2, c2, rfl, h0, blk_set hg (i * 4) u, ?_, ?_, w1.set hg u, w2.set hg u, n1, n2⟩
 ·rw [Array.getElem?_setIfInBounds_ne J29]; exact h2
 ·rw [Array.getElem?_setIfInBounds_ne J29]; exact h3
theorem cell_lt {cur : Array Value} {j : Nat} {u : Value} (h : cur[j + 1]? = some u) : ∃ v, cur[j]? = some v := by
 have := (Array.getElem?_eq_some_iff.1 h).1
 exact ⟨_, Array.getElem?_eq_getElem J29⟩
theorem below_name {W w1 : World} (h : Below W.heap.size W w1) : ∃ WS, Aside0 (WS = W) ∧ Below WS.heap.size WS w1 := ⟨W, ⟨rfl⟩, h⟩
structure Hold77 (p : Prop) : Prop where
 out : p
theorem wrap_ix {i n : Nat} (h : i < n) (hn : n ≤ 9223372036854775807) : wrap64 ((i : Int) + 1) = ((i + 1 : Nat) : Int) := by unfold wrap64; omega
set_option maxHeartbeats 8000000 in
set_option maxRecDepth 100000 in
theorem Xal.calls (k : Nat) (A0 : Option Addr) (c0 : Nat) (l0 : List (S30)) (A1 : Option Addr) (c1 : Nat) (l1 : List Int) (A2 : Option Addr) (c2 : Nat) (l2 : List (S38)) (r : Bool) (w : World) (hr0 : Kd.C k30 w A0 l0.length l0) (hc0 : l0.length ≤ c0) (hr1 : Kd.C (Kd.int .i64) w A1 l1.length l1) (hc1 : l1.length ≤ c1) (hr2 : Kd.C k38 w A2 l2.length l2) (hc2 : l2.length ≤ c2) (h : Xal.f k l0 l1 l2 = some r) :
  Calls Try.prog 3 #[.slice A0 l0.length c0, .slice A1 l1.length c1, .slice A2 l2.length c2] w fun e w' => e = .returned (.bool r) ∧ Below w.heap.size w w' := by
 have hu30 := Try.underlying30
 have HR0 := zq hr0
 have HC0 := zq hc0
 clear hr0 hc0
 have HR1 := zq hr1
 have HC1 := zq hc1
 clear hr1 hc1
 have HR2 := zq hr2
 have HC2 := zq hc2
 clear hr2 hc2
 have HB := zq (Below.refl w.heap.size w)
 unfold Xal.f at h
 have H := h
 clear h
 refine yv H ?_; clear H; rintro t811 A4 H
 refine yv H ?_; clear H; rintro t812 A5 H
 have HC6 := zq H
 clear H
 go_enter Try.func3, Try.ntmps3
 go_upto_region 3 with (first | ((first | ((with_reducible refine Xi (f := 9) rfl ?_); refine Xbz (some 23) rfl rfl Try.func9 J17 rfl #[] rfl J3 ?_) | go_at_call 9); (with_reducible refine (decklelaw11_small.calls k  t811 _ A4.out).mono ?_); rintro e w7 ⟨rfl, hb⟩; (try refine ⟨_, rfl, ?_⟩); replace HB := zq (Xe J0 hb); (try clear hb); (try clear hb2); (try clear hi)) | ((first | ((with_reducible refine Xi (f := 10) rfl ?_); refine Xbz (some 25) rfl rfl Try.func10 J17 rfl #[.slice A0 l0.length c0] rfl J3 ?_) | go_at_call 10); (with_reducible refine (X4.calls k _ _ l0 t812 _ ?side1 ?side2 A5.out).mono ?_); (case side1 => exact zc (ac HR0.out HB.out)); (case side2 => exact HC0.out); rintro e w' ⟨rfl, ⟨nd, rfl⟩⟩; refine ⟨_, rfl, ?_⟩))
 (try simp only [Act.put, List.setIfInBounds_toArray, List.set_cons_zero, List.set_cons_succ])
 go_cut [37] (fun v37 wc => ∃ (kq : Nat) (x37_5 : Bool), v37 = .bool x37_5 ∧ Aside0 (Xal.j0 kq l0 l1 l2 t811 x37_5 = some r) ∧ Aside0 (kq ≤ k) ∧ Aside0 (Below w.heap.size w wc))
 case first =>
  have H := HC6.out
  clear HC6
  refine yB H ?_ ?_ <;> clear H <;> rintro rfl H
  ·have H' := zq H
   clear H
   go_wp2
   go_meet
   case rel => exact ⟨_, (true), J4, H', ⟨J32⟩, ⟨J0⟩⟩
  refine yt H ?_ ?_ <;> clear H <;> rintro c9 H
  ·have c9b0 : decide (30 < (l1.length : Int)) = false := decide_eq_false c9
   have c9b1 : decide (30 < l1.length) = false := decide_eq_false J29
   clear c9
   (first | rw [c9b0] | (simp only [Xan, Xaq]; rw [c9b0]) | skip)
   have H' := zq H
   clear H
   go_wp2
   go_meet
   case rel => exact ⟨_, (decide ((l2.length : Int) > 100)), J4, H', ⟨J32⟩, ⟨J0⟩⟩
  have c9b0 := decide_eq_true c9
  have c9b1 : decide (30 < l1.length) = true := decide_eq_true J29
  clear c9
  (first | rw [c9b0] | (simp only [Xan, Xaq]; rw [c9b0]) | skip)
  have H' := zq H
  clear H
  go_wp2
  go_meet
  case rel => exact ⟨_, (true), J4, H', ⟨J32⟩, ⟨J0⟩⟩
 case rest =>
  clear HC6
  try clear c1
  try clear c2
  obtain ⟨kq, x37_5, rfl, HA, HJ5, HB⟩ := hcut
  cases kq with
  | zero => exact absurd HA.out (by simp [Xal.j0])
  | succ kj5 =>
   have H := HA.out
   clear HA
   simp only [Xal.j0] at H
   refine yC H ?_ ?_ <;> clear H <;> rintro rfl H
   ·obtain rfl := yo H
    go_wp2
    go_ret
    exact ⟨J1, J0⟩
   refine yv H ?_; clear H; rintro ⟨t813, t816⟩ A11 H
   dsimp only at H
   refine yv H ?_; clear H; rintro ⟨t817, t820⟩ A12 H
   dsimp only at H
   refine yv H ?_; clear H; rintro ⟨t821, t822, t825, t828, t831⟩ A13 H
   dsimp only at H
   refine yv H ?_; clear H; rintro ⟨t833, t834, t837, t840, t843⟩ A14 H
   dsimp only at H
   refine yv H ?_; clear H; rintro t845 A15 H
   refine yv H ?_; clear H; rintro ⟨t848, t851⟩ A16 H
   refine yB H ?_ ?_ <;> clear H <;> rintro rfl H
   ·exact absurd H J83
   refine yv H ?_; clear H; rintro t852 A18 H
   refine yB H ?_ ?_ <;> clear H <;> rintro rfl H
   ·exact absurd H J83
   refine yv H ?_; clear H; rintro t853 A20 H
   refine yB H ?_ ?_ <;> clear H <;> rintro rfl H
   ·exact absurd H J83
   refine yi H ?_; clear H; intro c22 H
   have c22b0 : (t816 == t820) = true := c22
   (try (have c22b1 : decide (t816 = t820) = true := by simpa using c22))
   (try (have c22b2 : (t816 == t820) = true := by simpa using c22))
   clear c22
   refine yv H ?_; clear H; rintro t854 A23 H
   refine yB H ?_ ?_ <;> clear H <;> rintro rfl H
   ·exact absurd H J83
   refine yi H ?_; clear H; intro c25 H
   have c25b0 : (t831 == t843) = true := c25
   (try (have c25b1 : decide (t831 = t843) = true := by simpa using c25))
   (try (have c25b2 : (t831 == t843) = true := by simpa using c25))
   clear c25
   refine yv H ?_; clear H; rintro t855 A26 H
   refine yv H ?_; clear H; rintro t856 A27 H
   obtain rfl := yo H
   go_wp2_with (first | (have hk_ := HO847.out; clear hk_; (first | ((with_reducible refine Xi (f := 11) rfl ?_); refine Xbz (some 65) rfl rfl Try.func11 J17 rfl #[.slice A0 l0.length c0] rfl J3 ?_) | go_at_call 11); (with_reducible refine (Xav.callsW kj5 (fun _ => True) _ _ l0 t848 t851 _ ?side1 A16.out).mono ?_); (case side1 => exact aj (ok' := fun _ => True) (be HC0.out (bu (Kd.C_F Xdu HR0.out) (zs2 GE832.out GE844.out))) (fun _ _ => trivial)); rintro e w44 ⟨v849, rfl, ho0, hb⟩; (try refine ⟨_, rfl, ?_⟩); obtain ⟨Az_, cz_, ez_⟩ := aJ ho0; subst ez_) | ((first | ((with_reducible refine Xi (f := 11) rfl ?_); refine Xbz (some 41) rfl rfl Try.func11 J17 rfl #[.slice A0 l0.length c0] rfl J3 ?_) | go_at_call 11); (with_reducible refine (Xav.calls kj5 (fun _ => True) _ _ l0 t813 t816 _ ?side1 A11.out).mono ?_); (case side1 => exact aj (ok' := fun _ => True) (be HC0.out (bu (Kd.C_F Xdu HR0.out) J0)) (fun _ _ => trivial)); rintro e w28 ⟨v814, rfl, ho0, hb⟩; (try refine ⟨_, rfl, ?_⟩); have HO815 := zq (aH (ap (ok' := fun _ => True) ho0 (fun _ _ => trivial)) (Xc J0)); replace HB := zq (Xe J0 hb); (try clear hb); (try clear hb2); (try clear hi); (try clear ho0)) | ((first | ((with_reducible refine Xi (f := 12) rfl ?_); refine Xbz (some 46) rfl rfl Try.func12 J17 rfl #[.slice A0 l0.length c0] rfl J3 ?_) | go_at_call 12); (with_reducible refine (Xbk.calls kj5 _ _ l0 t817 t820 _ ?side1 ?side2 A12.out).mono ?_); (case side1 => exact zc (ac HR0.out HB.out)); (case side2 => exact HC0.out); rintro e w29 ⟨v818, rfl, ho0, hb⟩; (try refine ⟨_, rfl, ?_⟩); replace HO815 := zq (ae (zn HO815.out) (ao ho0) hb); have HO819 := zq (aH (ap (ok' := fun _ => True) ho0 (fun _ _ => trivial)) (Xc J0)); replace HB := zq (Xe J0 hb); (try clear hb); (try clear hb2); (try clear hi); (try clear ho0)) | ((first | ((with_reducible refine Xi (f := 13) rfl ?_); refine Xbz (some 52) rfl rfl Try.func13 J17 rfl #[.slice A1 l1.length c1, .slice A2 l2.length c2] rfl J3 ?_) | go_at_call 13); (with_reducible refine (X2.calls kj5 _ _ l1 _ _ l2 t821 t822 t825 t828 t831 _ ?side1 ?side2 ?side3 ?side4 A13.out).mono ?_); (case side1 => exact zc (ac HR1.out HB.out)); (case side2 => exact HC1.out); (case side3 => exact zc (ac HR2.out HB.out)); (case side4 => exact HC2.out); rintro e w30 ⟨v823, v826, v829, rfl, ho0, ho1, ho2, hb⟩; (try refine ⟨_, rfl, ?_⟩); replace HO815 := zq (ap (aw (aw (aw (bf (zn HO815.out) hb) (aa ho0)) (aa ho1)) (aa ho2)) (fun _ h_ => h_.1)); replace HO819 := zq (ap (aw (aw (aw (bf (zn HO819.out) hb) (aa ho0)) (aa ho1)) (aa ho2)) (fun _ h_ => h_.1)); have HO824 := zq (ag ho0 (Xc J0)); have HO827 := zq (ag ho1 (Xc J0)); have HO830 := zq (ag ho2 (Xc J0)); replace HB := zq (Xe J0 hb); (try clear hb); (try clear hb2); (try clear hi); (try clear ho0); (try clear ho1); (try clear ho2)) | ((with_reducible refine Xj (N := 13) rfl ?_); (try (refine Xw J63 ?_; dsimp only)); refine bxw 13 30 #[.int .i64 0, .slice none 0 0, .slice none 0 0, .slice none 0 0] ?_; intro gb832 hg w31 hbox hb; replace HO815 := zq (aD (aU (zn HO815.out) gb832 (Nat.le_of_eq hg.symm)) hb); replace HO819 := zq (aD (aU (zn HO819.out) gb832 (Nat.le_of_eq hg.symm)) hb); replace HO824 := zq (ab (zr HO824.out) hb); replace HO827 := zq (ab (zr HO827.out) hb); replace HO830 := zq (ab (zr HO830.out) hb); have BK832 := zq (hbox); have GE832 := zq ((J22 : w.heap.size ≤ gb832)); replace HB := zq (Xe J0 hb); clear hb hbox hg; have Z32 := cz4 BK832.out; obtain ⟨Ao33, co33, eo33⟩ := ah HO824.out; subst eo33; obtain ⟨Ao34, co34, eo34⟩ := ah HO827.out; subst eo34; obtain ⟨Ao35, co35, eo35⟩ := ah HO830.out; subst eo35) | ((first | ((with_reducible refine Xi (f := 14) rfl ?_); refine Xbz (some 58) rfl rfl Try.func14 J17 rfl #[.slice A1 l1.length c1, .slice A2 l2.length c2] rfl J3 ?_) | go_at_call 14); (with_reducible refine (deckleref11_Numbers.calls kj5 _ _ l1 _ _ l2 t833 t834 t837 t840 t843 _ ?side1 ?side2 ?side3 ?side4 A14.out).mono ?_); (case side1 => exact ac HR1.out (zs1 GE832.out)); (case side2 => exact HC1.out); (case side3 => exact ac HR2.out (zs1 GE832.out)); (case side4 => exact HC2.out); rintro e w36 ⟨v835, v838, v841, rfl, ho0, ho1, ho2, hb⟩; (try refine ⟨_, rfl, ?_⟩); replace HO815 := zq (ap (aw (aw (aw (bf J175 hb) (aa ho0)) (aa ho1)) (aa ho2)) (fun _ h_ => h_.1)); replace HO819 := zq (ap (aw (aw (aw (bf J176 hb) (aa ho0)) (aa ho1)) (aa ho2)) (fun _ h_ => h_.1)); replace HO824 := zq (af (bd (bd (bv (by (with_reducible repeat (first | apply Kd.R_alloc | apply ai | apply ak)); exact (gT4 HO824.out BK832.out)) hb) (aa ho0)) (aa ho1)) (fun _ h_ => h_.1)); replace HO827 := zq (af (bd (bd (bv (by (with_reducible repeat (first | apply Kd.R_alloc | apply ai | apply ak)); exact (gT4 HO827.out BK832.out)) hb) (aa ho0)) (aa ho1)) (fun _ h_ => h_.1)); replace HO830 := zq (ay (by (with_reducible repeat (first | apply Kd.R_alloc | apply ai | apply ak)); exact (gT4 HO830.out BK832.out)) (aa ho2) hb); have HO836 := zq (ag ho0 (Xc (zs1 GE832.out))); have HO839 := zq (ag ho1 (Xc (zs1 GE832.out))); have HO842 := zq (ag ho2 (Xc (zs1 GE832.out))); replace BK832 := zq (Xg (g := gb832) (o := .cells #[.int .i64 t821, .slice Ao33 t822.length co33, .slice Ao34 t825.length co34, .slice Ao35 t828.length co35] 30 (0, 0)) (by (with_reducible repeat (first | refine Xd ?_ _ | refine Xf ?_ | refine Xb ?_ _)); refine Xk (cs := #[.int .i64 t821, .slice Ao33 t822.length co33, .slice Ao34 t825.length co34, .slice none 0 0]) ?_ 3 _ rfl; (with_reducible repeat (first | refine Xd ?_ _ | refine Xf ?_ | refine Xb ?_ _)); refine Xk (cs := #[.int .i64 t821, .slice Ao33 t822.length co33, .slice none 0 0, .slice none 0 0]) ?_ 2 _ rfl; (with_reducible repeat (first | refine Xd ?_ _ | refine Xf ?_ | refine Xb ?_ _)); refine Xk (cs := #[.int .i64 t821, .slice none 0 0, .slice none 0 0, .slice none 0 0]) ?_ 1 _ rfl; (with_reducible repeat (first | refine Xd ?_ _ | refine Xf ?_ | refine Xb ?_ _)); refine Xk (cs := #[.int .i64 0, .slice none 0 0, .slice none 0 0, .slice none 0 0]) ?_ 0 _ rfl; (with_reducible repeat (first | refine Xd ?_ _ | refine Xf ?_ | refine Xb ?_ _)); exact BK832.out) hb); replace HB := zq (Xe (zs1 GE832.out) hb); (try clear hb); (try clear hb2); (try clear hi); (try clear ho0); (try clear ho1); (try clear ho2)) | ((with_reducible refine Xj (N := 15) rfl ?_); (try (refine Xw J63 ?_; dsimp only)); refine bxw 15 30 #[.int .i64 0, .slice none 0 0, .slice none 0 0, .slice none 0 0] ?_; intro gb844 hg w37 hbox hb; replace HO815 := zq (aD (aU (zn HO815.out) gb844 (Nat.le_of_eq hg.symm)) hb); replace HO819 := zq (aD (aU (zn HO819.out) gb844 (Nat.le_of_eq hg.symm)) hb); replace HO824 := zq (ab (zr HO824.out) hb); replace HO827 := zq (ab (zr HO827.out) hb); replace HO830 := zq (ab (zr HO830.out) hb); replace HO836 := zq (ab (zr HO836.out) hb); replace HO839 := zq (ab (zr HO839.out) hb); replace HO842 := zq (ab (zr HO842.out) hb); have BK844 := zq (hbox); have GE844 := zq ((by rw [hg]; exact (Xc (zs1 GE832.out)) : w.heap.size ≤ gb844)); replace HB := zq (Xe (zs1 GE832.out) hb); have NB832_844 := zq ((by rw [hg]; exact Nat.ne_of_lt (Xbd (g := gb832) (o := .cells #[.int .i64 t821, .slice Ao33 t822.length co33, .slice Ao34 t825.length co34, .slice Ao35 t828.length co35] 30 (0, 0)) (zk BK832.out)) : gb832 ≠ gb844)); have NB844_832 := zq ((by rw [hg]; exact Nat.ne_of_gt (Xbd (g := gb832) (o := .cells #[.int .i64 t821, .slice Ao33 t822.length co33, .slice Ao34 t825.length co34, .slice Ao35 t828.length co35] 30 (0, 0)) (zk BK832.out)) : gb844 ≠ gb832)); replace BK832 := zq (Xg (zk BK832.out) hb); clear hb hbox hg; have hnb38 := NB844_832.out; have hnc38 := NB832_844.out; have Z39 := cz4 BK844.out; obtain ⟨Ao40, co40, eo40⟩ := ah HO836.out; subst eo40; obtain ⟨Ao41, co41, eo41⟩ := ah HO839.out; subst eo41; obtain ⟨Ao42, co42, eo42⟩ := ah HO842.out; subst eo42) | ((first | ((with_reducible refine Xi (f := 15) rfl ?_); refine Xbz (some 62) rfl rfl Try.func15 J17 rfl #[.slice A0 l0.length c0] rfl J3 ?_) | go_at_call 15); (with_reducible refine (deckleref10_Copy.calls kj5 _ _ l0 t845 _ ?side1 ?side2 A15.out).mono ?_); (case side1 => exact ac HR0.out (zs2 GE832.out GE844.out)); (case side2 => exact HC0.out); rintro e w43 ⟨v846, rfl, ho0, hb⟩; (try refine ⟨_, rfl, ?_⟩); replace HO815 := zq (ae J175 (bI ho0) hb); replace HO819 := zq (ae J176 (bI ho0) hb); replace HO824 := zq (ab (by (with_reducible repeat (first | apply Kd.R_alloc | apply ai | apply ak)); exact (gT4 HO824.out BK844.out)) hb); replace HO827 := zq (ab (by (with_reducible repeat (first | apply Kd.R_alloc | apply ai | apply ak)); exact (gT4 HO827.out BK844.out)) hb); replace HO830 := zq (ab (by (with_reducible repeat (first | apply Kd.R_alloc | apply ai | apply ak)); exact (gT4 HO830.out BK844.out)) hb); replace HO836 := zq (ab (by (with_reducible repeat (first | apply Kd.R_alloc | apply ai | apply ak)); exact (gT4 HO836.out BK844.out)) hb); replace HO839 := zq (ab (by (with_reducible repeat (first | apply Kd.R_alloc | apply ai | apply ak)); exact (gT4 HO839.out BK844.out)) hb); replace HO842 := zq (ab (by (with_reducible repeat (first | apply Kd.R_alloc | apply ai | apply ak)); exact (gT4 HO842.out BK844.out)) hb); have HO847 := zq (aH (ap (ok' := fun _ => True) (Kd.S_N (bm ho0)) (fun _ _ => trivial)) (Xc (zs2 GE832.out GE844.out))); replace BK832 := zq (Xg (g := gb832) (o := .cells #[.int .i64 t821, .slice Ao33 t822.length co33, .slice Ao34 t825.length co34, .slice Ao35 t828.length co35] 30 (0, 0)) (by (with_reducible repeat (first | refine Xd ?_ _ | refine Xf ?_ | refine Xb ?_ _)); refine Xab ?_ NB832_844.out _; (with_reducible repeat (first | refine Xd ?_ _ | refine Xf ?_ | refine Xb ?_ _)); refine Xab ?_ NB832_844.out _; (with_reducible repeat (first | refine Xd ?_ _ | refine Xf ?_ | refine Xb ?_ _)); refine Xab ?_ NB832_844.out _; (with_reducible repeat (first | refine Xd ?_ _ | refine Xf ?_ | refine Xb ?_ _)); refine Xab ?_ NB832_844.out _; (with_reducible repeat (first | refine Xd ?_ _ | refine Xf ?_ | refine Xb ?_ _)); exact BK832.out) hb); replace BK844 := zq (Xg (g := gb844) (o := .cells #[.int .i64 t833, .slice Ao40 t834.length co40, .slice Ao41 t837.length co41, .slice Ao42 t840.length co42] 30 (0, 0)) (by (with_reducible repeat (first | refine Xd ?_ _ | refine Xf ?_ | refine Xb ?_ _)); refine Xk (cs := #[.int .i64 t833, .slice Ao40 t834.length co40, .slice Ao41 t837.length co41, .slice none 0 0]) ?_ 3 _ rfl; (with_reducible repeat (first | refine Xd ?_ _ | refine Xf ?_ | refine Xb ?_ _)); refine Xk (cs := #[.int .i64 t833, .slice Ao40 t834.length co40, .slice none 0 0, .slice none 0 0]) ?_ 2 _ rfl; (with_reducible repeat (first | refine Xd ?_ _ | refine Xf ?_ | refine Xb ?_ _)); refine Xk (cs := #[.int .i64 t833, .slice none 0 0, .slice none 0 0, .slice none 0 0]) ?_ 1 _ rfl; (with_reducible repeat (first | refine Xd ?_ _ | refine Xf ?_ | refine Xb ?_ _)); refine Xk (cs := #[.int .i64 0, .slice none 0 0, .slice none 0 0, .slice none 0 0]) ?_ 0 _ rfl; (with_reducible repeat (first | refine Xd ?_ _ | refine Xf ?_ | refine Xb ?_ _)); exact BK844.out) hb); replace HB := zq (Xe (zs2 GE832.out GE844.out) hb); (try clear hb); (try clear hb2); (try clear hi); (try clear ho0)) | ((with_reducible refine Xj (N := 20) rfl ?_); refine hold77 ?_))
   try refine Hold77.mk ?_
   repeat go_step
   have HLN := zq (ar ho0).2.2.2.1
   have HW77 := zq (WrC.of_N ho0 (Nat.le_refl _))
   obtain ⟨WS, HWS, HBW⟩ := below_name hb
   have HBE := zq HBW
   have HW78 := zq (show WrC _ WS.heap.size Az_ t848 by have h_ := HW77.out; rw [← HWS.out] at h_; exact h_)
   clear HBW HW77 ho0 hb
   go_loopg [20] t848.length (fun kq v20 w' => ∃ i : Nat, v20 = .int .i64 (i : Int) ∧ Aside0 (i + kq = t848.length) ∧ Aside0 (WrC w' WS.heap.size Az_ t848) ∧ Aside0 (Below WS.heap.size WS w'))
   case atStart => exact ⟨0, rfl, ⟨Nat.zero_add _⟩, HW78, HBE⟩
   case round =>
    clear HW78 HBE
    obtain ⟨i, rfl, HI, HW, HBS⟩ := hrel
    cases gk with
    | zero =>
     have hi : i = t848.length := by have := HI.out; omega
     have ci : ((i : Int) < (t848.length : Int)) = False := eq_false J29
     have hb := HBS.out
     rw [HWS.out] at hb
     clear HW HI hi
     replace HO815 := zq (aD (zn HO815.out) hb)
     replace HO819 := zq (aD (zn HO819.out) hb)
     replace HO824 := zq (ab (zr HO824.out) hb)
     replace HO827 := zq (ab (zr HO827.out) hb)
     replace HO830 := zq (ab (zr HO830.out) hb)
     replace HO836 := zq (ab (zr HO836.out) hb)
     replace HO839 := zq (ab (zr HO839.out) hb)
     replace HO842 := zq (ab (zr HO842.out) hb)
     replace HO847 := zq (aD (zn HO847.out) hb)
     replace BK832 := zq (Xg (zk BK832.out) hb)
     replace BK844 := zq (Xg (zk BK844.out) hb)
     replace HB := zq (Xe (zs2 GE832.out GE844.out) hb)
     (try clear hb)
     (try clear hb2)
     (try clear hk)
     (try clear hi)
     obtain ⟨Ao45, co45, eo45⟩ := aJ HO847.out
     subst eo45
     go_wp2_with (first | (go_at_call 16; (with_reducible refine (deckleref10_Same.calls kj5 _ _ l0 _ _ t845 true _ ?side1 ?side2 ?side3 ?side4 A18.out).mono ?_); (case side1 => exact zc (ac HR0.out HB.out)); (case side2 => exact HC0.out); (case side3 => exact zc ((ar HO847.out).2.2)); (case side4 => exact (ar HO847.out).2.1); rintro e w46 ⟨rfl, hb⟩; replace HO815 := zq (aD (zn HO815.out) hb); replace HO819 := zq (aD (zn HO819.out) hb); replace HO824 := zq (ab (zr HO824.out) hb); replace HO827 := zq (ab (zr HO827.out) hb); replace HO830 := zq (ab (zr HO830.out) hb); replace HO836 := zq (ab (zr HO836.out) hb); replace HO839 := zq (ab (zr HO839.out) hb); replace HO842 := zq (ab (zr HO842.out) hb); replace BK832 := zq (Xg (zk BK832.out) hb); replace BK844 := zq (Xg (zk BK844.out) hb); replace HB := zq (Xe (zs2 GE832.out GE844.out) hb); (try clear hb); (try clear hb2); (try clear hi); obtain ⟨Ao47, co47, eo47⟩ := aJ HO815.out; subst eo47; obtain ⟨Ao48, co48, eo48⟩ := aJ HO819.out; subst eo48) | (go_at_call 16; (with_reducible refine (deckleref10_Same.calls kj5 _ _ t813 _ _ t817 true _ ?side1 ?side2 ?side3 ?side4 A20.out).mono ?_); (case side1 => exact zc ((ar HO815.out).2.2)); (case side2 => exact (ar HO815.out).2.1); (case side3 => exact zc ((ar HO819.out).2.2)); (case side4 => exact (ar HO819.out).2.1); rintro e w49 ⟨rfl, hb⟩; replace HO824 := zq (ab (zr HO824.out) hb); replace HO827 := zq (ab (zr HO827.out) hb); replace HO830 := zq (ab (zr HO830.out) hb); replace HO836 := zq (ab (zr HO836.out) hb); replace HO839 := zq (ab (zr HO839.out) hb); replace HO842 := zq (ab (zr HO842.out) hb); replace BK832 := zq (Xg (zk BK832.out) hb); replace BK844 := zq (Xg (zk BK844.out) hb); replace HB := zq (Xe (zs2 GE832.out GE844.out) hb); (try clear hb); (try clear hb2); (try clear hi); have Z50 := cz4 BK832.out; have Z51 := cz4 BK844.out) | (go_at_call 17; (with_reducible refine (X5.calls kj5 t821 _ _ t822 _ _ t825 _ _ t828 t833 _ _ t834 _ _ t837 _ _ t840 true _ ?side1 ?side2 ?side3 ?side4 ?side5 ?side6 ?side7 ?side8 ?side9 ?side10 ?side11 ?side12 A23.out).mono ?_); (case side1 => exact zc ((an HO824.out).2.2)); (case side2 => exact (an HO824.out).2.1); (case side3 => exact zc ((an HO827.out).2.2)); (case side4 => exact (an HO827.out).2.1); (case side5 => exact zc ((an HO830.out).2.2)); (case side6 => exact (an HO830.out).2.1); (case side7 => exact zc ((an HO836.out).2.2)); (case side8 => exact (an HO836.out).2.1); (case side9 => exact zc ((an HO839.out).2.2)); (case side10 => exact (an HO839.out).2.1); (case side11 => exact zc ((an HO842.out).2.2)); (case side12 => exact (an HO842.out).2.1); rintro e w52 ⟨rfl, hb⟩; replace HB := zq (Xe (zs2 GE832.out GE844.out) hb); (try clear hb); (try clear hb2); (try clear hi)) | (go_at_call 18; (with_reducible refine (Xbc.calls kj5 _ _ l0 t855 _ ?side1 ?side2 A26.out).mono ?_); (case side1 => exact zc (ac HR0.out HB.out)); (case side2 => exact HC0.out); rintro e w53 ⟨rfl, hb⟩; replace HB := zq (Xe (zs2 GE832.out GE844.out) hb); (try clear hb); (try clear hb2); (try clear hi)) | (go_at_call 19; (with_reducible refine (Xbs.calls kj5 _ _ l0 t856 _ ?side1 ?side2 A27.out).mono ?_); (case side1 => exact zc (ac HR0.out HB.out)); (case side2 => exact HC0.out); rintro e w54 ⟨rfl, hb⟩; replace HB := zq (Xe (zs2 GE832.out GE844.out) hb); (try clear hb); (try clear hb2); (try clear hi)))
     go_ret
     exact ⟨J1, by repeat (first | (with_reducible first | exact HB.out | apply Xaf | apply X3 | apply X9 | refine X0 ?_ GE832.out | refine X0 ?_ GE844.out) | exact HB.out)⟩
    | succ k77 =>
     have hi : i < t848.length := by have := HI.out; omega
     have ci : ((i : Int) < (t848.length : Int)) = True := eq_true J29
     have ci0 : (0 ≤ (i : Int)) = True := eq_true J29
     have ciw := wrap_ix hi (by have := HLN.out; omega)
     obtain ⟨g, cur, A1, c1, A2, c2, eA, hg0, hg, h1, h2, w1, w2, n1, n2⟩ := HW.out i hi
     have HG := zq hg
     have HG0 := zq hg0
     have W1 := zq w1
     have W2 := zq w2
     have H1 := zq h1
     have H2 := zq h2
     have N1 := zq n1
     have N2 := zq n2
     obtain ⟨u0, hu0⟩ := cell_lt (j := i * 4) h1
     have U0 := zq hu0
     subst eA
     clear hg0 hg w1 w2 h1 h2 n1 n2 hu0
     go_wp2_with (first | ((with_reducible refine Xj (N := 21) rfl ?_); refine hold77 ?_))
     try refine Hold77.mk ?_
     repeat go_step
     go_loopg [21] (t848[i].f2.length) (fun kq v21 w' => ∃ j : Nat, v21 = .int .i64 (j : Int) ∧ Aside0 (j + kq = t848[i].f2.length) ∧ Aside0 (WrC w' WS.heap.size (some ⟨g, 0, none⟩) t848) ∧ Aside0 (w'.heap[g]? = some (.cells cur 30 (0, 0))) ∧ Aside0 (Wr3 w' WS.heap.size A1 (t848[i].f1.length)) ∧ Aside0 (Wr3 w' WS.heap.size A2 (t848[i].f2.length)) ∧ Aside0 (Below WS.heap.size WS w'))
     case atStart => exact ⟨0, rfl, ⟨Nat.zero_add _⟩, HW, HG, W1, W2, HBS⟩
     case round =>
      clear HW HG W1 W2 HBS
      obtain ⟨j, rfl, HJ, HW, HG, W1, W2, HBS⟩ := hrel
      have hcl := (Xx HG.out (i * 4 + 2)).trans H2.out
      cases gk with
      | zero =>
       have hj : j = t848[i].f2.length := by have := HJ.out; omega
       have cj : ((j : Int) < (t848[i].f2.length : Int)) = False := eq_false J29
       go_wp2_with (first | ((with_reducible refine Xj (N := 22) rfl ?_); refine hold77 ?_))
       try refine Hold77.mk ?_
       repeat go_step
       clear hcl cj
       go_loopg [22] (t848[i].f1.length) (fun kq v22 w' => ∃ q : Nat, v22 = .int .i64 (q : Int) ∧ Aside0 (q + kq = t848[i].f1.length) ∧ Aside0 (WrC w' WS.heap.size (some ⟨g, 0, none⟩) t848) ∧ Aside0 (w'.heap[g]? = some (.cells cur 30 (0, 0))) ∧ Aside0 (Wr3 w' WS.heap.size A1 (t848[i].f1.length)) ∧ Aside0 (Wr3 w' WS.heap.size A2 (t848[i].f2.length)) ∧ Aside0 (Below WS.heap.size WS w'))
       case atStart => exact ⟨0, rfl, ⟨Nat.zero_add _⟩, HW, HG, W1, W2, HBS⟩
       case round =>
        clear HW HG W1 W2 HBS HJ hj
        obtain ⟨q, rfl, HJ, HW, HG, W1, W2, HBS⟩ := hrel
        have hcl := (Xx HG.out (i * 4 + 1)).trans H1.out
        cases gk with
        | zero =>
         have hq : q = t848[i].f1.length := by have := HJ.out; omega
         have cj : ((q : Int) < (t848[i].f1.length : Int)) = False := eq_false J29
         have hcl0 := (Xx HG.out (i * 4)).trans U0.out
         have hfz0 := Xa3 HG.out (i * 4)
         go_wp2
         go_roundg k77
         case measure => have := HI.out; omega
         case rel => exact ⟨i + 1, (by first | rfl | simp only [ciw]), ⟨by have := HI.out; omega⟩, ⟨HW.out.setK HG.out _⟩, ⟨X0 HBS.out HG0.out⟩⟩
        | succ k79 =>
         have hq : q < t848[i].f1.length := by have := HJ.out; omega
         have cj : ((q : Int) < (t848[i].f1.length : Int)) = True := eq_true J29
         have cj0 : (0 ≤ (q : Int)) = True := eq_true J29
         have cw := wrap_ix hq N1.out
         obtain ⟨g2, cur2, e2, hb2, hg2, hs2⟩ := W1.out q hq
         subst e2
         have hc2 : wr.cell? ⟨g2, q, none⟩ = some cur2[q] := (Xx hg2 q).trans (Array.getElem?_eq_getElem hs2)
         have hfz := Xa3 hg2 q
         have HG2 := zq hg2
         have HB2 := zq hb2
         clear hg2 hb2
         go_wp2
         go_roundg k79
         case measure => have := HJ.out; omega
         case rel => exact ⟨q + 1, (by first | rfl | simp only [cw]), ⟨by have := HJ.out; omega⟩, ⟨HW.out.set HG2.out _⟩, ⟨hd_set HG.out HG2.out _⟩, ⟨W1.out.set HG2.out _⟩, ⟨W2.out.set HG2.out _⟩, ⟨X0 HBS.out HB2.out⟩⟩
      | succ k78 =>
       have hq : j < t848[i].f2.length := by have := HJ.out; omega
       have cj : ((j : Int) < (t848[i].f2.length : Int)) = True := eq_true J29
       have cj0 : (0 ≤ (j : Int)) = True := eq_true J29
       have cw := wrap_ix hq N2.out
       obtain ⟨g2, cur2, e2, hb2, hg2, hs2⟩ := W2.out j hq
       subst e2
       have hc2 : wr.cell? ⟨g2, j, none⟩ = some cur2[j] := (Xx hg2 j).trans (Array.getElem?_eq_getElem hs2)
       have hfz := Xa3 hg2 j
       have HG2 := zq hg2
       have HB2 := zq hb2
       clear hg2 hb2
       go_wp2
       go_roundg k78
       case measure => have := HJ.out; omega
       case rel => exact ⟨j + 1, (by first | rfl | simp only [cw]), ⟨by have := HJ.out; omega⟩, ⟨HW.out.set HG2.out _⟩, ⟨hd_set HG.out HG2.out _⟩, ⟨W1.out.set HG2.out _⟩, ⟨W2.out.set HG2.out _⟩, ⟨X0 HBS.out HB2.out⟩⟩
end Go.Proofs.Ytecdklheppcihaa.HTightTells
