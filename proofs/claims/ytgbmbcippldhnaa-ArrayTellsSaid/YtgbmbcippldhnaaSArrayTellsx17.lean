import Derived.Test.YtgbmbcippldhnaaSArrayTellsx0
import Derived.Test.YtgbmbcippldhnaaSArrayTellsx2
import Derived.Test.YtgbmbcippldhnaaSArrayTellsx6
import Derived.Test.YtgbmbcippldhnaaSArrayTellsx7
import Derived.Test.YtgbmbcippldhnaaSArrayTellsx9
import Derived.Test.YtgbmbcippldhnaaSArrayTellsx10
import Derived.Test.YtgbmbcippldhnaaSArrayTellsx13
import Derived.Test.YtgbmbcippldhnaaSArrayTellsx15
import Derived.Test.YtgbmbcippldhnaaSArrayTellsx16
namespace Go.Proofs.Ytgbmbcippldhnaa.HArrayTells
open Go.RowKit Go.Proofs.YtgbmbcippldhnaaW.PrintWords Go.Proofs.YtgbmbcippldhnaaW.PrintLast Go.Proofs.YtgbmbcippldhnaaW.PrintMore
attribute [local go_sem] max2_int min2_int max_two min_two max_three min_three max_four min_four
set_option linter.unusedVariables false
set_option linter.unusedSimpArgs false
mutual
def decklelaw10_ArrayTells.j0 : Nat → List (S32) → List (S32) → Bool → Bool → Option (Bool)
  | 0, _, _, _, _ => none
  | k + 1, x0, x1, x5, x26 => if x26 = true then (some x5) else ((array_Kids.f k x0).bind fun t455 => ((deckleref10_Kids.f k x0).bind fun t458 => (if (t455.length : Int) = (t458.length : Int) then (decklelaw10_ArrayTells.l0 k x0 x1 x5 t455 t458 0) else (none))))
def decklelaw10_ArrayTells.l0 : Nat → List (S32) → List (S32) → Bool → List (List (S32)) → List (List (S32)) → Int → Option (Bool)
  | 0, _, _, _, _, _, _ => none
  | k + 1, x0, x1, x5, x8, x9, x10 => if x10 < (x8.length : Int) then (if 0 ≤ x10 then (if x10 < (x9.length : Int) then ((deckleref10_Same.f k (rd_L5 x8 x10) (rd_L5 x9 x10)).bind fun t463 => (if t463 = true then (decklelaw10_ArrayTells.l0 k x0 x1 x5 x8 x9 (wrap64 (x10 + 1))) else (none))) else (none)) else (none)) else ((array_Copy.f x0).bind fun t464 => ((deckleref10_Same.f k t464 x0).bind fun t467 => (if x5 = true then (if t467 = true then ((array_Right.f k x0).bind fun t468 => ((deckleref10_Right.f k x0).bind fun t469 => (if (t468 == t469) = true then ((array_Take.f k x0).bind fun t470 => ((deckleref10_Take.f k x0).bind fun t471 => (if t470 = t471 then ((array_Items.f k x0).bind fun t472 => ((deckleref10_Items.f k x0).bind fun t473 => (if t472 = t473 then ((array_Depth.f k x0).bind fun t474 => ((deckleref10_Depth.f k x0).bind fun t475 => (if t474 = t475 then ((array_Rank.f k x0).bind fun t476 => ((deckleref10_Rank.f k x0).bind fun t477 => (if t476 = t477 then ((array_Same.f k x0 x1).bind fun t478 => ((deckleref10_Same.f k x0 x1).bind fun t479 => (some (t478 == t479)))) else (none)))) else (none)))) else (none)))) else (none)))) else (none)))) else (none)) else (none))))
end
def decklelaw10_ArrayTells.f (k : Nat) (l0 : List (S32)) (l1 : List (S32)) : Option (Bool) := (decklelaw10_small.f k).bind fun t452 => ((decklelaw10_Few.f k l0).bind fun t453 => ((decklelaw10_Few.f k l1).bind fun t454 => (if t453 = true then (decklelaw10_ArrayTells.j0 k l0 l1 t452 (!t454)) else (decklelaw10_ArrayTells.j0 k l0 l1 t452 true))))
def decklelaw10_ArrayTells.T13 : Bool × List (List Nat × List Nat) := (true, [([], []), ([], []), ([0, 1], [0, 1]), ([2], [2]), ([], []), ([], []), ([4, 5], [4, 5]), ([6], [6]), ([3, 7], [3, 7]), ([8], [8])])
def decklelaw10_ArrayTells.B13 : List Nat := [0, 0, 3, 7, 0, 0, 48, 112, 255, 511]
theorem decklelaw10_ArrayTells.tab13 : rtab .any (opsOf Try.f3 13) = decklelaw10_ArrayTells.T13 := J8
theorem decklelaw10_ArrayTells.bits13 : waitsOk decklelaw10_ArrayTells.T13.2 decklelaw10_ArrayTells.B13 = true := J8
def Wr3 (W : World) (base : Nat) (A : Option Addr) (n : Nat) : Prop := ∀ j, j < n → ∃ (g : Nat) (cur : Array Value), A = some ⟨g, 0, none⟩ ∧ base ≤ g ∧ W.heap[g]? = some (.cells cur 3 (0, 0)) ∧ j < cur.size
def WrC (W : World) (base : Nat) (A : Option Addr) (c : List S32) : Prop := ∀ i, (h : i < c.length) → ∃ (g : Nat) (cur : Array Value) (A1 : Option Addr) (c1 : Nat) (A2 : Option Addr) (c2 : Nat), A = some ⟨g, 0, none⟩ ∧ W.heap[g]? = some (.cells cur 32 (0, 0)) ∧
  cur[i * 4 + 1]? = some (.slice A1 c[i].f1.length c1) ∧ cur[i * 4 + 2]? = some (.slice A2 c[i].f2.length c2) ∧ Wr3 W base A1 c[i].f1.length ∧ Wr3 W base A2 c[i].f2.length ∧ c[i].f1.length ≤ 9223372036854775807 ∧ c[i].f2.length ≤ 9223372036854775807
theorem Wr3.of_R {W : World} {base : Nat} {ok : Nat → Prop} {v : Value} {l : List Int} (h : (Kd.int .i64).R 3 W base ok v l) : ∃ A c, v = .slice A l.length c ∧ Wr3 W base A l.length ∧ l.length ≤ 9223372036854775807 := by
  obtain ⟨_, inner, ho, _⟩ := h
  rcases ho.2 with ⟨rfl, hn⟩ | ⟨g, cap, cur, rfl, hb, hg, hc, hx, hs, _⟩
  · exact ⟨none, 0, by rw [hn], fun j hj => by omega, J31⟩
  · rw [show (Kd.int .i64).sz = 1 from rfl, Nat.mul_one] at hs
    simp only [maxLen] at hx
    exact ⟨_, _, rfl, fun j hj => ⟨g, cur, rfl, hb, hg, J31⟩, J31⟩
theorem WrC.of_R {W : World} {base : Nat} {ok : Nat → Prop} {A : Option Addr} {n cap : Nat} {c : List S32} (h : Kd.R k32 32 W base ok (.slice A n cap) c) : WrC W base A c := by
  intro i hi
  obtain ⟨_, inner, ho, hr⟩ := h
  rcases ho.2 with ⟨_, hn⟩ | ⟨g, cap2, cur, e, hb, hg, hc, _, hs, ht⟩
  · omega
  · have hm := hr.2 i _ (List.getElem?_eq_getElem hi)
    obtain ⟨v1, v2, v3, e2, r1, r2, _⟩ := k32_openM hm
    obtain ⟨A1, c1, rfl, w1, n1⟩ := Wr3.of_R r1
    obtain ⟨A2, c2, rfl, w2, n2⟩ := Wr3.of_R r2
    have key : ∀ q u, q < 4 → ([Value.int .i64 c[i].f0, .slice A1 c[i].f1.length c1, .slice A2 c[i].f2.length c2, v3] : List Value)[q]? = some u → cur[i * 4 + q]? = some u := by
      intro q u hq hu
      rw [← e2, show k32.sz = 4 from rfl, List.getElem?_take, if_pos hq, List.getElem?_drop, ← ht, List.getElem?_take] at hu
      by_cases hlt : i * 4 + q < c.length * 4
      rotate_left
      · omega
      rw [show (k32.sz : Nat) = 4 from rfl, if_pos hlt] at hu
      simpa using hu
    refine ⟨g, cur, A1, c1, A2, c2, ?_, hg, key 1 _ J31 rfl, key 2 _ J31 rfl, w1, w2, n1, n2⟩
    injection e
theorem Wr3.set {W : World} {base : Nat} {A : Option Addr} {n : Nat} (h : Wr3 W base A n) {g j : Nat} {cur : Array Value} (hg : W.heap[g]? = some (.cells cur 3 (0, 0))) (u : Value) : Wr3 (W.setCell ⟨g, j, none⟩ u) base A n := by
  intro q hq
  obtain ⟨g2, cur2, e, hb, hg2, hs⟩ := h q hq
  by_cases hne : g2 = g
  rotate_left
  · exact ⟨g2, cur2, e, hb, (Below.heap_setCell W ⟨g, j, none⟩ u g2 hne).trans hg2, hs⟩
  subst hne
  rw [hg] at hg2
  obtain rfl : cur = cur2 := by injection hg2 with h1; injection h1
  exact ⟨g2, _, e, hb, blk_set hg j u, by simpa using hs⟩
theorem hd_set {W : World} {g g' j : Nat} {cur cur' : Array Value} (h : W.heap[g']? = some (.cells cur' 32 (0, 0))) (hg : W.heap[g]? = some (.cells cur 3 (0, 0))) (u : Value) : (W.setCell ⟨g, j, none⟩ u).heap[g']? = some (.cells cur' 32 (0, 0)) :=
  (Below.heap_setCell W ⟨g, j, none⟩ u g' (blk_ne h hg J21)).trans h
theorem WrC.set {W : World} {base : Nat} {A : Option Addr} {c : List S32} (h : WrC W base A c) {g j : Nat} {cur : Array Value} (hg : W.heap[g]? = some (.cells cur 3 (0, 0))) (u : Value) : WrC (W.setCell ⟨g, j, none⟩ u) base A c := by
  intro i hi
  obtain ⟨g', cur', A1, c1, A2, c2, e, h1, h2, h3, w1, w2, n1, n2⟩ := h i hi
  exact ⟨g', cur', A1, c1, A2, c2, e, hd_set h1 hg u, h2, h3, w1.set hg u, w2.set hg u, n1, n2⟩
structure Hold77 (p : Prop) : Prop where
  out : p
theorem wrap_ix {i n : Nat} (h : i < n) (hn : n ≤ 9223372036854775807) : wrap64 ((i : Int) + 1) = ((i + 1 : Nat) : Int) := by unfold wrap64; omega
set_option maxHeartbeats 8000000 in
set_option maxRecDepth 100000 in
theorem decklelaw10_ArrayTells.calls (k : Nat) (A0 : Option Addr) (c0 : Nat) (l0 : List (S32)) (A1 : Option Addr) (c1 : Nat) (l1 : List (S32)) (r : Bool) (w : World) (hr0 : Kd.C k32 w A0 l0.length l0) (hc0 : l0.length ≤ c0) (hr1 : Kd.C k32 w A1 l1.length l1) (hc1 : l1.length ≤ c1) (h : decklelaw10_ArrayTells.f k l0 l1 = some r) :
    Calls Try.prog 3 #[.slice A0 l0.length c0, .slice A1 l1.length c1] w fun e w' => e = .returned (.bool r) ∧ Below w.heap.size w w' := by
  have HR0 := Aside0.mk hr0
  have HC0 := Aside0.mk hc0
  clear hr0 hc0
  have HR1 := Aside0.mk hr1
  have HC1 := Aside0.mk hc1
  clear hr1 hc1
  have HB := Aside0.mk (Below.refl w.heap.size w)
  have H : ((decklelaw10_small.f k).bind fun t452 => ((decklelaw10_Few.f k l0).bind fun t453 => ((decklelaw10_Few.f k l1).bind fun t454 => (if t453 = true then (decklelaw10_ArrayTells.j0 k l0 l1 t452 (!t454)) else (decklelaw10_ArrayTells.j0 k l0 l1 t452 true))))) = some r := h
  clear h
  replace H := Option.bind_eq_some_iff.mp H
  obtain ⟨t452, A30, H⟩ := H
  have A3 := Aside0.mk A30
  clear A30
  replace H := Option.bind_eq_some_iff.mp H
  obtain ⟨t453, A40, H⟩ := H
  have A4 := Aside0.mk A40
  clear A40
  replace H := Option.bind_eq_some_iff.mp H
  obtain ⟨t454, A50, H⟩ := H
  have A5 := Aside0.mk A50
  clear A50
  have HC6 := Aside0.mk H
  clear H
  go_enter Try.func3, Try.ntmps3
  go_upto_region 4 with (first | ((first | ((with_reducible refine gate_callee (f := 8) rfl ?_); refine goesL_ (some 16) rfl rfl Try.func8 J8 rfl #[] rfl J1 ?_) | go_at_call 8); (with_reducible refine (decklelaw10_small.calls k  t452 _ A3.out).mono ?_); rintro e w7 ⟨rfl, hb⟩; (try refine ⟨_, rfl, ?_⟩); have n0_ := Aside0.mk (below_step J0 hb); clear HB; have HB := n0_; clear n0_; (try clear hb); (try clear hb2); (try clear hk); (try clear hi)) | ((first | ((with_reducible refine gate_callee (f := 9) rfl ?_); refine goesL_ (some 18) rfl rfl Try.func9 J8 rfl #[.slice A0 l0.length c0] rfl J1 ?_) | go_at_call 9); (with_reducible refine (decklelaw10_Few.calls k _ _ l0 t453 _ ?side1 ?side2 A4.out).mono ?_); (case side1 => repeat (first | exact (Kd.C_below HR0.out HB.out) | (with_reducible refine Kd.C_alloc ?_ _) | (with_reducible refine Kd.C_drewN ?_ _) | (with_reducible refine Kd.C_drew ?_))); (case side2 => exact HC0.out); rintro e w' ⟨rfl, ⟨nd, rfl⟩⟩; refine ⟨_, rfl, ?_⟩) | ((first | ((with_reducible refine gate_callee (f := 9) rfl ?_); refine goesL_ (some 20) rfl rfl Try.func9 J8 rfl #[.slice A1 l1.length c1] rfl J1 ?_) | go_at_call 9); (with_reducible refine (decklelaw10_Few.calls k _ _ l1 t454 _ ?side1 ?side2 A5.out).mono ?_); (case side1 => repeat (first | exact (Kd.C_below HR1.out J0) | (with_reducible refine Kd.C_alloc ?_ _) | (with_reducible refine Kd.C_drewN ?_ _) | (with_reducible refine Kd.C_drew ?_))); (case side2 => exact HC1.out); rintro e w' ⟨rfl, ⟨nd, rfl⟩⟩; refine ⟨_, rfl, ?_⟩))
  (try simp only [Act.put, List.setIfInBounds_toArray, List.set_cons_zero, List.set_cons_succ])
  go_cut [26] (fun v26 wc => ∃ (kq : Nat) (x26_5 : Bool), v26 = .bool x26_5 ∧ Aside0 (decklelaw10_ArrayTells.j0 kq l0 l1 t452 x26_5 = some r) ∧ Aside0 (kq ≤ k) ∧ Aside0 (Below w.heap.size w wc))
  case first =>
    have H := HC6.out
    clear HC6
    by_cases c8 : t453 = true
    · subst c8
      have H1 : (decklelaw10_ArrayTells.j0 k l0 l1 t452 (!t454)) = some r := J17
      clear H
      have H := H1
      clear H1
      have H' := Aside0.mk H
      clear H
      go_wp2
      go_meet
      case rel => exact ⟨_, (!t454), J4, H', ⟨J32⟩, ⟨J0⟩⟩
    replace c8 := Bool.eq_false_iff.mpr c8
    subst c8
    have H1 : (decklelaw10_ArrayTells.j0 k l0 l1 t452 true) = some r := J10
    clear H
    have H := H1
    clear H1
    have H' := Aside0.mk H
    clear H
    go_wp2
    go_meet
    case rel => exact ⟨_, (true), J4, H', ⟨J32⟩, ⟨J0⟩⟩
  case rest =>
    clear HC6
    try clear c1
    try clear p2
    try clear c3
    try clear c8
    obtain ⟨kq, x26_5, rfl, HA, HJ5, HB⟩ := hcut
    cases kq with
    | zero => exact absurd HA.out (by simp [decklelaw10_ArrayTells.j0])
    | succ kj5 =>
      have H := HA.out
      clear HA
      simp only [decklelaw10_ArrayTells.j0] at H
      by_cases c9 : x26_5 = true
      · subst c9
        have H1 : (some t452) = some r := J17
        clear H
        have H := H1
        clear H1
        obtain rfl := Option.some.inj H
        go_wp2
        go_ret
        exact ⟨J3, J0⟩
      replace c9 := Bool.eq_false_iff.mpr c9
      subst c9
      have H1 : ((array_Kids.f kj5 l0).bind fun t455 => ((deckleref10_Kids.f kj5 l0).bind fun t458 => (if (t455.length : Int) = (t458.length : Int) then (decklelaw10_ArrayTells.l0 kj5 l0 l1 t452 t455 t458 0) else (none)))) = some r := J10
      clear H
      have H := H1
      clear H1
      replace H := Option.bind_eq_some_iff.mp H
      obtain ⟨t455, A100, H⟩ := H
      have A10 := Aside0.mk A100
      clear A100
      replace H := Option.bind_eq_some_iff.mp H
      obtain ⟨t458, A110, H⟩ := H
      have A11 := Aside0.mk A110
      clear A110
      by_cases c12 : (t455.length : Int) = (t458.length : Int)
      rotate_left
      · rw [if_neg c12] at H
        exact absurd H J28
      rw [if_pos c12] at H
      have c12b0 : ((t455.length : Int) == (t458.length : Int)) = true := beq_iff_eq.mpr c12
      have c12b1 : ((t455.length : Int) != (t458.length : Int)) = false := bne_eq_false_iff_eq.mpr c12
      have c12b2 : (t455.length == t458.length) = true := by first | simpa using c12 | (simp at c12 ⊢; omega)
      clear c12
      have H' := Aside0.mk H
      clear H
      go_wp2_with (first | ((first | ((with_reducible refine gate_callee (f := 10) rfl ?_); refine goesL_ (some 29) rfl rfl Try.func10 J8 rfl #[.slice A0 l0.length c0] rfl J1 ?_) | go_at_call 10); (with_reducible refine (array_Kids.calls0 kj5 (fun k_ => k_ < w.heap.size) _ _ l0 t455 _ ?side1 A10.out).mono ?_); (case side1 => exact Kd.V_mk HC0.out (Kd.F_below (Kd.C_F k32_heap HR0.out) J0)); rintro e w13 ⟨v456, rfl, ho0, hb⟩; (try refine ⟨_, rfl, ?_⟩); have n0_ := Aside0.mk (Kd.R_lower (Kd.R_mono (ok' := fun k_ => True) ho0 (fun _ hk_ => trivial)) (below_size J0)); have n1_ := Aside0.mk (below_step J0 hb); clear HB; have HO457 := n0_; have HB := n1_; clear n0_ n1_; (try clear hb); (try clear hb2); (try clear hk); (try clear hi); (try clear ho0)) | ((first | ((with_reducible refine gate_callee (f := 11) rfl ?_); refine goesL_ (some 31) rfl rfl Try.func11 J8 rfl #[.slice A0 l0.length c0] rfl J1 ?_) | go_at_call 11); (with_reducible refine (deckleref10_Kids.calls kj5 _ _ l0 t458 _ ?side1 ?side2 A11.out).mono ?_); (case side1 => repeat (first | exact (Kd.C_below HR0.out HB.out) | (with_reducible refine Kd.C_alloc ?_ _) | (with_reducible refine Kd.C_drewN ?_ _) | (with_reducible refine Kd.C_drew ?_))); (case side2 => exact HC0.out); rintro e w14 ⟨v459, rfl, ho0, hb⟩; (try refine ⟨_, rfl, ?_⟩); have n0_ := Aside0.mk (Kd.R_elder' (zr HO457.out) (Kd.R_base ho0) hb); have n1_ := Aside0.mk (Kd.R_lower (Kd.R_new' ho0 (Kd.R_lt (zr HO457.out))) (below_size J0)); have n2_ := Aside0.mk (below_step J0 hb); clear HO457; clear HB; have HO457 := n0_; have HO460 := n1_; have HB := n2_; clear n0_ n1_ n2_; (try clear hb); (try clear hb2); (try clear hk); (try clear hi); (try clear ho0); obtain ⟨Ao15, co15, eo15⟩ := Kd.R_slice HO457.out; subst eo15; obtain ⟨Ao16, co16, eo16⟩ := Kd.R_slice HO460.out; subst eo16))
      go_loopg [10] kj5 (fun kq v10 w' => ∃ (x10_2 : Int), v10 = .int .i64 x10_2 ∧ Aside0 (decklelaw10_ArrayTells.l0 kq l0 l1 t452 t455 t458 x10_2 = some r) ∧ Aside0 (kq ≤ kj5) ∧ Aside0 (Kd.R (Kd.slice 32 k32) 22 w' w.heap.size (fun k_ => some k_ ≠ ((.slice Ao16 t458.length co16) : Value).ownBlock) (.slice Ao15 t455.length co15) t455) ∧ Aside0 (Kd.R (Kd.slice 32 k32) 22 w' w.heap.size (fun k_ => some k_ ≠ ((.slice Ao15 t455.length co15) : Value).ownBlock) (.slice Ao16 t458.length co16) t458) ∧ Aside0 (Below w.heap.size w w'))
      case atStart => exact ⟨(0), J4, H', ⟨Nat.le_refl _⟩, ⟨by (with_reducible repeat (first | apply Kd.R_alloc | apply Kd.R_drewN | apply Kd.R_drew)); exact Kd.R_mono HO457.out (fun _ hk => hk.2)⟩, ⟨by (with_reducible repeat (first | apply Kd.R_alloc | apply Kd.R_drewN | apply Kd.R_drew)); exact Kd.R_mono HO460.out (fun _ hk => hk.2)⟩, ⟨J0⟩⟩
      case round =>
        clear H'
        try clear c1
        try clear p2
        try clear c3
        try clear c8
        try clear c9
        try clear c10
        try clear c11
        try clear c12
        try clear c12b0
        try clear c12b1
        try clear c12b2
        try clear p2
        obtain ⟨x10_2, rfl, HA, HK2, HO_8, HO_9, HB⟩ := hrel
        cases gk with
        | zero => exact absurd HA.out (by simp [decklelaw10_ArrayTells.l0])
        | succ k2 =>
          have H := HA.out
          clear HA
          simp only [decklelaw10_ArrayTells.l0] at H
          by_cases c17 : x10_2 < (t455.length : Int)
          · rw [if_pos c17] at H
            have c17b0 := decide_eq_true c17
            clear c17
            by_cases c18 : 0 ≤ x10_2
            · rw [if_pos c18] at H
              have c18b0 := decide_eq_true c18
              clear c18
              by_cases c19 : x10_2 < (t458.length : Int)
              · rw [if_pos c19] at H
                have c19b0 := decide_eq_true c19
                clear c19
                replace H := Option.bind_eq_some_iff.mp H
                obtain ⟨t463, A200, H⟩ := H
                have A20 := Aside0.mk A200
                clear A200
                by_cases c21 : t463 = true
                · subst c21
                  have H1 : (decklelaw10_ArrayTells.l0 k2 l0 l1 t452 t455 t458 (wrap64 (x10_2 + 1))) = some r := J17
                  clear H
                  have H := H1
                  clear H1
                  have H' := Aside0.mk H
                  clear H
                  try go_wp2
                  have n0_ := Aside0.mk (Kd.R_drew HO_8.out)
                  have n1_ := Aside0.mk (Kd.R_drew HO_9.out)
                  have n2_ := Aside0.mk (below_drew1 HB.out)
                  clear HO_8
                  clear HO_9
                  clear HB
                  have HO_8 := n0_
                  have HO_9 := n1_
                  have HB := n2_
                  clear n0_ n1_ n2_
                  have p461 : 0 ≤ (x10_2 : Int) := of_decide_eq_true J2
                  have q461 : x10_2 < (t455.length : Int) := of_decide_eq_true J2
                  obtain ⟨ad461, A461_0, c461_0, e461, hx461_0, hl461_0, hi461_0⟩ := at_L5 (Kd.R_reads' HO_8.out).2.2 x10_2 p461 q461
                  cases e461
                  obtain ⟨ce461, hce461, hMe461, hcc461⟩ := Kd.R_get HO_8.out [] x10_2 p461 (by first | exact q461 | exact of_decide_eq_true J2 | (have e_ := (Kd.R_reads' HO_8.out).1; omega))
                  obtain ⟨ve461_0, rfl, ge461_0⟩ := hMe461
                  have hv461_0 := hcc461 0 _ rfl
                  rw [Nat.add_zero, show ((Kd.slice 32 k32)).sz = 1 from rfl, Nat.mul_one] at hv461_0
                  replace hv461_0 := Option.some.inj (hv461_0.symm.trans hx461_0)
                  rw [hv461_0] at ge461_0
                  have HL461_0 := Aside0.mk (show Kd.R k32 32 _ _ _ _ (rd_L5 t455 x10_2) from ge461_0)
                  clear hv461_0 ge461_0
                  clear hcc461 hce461
                  have HR461_0 := Aside0.mk hi461_0
                  have HC461_0 := Aside0.mk hl461_0
                  clear hi461_0 hl461_0
                  replace p461 := eq_true p461
                  replace q461 := eq_true q461
                  have p462 : 0 ≤ (x10_2 : Int) := of_decide_eq_true J2
                  have q462 : x10_2 < (t458.length : Int) := of_decide_eq_true J2
                  obtain ⟨ad462, A462_0, c462_0, e462, hx462_0, hl462_0, hi462_0⟩ := at_L5 (Kd.R_reads' HO_9.out).2.2 x10_2 p462 q462
                  cases e462
                  obtain ⟨ce462, hce462, hMe462, hcc462⟩ := Kd.R_get HO_9.out [] x10_2 p462 (by first | exact q462 | exact of_decide_eq_true J2 | (have e_ := (Kd.R_reads' HO_9.out).1; omega))
                  obtain ⟨ve462_0, rfl, ge462_0⟩ := hMe462
                  have hv462_0 := hcc462 0 _ rfl
                  rw [Nat.add_zero, show ((Kd.slice 32 k32)).sz = 1 from rfl, Nat.mul_one] at hv462_0
                  replace hv462_0 := Option.some.inj (hv462_0.symm.trans hx462_0)
                  rw [hv462_0] at ge462_0
                  have HL462_0 := Aside0.mk (show Kd.R k32 32 _ _ _ _ (rd_L5 t458 x10_2) from ge462_0)
                  clear hv462_0 ge462_0
                  clear hcc462 hce462
                  have HR462_0 := Aside0.mk hi462_0
                  have HC462_0 := Aside0.mk hl462_0
                  clear hi462_0 hl462_0
                  replace p462 := eq_true p462
                  replace q462 := eq_true q462
                  refine start_ (n := 10) (S := fun w' => w'.cell? (ad461.add (x10_2).toNat) = some (.slice A461_0 (rd_L5 t455 x10_2).length c461_0) ∧ w'.cell? (ad462.add (x10_2).toNat) = some (.slice A462_0 (rd_L5 t458 x10_2).length c462_0)) (ds := []) #[false, false, false, false, false, false, false, false, false, false] J8 rfl rfl ⟨hx461_0, hx462_0⟩ (fun hHeld => ?_); refine with_tabW decklelaw10_ArrayTells.tab13 decklelaw10_ArrayTells.bits13 (fun HT_ HW_ => ?_)
                  generalize wr.drew = w22 at HO_8 HO_9 HB HL461_0 HL462_0 HR461_0 HR462_0 hx461_0 hx462_0 hHeld ⊢
                  refine pure_ (i := 0) (N := some 43) (v := ?_) (a' := ?_) #[true, false, false, false, false, false, false, false, false, false] rfl rfl (any_of HT_.out J8) (fun _ _ _ h => h) (Or.inl ⟨J47, ?_⟩) ?_ ?_
                  rotate_left
                  · intro w'
                    go_simp
                    with_reducible rfl
                  rotate_left
                  · simp only [Act.put, List.setIfInBounds_toArray, List.set_cons_zero, List.set_cons_succ, i64_w, i32_w]
                    rfl
                  refine pure_ (i := 1) (N := some 44) (v := ?_) (a' := ?_) #[true, true, false, false, false, false, false, false, false, false] rfl rfl (any_of HT_.out J8) (fun _ _ _ h => h) (Or.inl ⟨J47, ?_⟩) ?_ ?_
                  rotate_left
                  · intro w'
                    go_simp
                    with_reducible rfl
                  rotate_left
                  · simp only [Act.put, List.setIfInBounds_toArray, List.set_cons_zero, List.set_cons_succ, i64_w, i32_w]
                    rfl
                  refine pure_ (i := 2) (N := some 45) (v := ?_) (a' := ?_) #[true, true, true, false, false, false, false, false, false, false] rfl rfl (any_of HT_.out J8) (fun _ _ _ h => h) (Or.inl ⟨J47, ?_⟩) ?_ ?_
                  rotate_left
                  · intro w'
                    go_simp
                    with_reducible rfl
                  rotate_left
                  · simp only [Act.put, List.setIfInBounds_toArray, List.set_cons_zero, List.set_cons_succ, i64_w, i32_w]
                    rfl
                  refine pure_ (i := 4) (N := some 47) (v := ?_) (a' := ?_) #[true, true, true, false, true, false, false, false, false, false] rfl rfl (any_of HT_.out J8) (fun _ _ _ h => h) (Or.inl ⟨J47, ?_⟩) ?_ ?_
                  rotate_left
                  · intro w'
                    go_simp
                    with_reducible rfl
                  rotate_left
                  · simp only [Act.put, List.setIfInBounds_toArray, List.set_cons_zero, List.set_cons_succ, i64_w, i32_w]
                    rfl
                  refine pure_ (i := 5) (N := some 48) (v := ?_) (a' := ?_) #[true, true, true, false, true, true, false, false, false, false] rfl rfl (any_of HT_.out J8) (fun _ _ _ h => h) (Or.inl ⟨J47, ?_⟩) ?_ ?_
                  rotate_left
                  · intro w'
                    go_simp
                    with_reducible rfl
                  rotate_left
                  · simp only [Act.put, List.setIfInBounds_toArray, List.set_cons_zero, List.set_cons_succ, i64_w, i32_w]
                    rfl
                  refine pure_ (i := 6) (N := some 49) (v := ?_) (a' := ?_) #[true, true, true, false, true, true, true, false, false, false] rfl rfl (any_of HT_.out J8) (fun _ _ _ h => h) (Or.inl ⟨J47, ?_⟩) ?_ ?_
                  rotate_left
                  · intro w'
                    go_simp
                    with_reducible rfl
                  rotate_left
                  · simp only [Act.put, List.setIfInBounds_toArray, List.set_cons_zero, List.set_cons_succ, i64_w, i32_w]
                    rfl
                  refine take_ (i := 3) (N := some 46) (v := ?_) (a' := ?_) #[true, true, true, true, true, true, true, false, false, false] rfl rfl (take_ofW HT_.out HW_.out J8) (fun _ _ _ h => h) (Or.inl ⟨J47, ?_⟩) hHeld ?_ ?_
                  rotate_left
                  · rintro w' ⟨s0, s1⟩
                    go_simp
                    with_reducible rfl
                  rotate_left
                  · simp only [Act.put, List.setIfInBounds_toArray, List.set_cons_zero, List.set_cons_succ, i64_w, i32_w]
                    rfl
                  refine take_ (i := 7) (N := some 50) (v := ?_) (a' := ?_) #[true, true, true, true, true, true, true, true, false, false] rfl rfl (take_ofW HT_.out HW_.out J8) (fun _ _ _ h => h) (Or.inl ⟨J47, ?_⟩) hHeld ?_ ?_
                  rotate_left
                  · rintro w' ⟨s0, s1⟩
                    go_simp
                    with_reducible rfl
                  rotate_left
                  · simp only [Act.put, List.setIfInBounds_toArray, List.set_cons_zero, List.set_cons_succ, i64_w, i32_w]
                    rfl
                  refine one_ (i := 8) (N := some 51) #[true, true, true, true, true, true, true, true, true, false] rfl rfl (one_of HT_.out J8) J21 (fun K hK => ?_)
                  refine goes_ Try.func12 J8 rfl #[.slice A461_0 (rd_L5 t455 x10_2).length c461_0, .slice A462_0 (rd_L5 t458 x10_2).length c462_0] J47 rfl rfl J1 ?_
                  with_reducible refine (deckleref10_Same.calls k2 _ _ (rd_L5 t455 x10_2) _ _ (rd_L5 t458 x10_2) true _ ?side1 ?side2 ?side3 ?side4 A20.out).mono ?_
                  (case side1 => repeat (first | exact (by repeat (first | (with_reducible exact HR461_0.out) | (with_reducible refine Kd.C_alloc ?_ _) | (with_reducible refine Kd.C_drewN ?_ _) | (with_reducible refine Kd.C_drew ?_) | exact HR461_0.out)) | (with_reducible refine Kd.C_alloc ?_ _) | (with_reducible refine Kd.C_drewN ?_ _) | (with_reducible refine Kd.C_drew ?_)))
                  (case side2 => exact HC461_0.out)
                  (case side3 => repeat (first | exact (by repeat (first | (with_reducible exact HR462_0.out) | (with_reducible refine Kd.C_alloc ?_ _) | (with_reducible refine Kd.C_drewN ?_ _) | (with_reducible refine Kd.C_drew ?_) | exact HR462_0.out)) | (with_reducible refine Kd.C_alloc ?_ _) | (with_reducible refine Kd.C_drewN ?_ _) | (with_reducible refine Kd.C_drew ?_)))
                  (case side4 => exact HC462_0.out)
                  rintro e w23 ⟨rfl, hb⟩
                  have HS0_ := (hb.cell (World.block_lt_of_cell? _ _ (hHeld.1))).trans (hHeld.1)
                  have HS1_ := (hb.cell (World.block_lt_of_cell? _ _ (hHeld.2))).trans (hHeld.2)
                  refine ⟨_, rfl, ?_⟩
                  have n0_ := Aside0.mk (Kd.R_below (zr HO_8.out) hb)
                  have n1_ := Aside0.mk (Kd.R_below (zr HO_9.out) hb)
                  have n6_ := Aside0.mk (below_step J0 hb)
                  clear HO_8
                  clear HO_9
                  clear HB
                  have HO_8 := n0_
                  have HO_9 := n1_
                  have HB := n6_
                  clear n0_ n1_ n6_
                  (try clear hb)
                  (try clear hb2)
                  (try clear hk)
                  (try clear hi)
                  refine hK.out _ _ ⟨HS0_, HS1_⟩ (fun hHeld => ?_)
                  clear hK K
                  refine norm_ (a' := ?_) ?_ ?_
                  rotate_left
                  · show Act.put _ (some 51) _ = _
                    simp only [Act.put, List.setIfInBounds_toArray, List.set_cons_zero, List.set_cons_succ, i64_w, i32_w]
                    rfl
                  refine pure_ (i := 9) (N := some 52) (v := ?_) (a' := ?_) #[true, true, true, true, true, true, true, true, true, true] rfl rfl (any_of HT_.out J8) (fun _ _ _ h => h) (Or.inl ⟨J47, ?_⟩) ?_ ?_
                  rotate_left
                  · intro w'
                    go_simp
                    with_reducible rfl
                  rotate_left
                  · simp only [Act.put, List.setIfInBounds_toArray, List.set_cons_zero, List.set_cons_succ, i64_w, i32_w]
                    rfl
                  refine done_ (done_of HT_.out J8) ?_
                  try go_wp2
                  go_roundg k2
                  case measure => have := HJ5.out; have := HK2.out; omega
                  case rel => exact ⟨(wrap64 (x10_2 + 1)), J4, H', ⟨by have := HJ5.out; have := HK2.out; omega⟩, ⟨by (with_reducible repeat (first | apply Kd.R_alloc | apply Kd.R_drewN | apply Kd.R_drew)); exact HO_8.out⟩, ⟨by (with_reducible repeat (first | apply Kd.R_alloc | apply Kd.R_drewN | apply Kd.R_drew)); exact HO_9.out⟩, ⟨J0⟩⟩
                · replace c21 := Bool.eq_false_iff.mpr c21
                  subst c21
                  have H1 : (none) = some r := J10
                  clear H
                  have H := H1
                  clear H1
                  exact absurd H J28
              · rw [if_neg c19] at H
                exact absurd H J28
            · rw [if_neg c18] at H
              exact absurd H J28
          rw [if_neg c17] at H
          have c17b0 := decide_eq_false c17
          clear c17
          replace H := Option.bind_eq_some_iff.mp H
          obtain ⟨t464, A240, H⟩ := H
          have A24 := Aside0.mk A240
          clear A240
          replace H := Option.bind_eq_some_iff.mp H
          obtain ⟨t467, A250, H⟩ := H
          have A25 := Aside0.mk A250
          clear A250
          by_cases c26 : t452 = true
          rotate_left
          · replace c26 := Bool.eq_false_iff.mpr c26
            subst c26
            have H1 : (none) = some r := J10
            clear H
            have H := H1
            clear H1
            exact absurd H J28
          subst c26
          have H1 : (if t467 = true then ((array_Right.f k2 l0).bind fun t468 => ((deckleref10_Right.f k2 l0).bind fun t469 => (if (t468 == t469) = true then ((array_Take.f k2 l0).bind fun t470 => ((deckleref10_Take.f k2 l0).bind fun t471 => (if t470 = t471 then ((array_Items.f k2 l0).bind fun t472 => ((deckleref10_Items.f k2 l0).bind fun t473 => (if t472 = t473 then ((array_Depth.f k2 l0).bind fun t474 => ((deckleref10_Depth.f k2 l0).bind fun t475 => (if t474 = t475 then ((array_Rank.f k2 l0).bind fun t476 => ((deckleref10_Rank.f k2 l0).bind fun t477 => (if t476 = t477 then ((array_Same.f k2 l0 l1).bind fun t478 => ((deckleref10_Same.f k2 l0 l1).bind fun t479 => (some (t478 == t479)))) else (none)))) else (none)))) else (none)))) else (none)))) else (none)))) else (none)) = some r := J17
          clear H
          have H := H1
          clear H1
          by_cases c27 : t467 = true
          rotate_left
          · replace c27 := Bool.eq_false_iff.mpr c27
            subst c27
            have H1 : (none) = some r := J10
            clear H
            have H := H1
            clear H1
            exact absurd H J28
          subst c27
          have H1 : ((array_Right.f k2 l0).bind fun t468 => ((deckleref10_Right.f k2 l0).bind fun t469 => (if (t468 == t469) = true then ((array_Take.f k2 l0).bind fun t470 => ((deckleref10_Take.f k2 l0).bind fun t471 => (if t470 = t471 then ((array_Items.f k2 l0).bind fun t472 => ((deckleref10_Items.f k2 l0).bind fun t473 => (if t472 = t473 then ((array_Depth.f k2 l0).bind fun t474 => ((deckleref10_Depth.f k2 l0).bind fun t475 => (if t474 = t475 then ((array_Rank.f k2 l0).bind fun t476 => ((deckleref10_Rank.f k2 l0).bind fun t477 => (if t476 = t477 then ((array_Same.f k2 l0 l1).bind fun t478 => ((deckleref10_Same.f k2 l0 l1).bind fun t479 => (some (t478 == t479)))) else (none)))) else (none)))) else (none)))) else (none)))) else (none)))) = some r := J17
          clear H
          have H := H1
          clear H1
          replace H := Option.bind_eq_some_iff.mp H
          obtain ⟨t468, A280, H⟩ := H
          have A28 := Aside0.mk A280
          clear A280
          replace H := Option.bind_eq_some_iff.mp H
          obtain ⟨t469, A290, H⟩ := H
          have A29 := Aside0.mk A290
          clear A290
          by_cases c30 : (t468 == t469) = true
          rotate_left
          · rw [if_neg c30] at H
            exact absurd H J28
          rw [if_pos c30] at H
          have c30b0 : (t468 == t469) = true := c30
          (try (have c30b1 : decide (t468 = t469) = true := by simpa using c30))
          (try (have c30b2 : (t468 == t469) = true := by simpa using c30))
          clear c30
          replace H := Option.bind_eq_some_iff.mp H
          obtain ⟨t470, A310, H⟩ := H
          have A31 := Aside0.mk A310
          clear A310
          replace H := Option.bind_eq_some_iff.mp H
          obtain ⟨t471, A320, H⟩ := H
          have A32 := Aside0.mk A320
          clear A320
          by_cases c33 : t470 = t471
          rotate_left
          · rw [if_neg c33] at H
            exact absurd H J28
          rw [if_pos c33] at H
          have c33b0 : (t470 == t471) = true := beq_iff_eq.mpr c33
          have c33b1 : (t470 != t471) = false := bne_eq_false_iff_eq.mpr c33
          clear c33
          replace H := Option.bind_eq_some_iff.mp H
          obtain ⟨t472, A340, H⟩ := H
          have A34 := Aside0.mk A340
          clear A340
          replace H := Option.bind_eq_some_iff.mp H
          obtain ⟨t473, A350, H⟩ := H
          have A35 := Aside0.mk A350
          clear A350
          by_cases c36 : t472 = t473
          rotate_left
          · rw [if_neg c36] at H
            exact absurd H J28
          rw [if_pos c36] at H
          have c36b0 : (t472 == t473) = true := beq_iff_eq.mpr c36
          have c36b1 : (t472 != t473) = false := bne_eq_false_iff_eq.mpr c36
          clear c36
          replace H := Option.bind_eq_some_iff.mp H
          obtain ⟨t474, A370, H⟩ := H
          have A37 := Aside0.mk A370
          clear A370
          replace H := Option.bind_eq_some_iff.mp H
          obtain ⟨t475, A380, H⟩ := H
          have A38 := Aside0.mk A380
          clear A380
          by_cases c39 : t474 = t475
          rotate_left
          · rw [if_neg c39] at H
            exact absurd H J28
          rw [if_pos c39] at H
          have c39b0 : (t474 == t475) = true := beq_iff_eq.mpr c39
          have c39b1 : (t474 != t475) = false := bne_eq_false_iff_eq.mpr c39
          clear c39
          replace H := Option.bind_eq_some_iff.mp H
          obtain ⟨t476, A400, H⟩ := H
          have A40 := Aside0.mk A400
          clear A400
          replace H := Option.bind_eq_some_iff.mp H
          obtain ⟨t477, A410, H⟩ := H
          have A41 := Aside0.mk A410
          clear A410
          by_cases c42 : t476 = t477
          rotate_left
          · rw [if_neg c42] at H
            exact absurd H J28
          rw [if_pos c42] at H
          have c42b0 : (t476 == t477) = true := beq_iff_eq.mpr c42
          have c42b1 : (t476 != t477) = false := bne_eq_false_iff_eq.mpr c42
          clear c42
          replace H := Option.bind_eq_some_iff.mp H
          obtain ⟨t478, A430, H⟩ := H
          have A43 := Aside0.mk A430
          clear A430
          replace H := Option.bind_eq_some_iff.mp H
          obtain ⟨t479, A440, H⟩ := H
          have A44 := Aside0.mk A440
          clear A440
          obtain rfl := Option.some.inj H
          go_wp2_with (first | ((first | ((with_reducible refine gate_callee (f := 13) rfl ?_); refine goesL_ (some 54) rfl rfl Try.func13 J8 rfl #[.slice A0 l0.length c0] rfl J1 ?_) | go_at_call 13); (with_reducible refine (array_Copy.calls _ _ l0 t464 _ ?side1 ?side2 A24.out).mono ?_); (case side1 => repeat (first | exact (Kd.C_below HR0.out HB.out) | (with_reducible refine Kd.C_alloc ?_ _) | (with_reducible refine Kd.C_drewN ?_ _) | (with_reducible refine Kd.C_drew ?_))); (case side2 => exact HC0.out); rintro e w45 ⟨v465, rfl, ho0, hb⟩; (try refine ⟨_, rfl, ?_⟩); have n0_ := Aside0.mk (Kd.R_elder' (zr HO_8.out) (Kd.S_base ho0) hb); have n1_ := Aside0.mk (Kd.R_elder' (zr HO_9.out) (Kd.S_base ho0) hb); have n2_ := Aside0.mk (Kd.S_lower ho0 (below_size J0)); have n3_ := Aside0.mk (below_step J0 hb); clear HO_8; clear HO_9; clear HB; have HO_8 := n0_; have HO_9 := n1_; have HO466 := n2_; have HB := n3_; clear n0_ n1_ n2_ n3_; (try clear hb); (try clear hb2); (try clear hk); (try clear hi); (try clear ho0); obtain ⟨Ao46, co46, eo46⟩ := Kd.S_slice HO466.out; subst eo46) | ((first | ((with_reducible refine gate_callee (f := 12) rfl ?_); refine goesL_ (some 57) rfl rfl Try.func12 J8 rfl #[.slice Ao46 t464.length co46, .slice A0 l0.length c0] rfl J1 ?_) | go_at_call 12); (with_reducible refine (deckleref10_Same.calls k2 _ _ t464 _ _ l0 true _ ?side1 ?side2 ?side3 ?side4 A25.out).mono ?_); (case side1 => repeat (first | exact (Kd.S_reads' HO466.out).2.2 | (with_reducible refine Kd.C_alloc ?_ _) | (with_reducible refine Kd.C_drewN ?_ _) | (with_reducible refine Kd.C_drew ?_))); (case side2 => exact (Kd.S_reads' HO466.out).2.1); (case side3 => repeat (first | exact (Kd.C_below HR0.out HB.out) | (with_reducible refine Kd.C_alloc ?_ _) | (with_reducible refine Kd.C_drewN ?_ _) | (with_reducible refine Kd.C_drew ?_))); (case side4 => exact HC0.out); rintro e w47 ⟨rfl, hb⟩; (try refine ⟨_, rfl, ?_⟩); have n0_ := Aside0.mk (Kd.R_below (zr HO_8.out) hb); have n1_ := Aside0.mk (Kd.R_below (zr HO_9.out) hb); have n2_ := Aside0.mk (Kd.S_below (zs HO466.out) hb); have n3_ := Aside0.mk (below_step J0 hb); clear HO_8; clear HO_9; clear HO466; clear HB; have HO_8 := n0_; have HO_9 := n1_; have HO466 := n2_; have HB := n3_; clear n0_ n1_ n2_ n3_; (try clear hb); (try clear hb2); (try clear hk); (try clear hi)) | ((with_reducible refine gate_dst (N := 13) rfl ?_); refine hold77 ?_))
          have HW77 := Aside0.mk (WrC.of_R (Kd.S_R HO466.out))
          have HLN := Aside0.mk (Kd.S_reads' HO466.out).2.2.2.1
          have HBE := HB
          go_loopg [13] t464.length (fun kq v13 w' => ∃ i : Nat, v13 = .int .i64 (i : Int) ∧ Aside0 (i + kq = t464.length) ∧ Aside0 (WrC w' w.heap.size Ao46 t464) ∧ Aside0 (Below w.heap.size w w'))
          case atStart => exact ⟨0, rfl, ⟨Nat.zero_add _⟩, HW77, HBE⟩
          case round =>
            clear HW77 HBE HO_8 HO_9 HO466 HB
            obtain ⟨i, rfl, HI, HW, HB⟩ := hrel
            cases gk with
            | zero =>
              have hi : i = t464.length := by have := HI.out; omega
              have ci : ((i : Int) < (t464.length : Int)) = False := eq_false J31
              go_wp2_with (first | (go_at_call 14; (with_reducible refine (array_Right.calls k2 _ _ l0 t468 _ ?side1 ?side2 A28.out).mono ?_); (case side1 => repeat (first | exact (Kd.C_below HR0.out HB.out) | (with_reducible refine Kd.C_alloc ?_ _) | (with_reducible refine Kd.C_drewN ?_ _) | (with_reducible refine Kd.C_drew ?_))); (case side2 => exact HC0.out); rintro e w48 ⟨rfl, hb⟩; replace HB := Aside0.mk (below_step J0 hb); (try clear hb); (try clear hb2); (try clear hk); (try clear hi)) | (go_at_call 15; (with_reducible refine (deckleref10_Right.calls k2 _ _ l0 t469 _ ?side1 ?side2 A29.out).mono ?_); (case side1 => repeat (first | exact (Kd.C_below HR0.out HB.out) | (with_reducible refine Kd.C_alloc ?_ _) | (with_reducible refine Kd.C_drewN ?_ _) | (with_reducible refine Kd.C_drew ?_))); (case side2 => exact HC0.out); rintro e w49 ⟨rfl, hb⟩; replace HB := Aside0.mk (below_step J0 hb); (try clear hb); (try clear hb2); (try clear hk); (try clear hi)) | (go_at_call 16; (with_reducible refine (array_Take.calls k2 _ _ l0 t470 _ ?side1 ?side2 A31.out).mono ?_); (case side1 => repeat (first | exact (Kd.C_below HR0.out HB.out) | (with_reducible refine Kd.C_alloc ?_ _) | (with_reducible refine Kd.C_drewN ?_ _) | (with_reducible refine Kd.C_drew ?_))); (case side2 => exact HC0.out); rintro e w50 ⟨rfl, hb⟩; replace HB := Aside0.mk (below_step J0 hb); (try clear hb); (try clear hb2); (try clear hk); (try clear hi)) | (go_at_call 17; (with_reducible refine (deckleref10_Take.calls k2 _ _ l0 t471 _ ?side1 ?side2 A32.out).mono ?_); (case side1 => repeat (first | exact (Kd.C_below HR0.out HB.out) | (with_reducible refine Kd.C_alloc ?_ _) | (with_reducible refine Kd.C_drewN ?_ _) | (with_reducible refine Kd.C_drew ?_))); (case side2 => exact HC0.out); rintro e w51 ⟨rfl, hb⟩; replace HB := Aside0.mk (below_step J0 hb); (try clear hb); (try clear hb2); (try clear hk); (try clear hi)) | (go_at_call 18; (with_reducible refine (array_Items.calls k2 _ _ l0 t472 _ ?side1 ?side2 A34.out).mono ?_); (case side1 => repeat (first | exact (Kd.C_below HR0.out HB.out) | (with_reducible refine Kd.C_alloc ?_ _) | (with_reducible refine Kd.C_drewN ?_ _) | (with_reducible refine Kd.C_drew ?_))); (case side2 => exact HC0.out); rintro e w52 ⟨rfl, hb⟩; replace HB := Aside0.mk (below_step J0 hb); (try clear hb); (try clear hb2); (try clear hk); (try clear hi)) | (go_at_call 19; (with_reducible refine (deckleref10_Items.calls k2 _ _ l0 t473 _ ?side1 ?side2 A35.out).mono ?_); (case side1 => repeat (first | exact (Kd.C_below HR0.out HB.out) | (with_reducible refine Kd.C_alloc ?_ _) | (with_reducible refine Kd.C_drewN ?_ _) | (with_reducible refine Kd.C_drew ?_))); (case side2 => exact HC0.out); rintro e w53 ⟨rfl, hb⟩; replace HB := Aside0.mk (below_step J0 hb); (try clear hb); (try clear hb2); (try clear hk); (try clear hi)) | (go_at_call 20; (with_reducible refine (array_Depth.calls k2 _ _ l0 t474 _ ?side1 ?side2 A37.out).mono ?_); (case side1 => repeat (first | exact (Kd.C_below HR0.out HB.out) | (with_reducible refine Kd.C_alloc ?_ _) | (with_reducible refine Kd.C_drewN ?_ _) | (with_reducible refine Kd.C_drew ?_))); (case side2 => exact HC0.out); rintro e w54 ⟨rfl, hb⟩; replace HB := Aside0.mk (below_step J0 hb); (try clear hb); (try clear hb2); (try clear hk); (try clear hi)) | (go_at_call 21; (with_reducible refine (deckleref10_Depth.calls k2 _ _ l0 t475 _ ?side1 ?side2 A38.out).mono ?_); (case side1 => repeat (first | exact (Kd.C_below HR0.out HB.out) | (with_reducible refine Kd.C_alloc ?_ _) | (with_reducible refine Kd.C_drewN ?_ _) | (with_reducible refine Kd.C_drew ?_))); (case side2 => exact HC0.out); rintro e w55 ⟨rfl, hb⟩; replace HB := Aside0.mk (below_step J0 hb); (try clear hb); (try clear hb2); (try clear hk); (try clear hi)) | (go_at_call 22; (with_reducible refine (array_Rank.calls k2 _ _ l0 t476 _ ?side1 ?side2 A40.out).mono ?_); (case side1 => repeat (first | exact (Kd.C_below HR0.out HB.out) | (with_reducible refine Kd.C_alloc ?_ _) | (with_reducible refine Kd.C_drewN ?_ _) | (with_reducible refine Kd.C_drew ?_))); (case side2 => exact HC0.out); rintro e w56 ⟨rfl, hb⟩; replace HB := Aside0.mk (below_step J0 hb); (try clear hb); (try clear hb2); (try clear hk); (try clear hi)) | (go_at_call 23; (with_reducible refine (deckleref10_Rank.calls k2 _ _ l0 t477 _ ?side1 ?side2 A41.out).mono ?_); (case side1 => repeat (first | exact (Kd.C_below HR0.out HB.out) | (with_reducible refine Kd.C_alloc ?_ _) | (with_reducible refine Kd.C_drewN ?_ _) | (with_reducible refine Kd.C_drew ?_))); (case side2 => exact HC0.out); rintro e w57 ⟨rfl, hb⟩; replace HB := Aside0.mk (below_step J0 hb); (try clear hb); (try clear hb2); (try clear hk); (try clear hi)) | (go_at_call 24; (with_reducible refine (array_Same.calls k2 _ _ l0 _ _ l1 t478 _ ?side1 ?side2 ?side3 ?side4 A43.out).mono ?_); (case side1 => repeat (first | exact (Kd.C_below HR0.out HB.out) | (with_reducible refine Kd.C_alloc ?_ _) | (with_reducible refine Kd.C_drewN ?_ _) | (with_reducible refine Kd.C_drew ?_))); (case side2 => exact HC0.out); (case side3 => repeat (first | exact (Kd.C_below HR1.out HB.out) | (with_reducible refine Kd.C_alloc ?_ _) | (with_reducible refine Kd.C_drewN ?_ _) | (with_reducible refine Kd.C_drew ?_))); (case side4 => exact HC1.out); rintro e w58 ⟨rfl, hb⟩; replace HB := Aside0.mk (below_step J0 hb); (try clear hb); (try clear hb2); (try clear hk); (try clear hi)) | (go_at_call 12; (with_reducible refine (deckleref10_Same.calls k2 _ _ l0 _ _ l1 t479 _ ?side1 ?side2 ?side3 ?side4 A44.out).mono ?_); (case side1 => repeat (first | exact (Kd.C_below HR0.out HB.out) | (with_reducible refine Kd.C_alloc ?_ _) | (with_reducible refine Kd.C_drewN ?_ _) | (with_reducible refine Kd.C_drew ?_))); (case side2 => exact HC0.out); (case side3 => repeat (first | exact (Kd.C_below HR1.out HB.out) | (with_reducible refine Kd.C_alloc ?_ _) | (with_reducible refine Kd.C_drewN ?_ _) | (with_reducible refine Kd.C_drew ?_))); (case side4 => exact HC1.out); rintro e w59 ⟨rfl, hb⟩; replace HB := Aside0.mk (below_step J0 hb); (try clear hb); (try clear hb2); (try clear hk); (try clear hi)))
              go_ret
              exact ⟨J3, J0⟩
            | succ k77 =>
              have hi : i < t464.length := by have := HI.out; omega
              have ci : ((i : Int) < (t464.length : Int)) = True := eq_true J31
              have ci0 : (0 ≤ (i : Int)) = True := eq_true J31
              have ciw := wrap_ix hi HLN.out
              obtain ⟨g, cur, A1, c1, A2, c2, eA, hg, h1, h2, w1, w2, n1, n2⟩ := HW.out i hi
              have HG := Aside0.mk hg
              have W1 := Aside0.mk w1
              have W2 := Aside0.mk w2
              have H1 := Aside0.mk h1
              have H2 := Aside0.mk h2
              have N1 := Aside0.mk n1
              have N2 := Aside0.mk n2
              subst eA
              clear hg w1 w2 h1 h2 n1 n2
              go_wp2_with (first | ((with_reducible refine gate_dst (N := 14) rfl ?_); refine hold77 ?_))
              try refine Hold77.mk ?_
              repeat go_step
              go_loopg [14] (t464[i].f2.length) (fun kq v14 w' => ∃ j : Nat, v14 = .int .i64 (j : Int) ∧ Aside0 (j + kq = t464[i].f2.length) ∧ Aside0 (WrC w' w.heap.size (some ⟨g, 0, none⟩) t464) ∧ Aside0 (w'.heap[g]? = some (.cells cur 32 (0, 0))) ∧ Aside0 (Wr3 w' w.heap.size A1 (t464[i].f1.length)) ∧ Aside0 (Wr3 w' w.heap.size A2 (t464[i].f2.length)) ∧ Aside0 (Below w.heap.size w w'))
              case atStart => exact ⟨0, rfl, ⟨Nat.zero_add _⟩, HW, HG, W1, W2, HB⟩
              case round =>
                clear HW HG W1 W2 HB
                obtain ⟨j, rfl, HJ, HW, HG, W1, W2, HB⟩ := hrel
                have hcl := (blk_cell HG.out (i * 4 + 2)).trans H2.out
                cases gk with
                | zero =>
                  have hj : j = t464[i].f2.length := J94
                  have cj : ((j : Int) < (t464[i].f2.length : Int)) = False := eq_false J31
                  go_wp2_with (first | ((with_reducible refine gate_dst (N := 15) rfl ?_); refine hold77 ?_))
                  try refine Hold77.mk ?_
                  repeat go_step
                  clear hcl cj
                  go_loopg [15] (t464[i].f1.length) (fun kq v15 w' => ∃ q : Nat, v15 = .int .i64 (q : Int) ∧ Aside0 (q + kq = t464[i].f1.length) ∧ Aside0 (WrC w' w.heap.size (some ⟨g, 0, none⟩) t464) ∧ Aside0 (w'.heap[g]? = some (.cells cur 32 (0, 0))) ∧ Aside0 (Wr3 w' w.heap.size A1 (t464[i].f1.length)) ∧ Aside0 (Wr3 w' w.heap.size A2 (t464[i].f2.length)) ∧ Aside0 (Below w.heap.size w w'))
                  case atStart => exact ⟨0, rfl, ⟨Nat.zero_add _⟩, HW, HG, W1, W2, HB⟩
                  case round =>
                    clear HW HG W1 W2 HB HJ hj
                    obtain ⟨q, rfl, HJ, HW, HG, W1, W2, HB⟩ := hrel
                    have hcl := (blk_cell HG.out (i * 4 + 1)).trans H1.out
                    cases gk with
                    | zero =>
                      have hq : q = t464[i].f1.length := J94
                      have cj : ((q : Int) < (t464[i].f1.length : Int)) = False := eq_false J31
                      go_wp2
                      go_roundg k77
                      case measure => have := HI.out; omega
                      case rel => exact ⟨i + 1, (by first | rfl | simp only [ciw]), ⟨by have := HI.out; omega⟩, HW, HB⟩
                    | succ k79 =>
                      have hq : q < t464[i].f1.length := J94
                      have cj : ((q : Int) < (t464[i].f1.length : Int)) = True := eq_true J31
                      have cj0 : (0 ≤ (q : Int)) = True := eq_true J31
                      have cw := wrap_ix hq N1.out
                      obtain ⟨g2, cur2, e2, hb2, hg2, hs2⟩ := W1.out q hq
                      subst e2
                      have hc2 : wr.cell? ⟨g2, q, none⟩ = some cur2[q] := (blk_cell hg2 q).trans (Array.getElem?_eq_getElem hs2)
                      have hfz := blk_frozen hg2 q
                      have HG2 := Aside0.mk hg2
                      have HB2 := Aside0.mk hb2
                      clear hg2 hb2
                      go_wp2
                      go_roundg k79
                      case measure => have := HJ.out; omega
                      case rel => exact ⟨q + 1, (by first | rfl | simp only [cw]), ⟨J94⟩, ⟨HW.out.set HG2.out _⟩, ⟨hd_set HG.out HG2.out _⟩, ⟨W1.out.set HG2.out _⟩, ⟨W2.out.set HG2.out _⟩, ⟨below_set HB.out HB2.out⟩⟩
                | succ k78 =>
                  have hq : j < t464[i].f2.length := J94
                  have cj : ((j : Int) < (t464[i].f2.length : Int)) = True := eq_true J31
                  have cj0 : (0 ≤ (j : Int)) = True := eq_true J31
                  have cw := wrap_ix hq N2.out
                  obtain ⟨g2, cur2, e2, hb2, hg2, hs2⟩ := W2.out j hq
                  subst e2
                  have hc2 : wr.cell? ⟨g2, j, none⟩ = some cur2[j] := (blk_cell hg2 j).trans (Array.getElem?_eq_getElem hs2)
                  have hfz := blk_frozen hg2 j
                  have HG2 := Aside0.mk hg2
                  have HB2 := Aside0.mk hb2
                  clear hg2 hb2
                  go_wp2
                  go_roundg k78
                  case measure => have := HJ.out; omega
                  case rel => exact ⟨j + 1, (by first | rfl | simp only [cw]), ⟨J94⟩, ⟨HW.out.set HG2.out _⟩, ⟨hd_set HG.out HG2.out _⟩, ⟨W1.out.set HG2.out _⟩, ⟨W2.out.set HG2.out _⟩, ⟨below_set HB.out HB2.out⟩⟩
end Go.Proofs.Ytgbmbcippldhnaa.HArrayTells
