-- Written by the session's program hy.py.
import Derived.Test.YtaonclkhjcbgoaaHLimitEnoughx0
import Derived.Test.YtaonclkhjcbgoaaHLimitEnoughx1
import Derived.Test.YtaonclkhjcbgoaaHLimitEnoughx2
import Derived.Test.YtaonclkhjcbgoaaHLimitEnoughx3
namespace Go.Proofs.Ytaonclkhjcbgoaa.HLimitEnough
open Go.RowKit Go.Proofs.YtaonclkhjcbgoaaW.PrintWords Go.Proofs.YtaonclkhjcbgoaaW.PrintLast Go.Proofs.YtaonclkhjcbgoaaW.PrintMore
attribute [local go_sem] max2_int min2_int max_two min_two max_three min_three max_four min_four   -- for this text's walks alone
set_option linter.unusedVariables false
set_option linter.unusedSimpArgs false

/-! ### decklelaw19_small: function 7 -/
attribute [local go_sem high] eqA23

/-- What Nodes does: node by node, up to the first that crosses a limit. -/
def nodesF : List (Int × Int × Int) → Int → Int → Int → Int → Int → Int → Int → Int → Int → Int → Int → Option (Int × Int × Int × Int × Int × Int × Int × Int × Int × Int × Int × Int)
  | [], s0, s1, s2, s3, s4, s5, s6, s7, s8, s9, s10 => some (0, s0, s1, s2, s3, s4, s5, s6, s7, s8, s9, s10)
  | n :: l, s0, s1, s2, s3, s4, s5, s6, s7, s8, s9, s10 => (limit_Meter_Node.f s0 s1 s2 s3 s4 s5 s6 s7 s8 s9 s10 n.1 n.2.1 n.2.2).bind fun b => if b.1 = 0 then nodesF l b.2.1 b.2.2.1 b.2.2.2.1 b.2.2.2.2.1 b.2.2.2.2.2.1 b.2.2.2.2.2.2.1 b.2.2.2.2.2.2.2.1 b.2.2.2.2.2.2.2.2.1 b.2.2.2.2.2.2.2.2.2.1 b.2.2.2.2.2.2.2.2.2.2.1 b.2.2.2.2.2.2.2.2.2.2.2 else some b
/-- Three to a node, in a block of their own. -/
def Rows3 (w : World) (g : Nat) (A : Option Addr) (l : List (Int × Int × Int)) : Prop :=
  ∀ i, (h : i < l.length) → ∃ b o, A = some ⟨b, o, none⟩ ∧ b ≠ g ∧ b < w.heap.size ∧ ∀ W', KeepBut w W' g none → W'.cell? ⟨b, o + i * 3, none⟩ = some (.int .i64 (l[i]).1) ∧ W'.cell? ⟨b, o + i * 3 + 1, none⟩ = some (.int .i64 (l[i]).2.1) ∧ W'.cell? ⟨b, o + i * 3 + 2, none⟩ = some (.int .i64 (l[i]).2.2)
set_option maxHeartbeats 8000000 in
set_option maxRecDepth 100000 in
theorem nodes_calls (g : Nat) (A : Option Addr) (c : Nat) (l : List (Int × Int × Int)) (s0 s1 s2 s3 s4 s5 s6 s7 s8 s9 s10 : Int) (r0 r1 r2 r3 r4 r5 r6 r7 r8 r9 r10 r11 : Int) (w0 w : World) (hl : l.length ≤ 1000000) (hc : l.length ≤ c) (hI : IsS40 w0 w g s0 s1 s2 s3 s4 s5 s6 s7 s8 s9 s10) (hB : Below w0.heap.size w0 w) (hR : Rows3 w g A l) (h : nodesF l s0 s1 s2 s3 s4 s5 s6 s7 s8 s9 s10 = some (r0, r1, r2, r3, r4, r5, r6, r7, r8, r9, r10, r11)) :
    Calls Try.prog 18 #[.pointer (some ⟨g, 0, none⟩), .slice A l.length c] w fun e w' => e = .returned (.int .i64 r0) ∧ IsS40 w0 w' g r1 r2 r3 r4 r5 r6 r7 r8 r9 r10 r11 ∧ Below w0.heap.size w0 w' ∧ KeepBut w w' g none := by
  have HI0 := Aside0.mk hI
  have HB := Aside0.mk hB
  have HR := Aside0.mk hR
  have H' := Aside0.mk h
  have HLE := Aside0.mk hl
  clear hI hB hR h hl
  go_enter Try.func18, Try.ntmps18
  go_wp2
  go_loopg [10] l.length (fun kq v10 w' => ∃ (i : Nat) (u0 u1 u2 u3 u4 u5 u6 u7 u8 u9 u10 : Int), v10 = .int .i64 (i : Int) ∧ Aside0 (i + kq = l.length) ∧ Aside0 (nodesF (l.drop i) u0 u1 u2 u3 u4 u5 u6 u7 u8 u9 u10 = some (r0, r1, r2, r3, r4, r5, r6, r7, r8, r9, r10, r11)) ∧ Aside0 (IsS40 w0 w' g u0 u1 u2 u3 u4 u5 u6 u7 u8 u9 u10) ∧ Aside0 (Below w0.heap.size w0 w') ∧ Aside0 (KeepBut w w' g none))
  case atStart => exact ⟨0, s0, s1, s2, s3, s4, s5, s6, s7, s8, s9, s10, rfl, ⟨by simp⟩, ⟨by simpa using H'.out⟩, HI0, HB, ⟨KeepBut.refl w g none⟩⟩
  case round =>
    clear H'
    obtain ⟨i, u0, u1, u2, u3, u4, u5, u6, u7, u8, u9, u10, rfl, HK, HA, HI, HB, HKP⟩ := hrel
    cases gk with
    | zero =>
      have c1 : ¬ i < l.length := by have := HK.out; omega
      have c1b : decide ((i : Int) < (l.length : Int)) = false := decide_eq_false (by omega)
      have H := HA.out
      rw [List.drop_eq_nil_of_le (by omega)] at H
      simp only [nodesF, Option.some.injEq, Prod.mk.injEq] at H
      obtain ⟨rfl, rfl, rfl, rfl, rfl, rfl, rfl, rfl, rfl, rfl, rfl, rfl⟩ := H
      go_wp2
      go_ret
      exact ⟨rfl, HI.out, HB.out, HKP.out⟩
    | succ k1 =>
      have c1 : i < l.length := by have := HK.out; omega
      have c1b : decide ((i : Int) < (l.length : Int)) = true := decide_eq_true (by omega)
      obtain ⟨b, o, hA, hne, hlt, hF⟩ := HR.out i c1
      subst hA
      obtain ⟨hc0, hc1, hc2⟩ := hF _ HKP.out
      have H := HA.out
      rw [List.drop_eq_getElem_cons c1] at H
      simp only [nodesF] at H
      obtain ⟨⟨t0, t1, t2, t3, t4, t5, t6, t7, t8, t9, t10, t11⟩, A1, H⟩ := Option.bind_eq_some_iff.mp H
      simp only [] at H
      have p1 := eq_true (show (0 : Int) ≤ (i : Int) by omega)
      have q1 := eq_true (show (i : Int) < (l.length : Int) by omega)
      have hu31 := Try.underlying31
      have hw : wrap64 ((i : Int) + 1) = ((i + 1 : Nat) : Int) := by have := HLE.out; unfold wrap64; omega
      by_cases c3 : t0 = 0
      · rw [if_pos c3] at H
        subst c3
        clear HA
        have HA := Aside0.mk H
        clear H
        go_wp2_with (first | ((with_reducible refine gate_callee (f := 12) rfl ?_); refine goesL_ (some 21) rfl rfl Try.func12 (by kernel_rfl) rfl #[.pointer (some ⟨g, 0, none⟩), .int .i64 (l[i]).1, .int .i64 (l[i]).2.1, .int .i64 (l[i]).2.2] rfl (by (try simp only [List.map_toArray, List.map_cons, List.map_nil]); first | done | rfl) ?_; refine (limit_Meter_Node.calls g u0 u1 u2 u3 u4 u5 u6 u7 u8 u9 u10 (l[i]).1 (l[i]).2.1 (l[i]).2.2 0 t1 t2 t3 t4 t5 t6 t7 t8 t9 t10 t11 w0 _ ?side1 ?side2 A1).mono ?_; (case side1 => exact IsS40.alloc HI.out _); (case side2 => exact below_alloc HB.out _); rintro e w2 ⟨rfl, hI2, hB2, hK2⟩; refine ⟨_, rfl, ?_⟩; have HI2 := Aside0.mk hI2; have HB2 := Aside0.mk hB2; have HK2 := Aside0.mk hK2; clear hI2 hB2 hK2))
        go_roundg k1
        case measure => have := HK.out; omega
        case rel => exact ⟨i + 1, t1, t2, t3, t4, t5, t6, t7, t8, t9, t10, t11, congrArg (Value.int .i64) hw, ⟨by have := HK.out; omega⟩, HA, HI2, HB2, ⟨(keep_alloc HKP.out _).trans HK2.out (.inl rfl)⟩⟩
      · rw [if_neg c3] at H
        simp only [Option.some.injEq, Prod.mk.injEq] at H
        obtain ⟨rfl, rfl, rfl, rfl, rfl, rfl, rfl, rfl, rfl, rfl, rfl, rfl⟩ := H
        have c3b0 : (t0 == 0) = false := beq_eq_false_iff_ne.mpr c3
        have c3b1 : (t0 != 0) = true := bne_iff_ne.mpr c3
        go_wp2_with (first | ((with_reducible refine gate_callee (f := 12) rfl ?_); refine goesL_ (some 21) rfl rfl Try.func12 (by kernel_rfl) rfl #[.pointer (some ⟨g, 0, none⟩), .int .i64 (l[i]).1, .int .i64 (l[i]).2.1, .int .i64 (l[i]).2.2] rfl (by (try simp only [List.map_toArray, List.map_cons, List.map_nil]); first | done | rfl) ?_; refine (limit_Meter_Node.calls g u0 u1 u2 u3 u4 u5 u6 u7 u8 u9 u10 (l[i]).1 (l[i]).2.1 (l[i]).2.2 t0 t1 t2 t3 t4 t5 t6 t7 t8 t9 t10 t11 w0 _ ?side1 ?side2 A1).mono ?_; (case side1 => exact IsS40.alloc HI.out _); (case side2 => exact below_alloc HB.out _); rintro e w2 ⟨rfl, hI2, hB2, hK2⟩; refine ⟨_, rfl, ?_⟩; have HI2 := Aside0.mk hI2; have HB2 := Aside0.mk hB2; have HK2 := Aside0.mk hK2; clear hI2 hB2 hK2))
        go_ret
        exact ⟨rfl, HI2.out, HB2.out, (keep_alloc HKP.out _).trans HK2.out (.inl rfl)⟩

theorem keepS {w0 W W' : World} {g g' : Nat} {f0 f1 f2 f3 f4 f5 f6 f7 f8 f9 f10 : Int} (h : IsS40 w0 W g f0 f1 f2 f3 f4 f5 f6 f7 f8 f9 f10) (hk : KeepBut W W' g' none) (hne : g ≠ g') : IsS40 w0 W' g f0 f1 f2 f3 f4 f5 f6 f7 f8 f9 f10 := ⟨hk.blk h.1 hne (by simp), h.2⟩
theorem rows3_of {W : World} {b g : Nat} {cs : Array Value} {l : List (Int × Int × Int)} (hb : W.heap[b]? = some (.cells cs 31 (0, 0))) (hne : b ≠ g) (hcs : ∀ i, (h : i < l.length) → cs[i * 3]? = some (.int .i64 (l[i]).1) ∧ cs[i * 3 + 1]? = some (.int .i64 (l[i]).2.1) ∧ cs[i * 3 + 2]? = some (.int .i64 (l[i]).2.2)) : Rows3 W g (some ⟨b, 0, none⟩) l := fun i h => ⟨b, 0, rfl, hne, blk_lt hb, fun W' hk => by
  have hb2 := hk.blk hb hne (by simp)
  rw [Nat.zero_add]
  exact ⟨(blk_cell hb2 _).trans (hcs i h).1, (blk_cell hb2 _).trans (hcs i h).2.1, (blk_cell hb2 _).trans (hcs i h).2.2⟩⟩

set_option maxHeartbeats 8000000 in
set_option maxRecDepth 100000 in
theorem small_walk (w : World) : Calls Try.prog 7 #[] w fun e w' => e = .returned (.bool true) ∧ Below w.heap.size w w' := by
  have hu23 := Try.underlying23
  have hu31 := Try.underlying31
  have hB0 := Below.refl w.heap.size w
  go_enter Try.func7, Try.ntmps7
  go_wp2_with (first | ((with_reducible refine gate_dst (N := 10) rfl ?_); refine goesL_ (some 10) rfl rfl Try.func8 (by kernel_rfl) rfl #[.agg #[.int .i64 0, .int .i64 1, .int .i64 2, .int .i64 1, .int .i64 5]] rfl (by (try simp only [List.map_toArray, List.map_cons, List.map_nil]); first | done | rfl) ?_; refine (limit_New.calls 0 1 2 1 5 0 0 0 0 0 0 0 1 2 1 5 w _ hB0 (by kernel_rfl)).mono ?_; rintro e w1 ⟨gm, rfl, hM, hB, _⟩; refine ⟨_, rfl, ?_⟩; have n0_ := Aside0.mk (hM); have n1_ := Aside0.mk (hB); (try clear HM); (try clear HB); have HM := n0_; have HB := n1_; clear n0_ n1_) | ((with_reducible refine gate_dst (N := 12) rfl ?_); refine goesL_ (some 12) rfl rfl Try.func8 (by kernel_rfl) rfl #[.agg #[.int .i64 0, .int .i64 (-3), .int .i64 9, .int .i64 9, .int .i64 9]] rfl (by (try simp only [List.map_toArray, List.map_cons, List.map_nil]); first | done | rfl) ?_; refine (limit_New.calls 0 (-3) 9 9 9 0 0 0 0 0 0 0 0 9 9 9 w1 _ (Below.refl _ _) (by kernel_rfl)).mono ?_; rintro e w2 ⟨gx, rfl, hX, _, hb⟩; refine ⟨_, rfl, ?_⟩; have HNE := Aside0.mk (show gm ≠ gx from Nat.ne_of_lt (Nat.lt_of_lt_of_le HM.out.lt hX.ge)); have n0_ := Aside0.mk ((show IsS40 w w2 gx 0 0 0 0 0 0 0 0 9 9 9 from ⟨hX.1, Nat.le_trans HB.out.size hX.2⟩)); have n1_ := Aside0.mk (HM.out.below hb); have n2_ := Aside0.mk (below_step HB.out hb); (try clear HX); (try clear HM); (try clear HB); have HX := n0_; have HM := n1_; have HB := n2_; clear n0_ n1_ n2_) | ((with_reducible refine gate_dst (N := 20) rfl ?_); refine goesL_ (some 20) rfl rfl Try.func10 (by kernel_rfl) rfl #[.pointer (some ⟨gm, 0, none⟩)] rfl (by (try simp only [List.map_toArray, List.map_cons, List.map_nil]); first | done | rfl) ?_; refine (limit_Meter_Object.calls gm 0 0 0 0 0 0 0 1 2 1 5  0 0 1 0 0 0 0 0 1 2 1 5 w _ HM.out HB.out (by kernel_rfl)).mono ?_; rintro e w3 ⟨rfl, hM, hB, hK⟩; refine ⟨_, rfl, ?_⟩; have n0_ := Aside0.mk (hM); have n1_ := Aside0.mk (hB); have n2_ := Aside0.mk (keepS HX.out hK HNE.out.symm); (try clear HM); (try clear HB); (try clear HX); have HM := n0_; have HB := n1_; have HX := n2_; clear n0_ n1_ n2_) | ((with_reducible refine gate_dst (N := 22) rfl ?_); refine goesL_ (some 22) rfl rfl Try.func12 (by kernel_rfl) rfl #[.pointer (some ⟨gm, 0, none⟩), .int .i64 1, .int .i64 1, .int .i64 3] rfl (by (try simp only [List.map_toArray, List.map_cons, List.map_nil]); first | done | rfl) ?_; refine (limit_Meter_Node.calls gm 0 1 0 0 0 0 0 1 2 1 5 1 1 3 0 0 1 1 1 3 0 0 1 2 1 5 w _ HM.out HB.out (by kernel_rfl)).mono ?_; rintro e w4 ⟨rfl, hM, hB, hK⟩; refine ⟨_, rfl, ?_⟩; have n0_ := Aside0.mk (hM); have n1_ := Aside0.mk (hB); have n2_ := Aside0.mk (keepS HX.out hK HNE.out.symm); (try clear HM); (try clear HB); (try clear HX); have HM := n0_; have HB := n1_; have HX := n2_; clear n0_ n1_ n2_) | ((with_reducible refine gate_dst (N := 26) rfl ?_); refine goesL_ (some 26) rfl rfl Try.func14 (by kernel_rfl) rfl #[.pointer (some ⟨gm, 0, none⟩)] rfl (by (try simp only [List.map_toArray, List.map_cons, List.map_nil]); first | done | rfl) ?_; refine (limit_tally_Used.calls gm 0 1 1 1 3 0 0 1 2 1 5  0 1 1 1 3 0 1 1 1 3 0 0 1 2 1 5 w _ HM.out HB.out (by kernel_rfl)).mono ?_; rintro e w5 ⟨rfl, hM, hB, hK⟩; refine ⟨_, rfl, ?_⟩; have n0_ := Aside0.mk (hM); have n1_ := Aside0.mk (hB); have n2_ := Aside0.mk (keepS HX.out hK HNE.out.symm); (try clear HM); (try clear HB); (try clear HX); have HM := n0_; have HB := n1_; have HX := n2_; clear n0_ n1_ n2_) | ((with_reducible refine gate_dst (N := 32) rfl ?_); refine goesL_ (some 32) rfl rfl Try.func18 (by kernel_rfl) rfl #[.pointer (some ⟨gm, 0, none⟩), .slice (some ⟨w5.heap.size + 1, 0, none⟩) 3 3] rfl (by (try simp only [List.map_toArray, List.map_cons, List.map_nil]); first | done | rfl) ?_; refine (nodes_calls gm (some ⟨w5.heap.size + 1, 0, none⟩) 3 [(2, -1, 2), (0, 1, 1), (9, 9, 9)] 0 1 1 1 3 0 0 1 2 1 5 5 0 1 2 1 5 5 0 1 2 1 5 w ((w5.alloc (.cells #[.int .i64 0, .int .i64 1, .int .i64 1, .int .i64 1, .int .i64 3] 23)).alloc (.cells #[.int .i64 2, .int .i64 (-1), .int .i64 2, .int .i64 0, .int .i64 1, .int .i64 1, .int .i64 9, .int .i64 9, .int .i64 9] 31)) (by decide) (by decide) ((HM.out.alloc _).alloc _) (below_alloc (below_alloc HB.out _) _) (rows3_of (show ((w5.alloc (.cells #[.int .i64 0, .int .i64 1, .int .i64 1, .int .i64 1, .int .i64 3] 23)).alloc (.cells #[.int .i64 2, .int .i64 (-1), .int .i64 2, .int .i64 0, .int .i64 1, .int .i64 1, .int .i64 9, .int .i64 9, .int .i64 9] 31)).heap[w5.heap.size + 1]? = some (.cells #[.int .i64 2, .int .i64 (-1), .int .i64 2, .int .i64 0, .int .i64 1, .int .i64 1, .int .i64 9, .int .i64 9, .int .i64 9] 31) from by have h_ := blk_new (w5.alloc (.cells #[.int .i64 0, .int .i64 1, .int .i64 1, .int .i64 1, .int .i64 3] 23)) (.cells #[.int .i64 2, .int .i64 (-1), .int .i64 2, .int .i64 0, .int .i64 1, .int .i64 1, .int .i64 9, .int .i64 9, .int .i64 9] 31); rw [show (w5.alloc (.cells #[.int .i64 0, .int .i64 1, .int .i64 1, .int .i64 1, .int .i64 3] 23)).heap.size = w5.heap.size + 1 from by simp] at h_; exact h_) (by have := HM.out.lt; omega) (fun i h => by have h3 : i < 3 := h; match i, h3 with | 0, _ => exact ⟨rfl, rfl, rfl⟩ | 1, _ => exact ⟨rfl, rfl, rfl⟩ | 2, _ => exact ⟨rfl, rfl, rfl⟩)) (by kernel_rfl)).mono ?_; rintro e w6 ⟨rfl, hM, hB, hK⟩; refine ⟨_, rfl, ?_⟩; have HUM := Aside0.mk (Nat.ne_of_gt HM.out.lt); have HUX := Aside0.mk (Nat.ne_of_gt HX.out.lt); have HU := Aside0.mk (hK.blk (blk_alloc (blk_new w5 (.cells #[.int .i64 0, .int .i64 1, .int .i64 1, .int .i64 1, .int .i64 3] 23)) _) HUM.out (by simp)); have n0_ := Aside0.mk (hM); have n1_ := Aside0.mk (hB); have n2_ := Aside0.mk (keepS ((HX.out.alloc _).alloc _) hK HNE.out.symm); (try clear HM); (try clear HB); (try clear HX); have HM := n0_; have HB := n1_; have HX := n2_; clear n0_ n1_ n2_) | ((with_reducible refine gate_dst (N := 34) rfl ?_); refine goesL_ (some 34) rfl rfl Try.func10 (by kernel_rfl) rfl #[.pointer (some ⟨gm, 0, none⟩)] rfl (by (try simp only [List.map_toArray, List.map_cons, List.map_nil]); first | done | rfl) ?_; refine (limit_Meter_Object.calls gm 0 1 2 1 5 5 0 1 2 1 5  5 0 1 2 1 5 5 0 1 2 1 5 w _ HM.out HB.out (by kernel_rfl)).mono ?_; rintro e w7 ⟨rfl, hM, hB, hK⟩; refine ⟨_, rfl, ?_⟩; have n0_ := Aside0.mk (hM); have n1_ := Aside0.mk (hB); have n2_ := Aside0.mk (keepS HX.out hK HNE.out.symm); have n3_ := Aside0.mk (hK.blk HU.out HUM.out (by simp)); (try clear HM); (try clear HB); (try clear HX); (try clear HU); have HM := n0_; have HB := n1_; have HX := n2_; have HU := n3_; clear n0_ n1_ n2_ n3_) | ((with_reducible refine gate_dst (N := 36) rfl ?_); refine goesL_ (some 36) rfl rfl Try.func10 (by kernel_rfl) rfl #[.pointer (some ⟨gx, 0, none⟩)] rfl (by (try simp only [List.map_toArray, List.map_cons, List.map_nil]); first | done | rfl) ?_; refine (limit_Meter_Object.calls gx 0 0 0 0 0 0 0 0 9 9 9  2 0 0 0 0 0 2 0 0 9 9 9 w _ HX.out HB.out (by kernel_rfl)).mono ?_; rintro e w8 ⟨rfl, hM, hB, hK⟩; refine ⟨_, rfl, ?_⟩; have n0_ := Aside0.mk (hM); have n1_ := Aside0.mk (hB); have n2_ := Aside0.mk (keepS HM.out hK HNE.out); have n3_ := Aside0.mk (hK.blk HU.out HUX.out (by simp)); (try clear HX); (try clear HB); (try clear HM); (try clear HU); have HX := n0_; have HB := n1_; have HM := n2_; have HU := n3_; clear n0_ n1_ n2_ n3_; have hcu0 : w8.cell? ⟨w5.heap.size, 0, none⟩ = some (.int .i64 0) := (blk_cell HU.out 0).trans rfl; have hfu0 := blk_frozen HU.out 0; have hcu1 : w8.cell? ⟨w5.heap.size, 1, none⟩ = some (.int .i64 1) := (blk_cell HU.out 1).trans rfl; have hfu1 := blk_frozen HU.out 1; have hcu2 : w8.cell? ⟨w5.heap.size, 2, none⟩ = some (.int .i64 1) := (blk_cell HU.out 2).trans rfl; have hfu2 := blk_frozen HU.out 2; have hcu3 : w8.cell? ⟨w5.heap.size, 3, none⟩ = some (.int .i64 1) := (blk_cell HU.out 3).trans rfl; have hfu3 := blk_frozen HU.out 3; have hcu4 : w8.cell? ⟨w5.heap.size, 4, none⟩ = some (.int .i64 3) := (blk_cell HU.out 4).trans rfl; have hfu4 := blk_frozen HU.out 4) | ((with_reducible refine gate_dst (N := 60) rfl ?_); (refine gate_guard (by rfl) ?_; dsimp only); refine goesL_ (some 60) rfl rfl Try.func16 (by kernel_rfl) rfl #[.pointer (some ⟨gm, 0, none⟩)] rfl (by (try simp only [List.map_toArray, List.map_cons, List.map_nil]); first | done | rfl) ?_; refine (limit_tally_Over.calls gm 0 1 2 1 5 5 0 1 2 1 5  5 0 1 2 1 5 5 0 1 2 1 5 w _ HM.out HB.out (by kernel_rfl)).mono ?_; rintro e w9 ⟨rfl, hM, hB, hK⟩; refine ⟨_, rfl, ?_⟩; have n0_ := Aside0.mk (hM); have n1_ := Aside0.mk (hB); (try clear HM); (try clear HB); have HM := n0_; have HB := n1_; clear n0_ n1_) | ((with_reducible refine gate_dst (N := 67) rfl ?_); (refine gate_guard (by rfl) ?_; dsimp only); refine goesL_ (some 67) rfl rfl Try.func14 (by kernel_rfl) rfl #[.pointer (some ⟨gm, 0, none⟩)] rfl (by (try simp only [List.map_toArray, List.map_cons, List.map_nil]); first | done | rfl) ?_; refine (limit_tally_Used.calls gm 0 1 2 1 5 5 0 1 2 1 5  0 1 2 1 5 0 1 2 1 5 5 0 1 2 1 5 w _ HM.out HB.out (by kernel_rfl)).mono ?_; rintro e w10 ⟨rfl, hM, hB, hK⟩; refine ⟨_, rfl, ?_⟩; have n0_ := Aside0.mk (hM); have n1_ := Aside0.mk (hB); (try clear HM); (try clear HB); have HM := n0_; have HB := n1_; clear n0_ n1_) | ((with_reducible refine gate_dst (N := 77) rfl ?_); (refine gate_guard (by rfl) ?_; dsimp only); refine goesL_ (some 77) rfl rfl Try.func8 (by kernel_rfl) rfl #[.agg #[.int .i64 0, .int .i64 0, .int .i64 1, .int .i64 0, .int .i64 0]] rfl (by (try simp only [List.map_toArray, List.map_cons, List.map_nil]); first | done | rfl) ?_; refine (limit_New.calls 0 0 1 0 0 0 0 0 0 0 0 0 0 1 0 0 w _ HB.out (by kernel_rfl)).mono ?_; rintro e w11 ⟨gz, rfl, hZ, hB, _⟩; refine ⟨_, rfl, ?_⟩; have n0_ := Aside0.mk (hZ); have n1_ := Aside0.mk (hB); (try clear HZ); (try clear HB); have HZ := n0_; have HB := n1_; clear n0_ n1_) | ((with_reducible refine gate_dst (N := 78) rfl ?_); (refine gate_guard (by rfl) ?_; dsimp only); refine goesL_ (some 78) rfl rfl Try.func12 (by kernel_rfl) rfl #[.pointer (some ⟨gz, 0, none⟩), .int .i64 2, .int .i64 1, .int .i64 1] rfl (by (try simp only [List.map_toArray, List.map_cons, List.map_nil]); first | done | rfl) ?_; refine (limit_Meter_Node.calls gz 0 0 0 0 0 0 0 0 1 0 0 2 1 1 3 0 0 0 0 0 3 0 0 1 0 0 w _ HZ.out HB.out (by kernel_rfl)).mono ?_; rintro e w12 ⟨rfl, hZ, hB, hK⟩; refine ⟨_, rfl, ?_⟩; have n0_ := Aside0.mk (hB); (try clear HB); have HB := n0_; clear n0_) | ((with_reducible refine gate_dst (N := 84) rfl ?_); (refine gate_guard (by rfl) ?_; dsimp only); refine goesL_ (some 84) rfl rfl Try.func20 (by kernel_rfl) rfl #[.agg #[.int .i64 3, .int .i64 0, .int .i64 0, .int .i64 0, .int .i64 0], .agg #[.int .i64 3, .int .i64 0, .int .i64 (-7), .int .i64 0, .int .i64 0]] rfl (by (try simp only [List.map_toArray, List.map_cons, List.map_nil]); first | done | rfl) ?_; refine (limit_Admits.calls 3 0 0 0 0 3 0 (-7) 0 0 true _ (by kernel_rfl)).mono ?_; rintro e w13 ⟨rfl, hb⟩; refine ⟨_, rfl, ?_⟩; have n0_ := Aside0.mk (below_step HB.out hb); (try clear HB); have HB := n0_; clear n0_) | ((with_reducible refine gate_dst (N := 89) rfl ?_); (refine gate_guard (by rfl) ?_; dsimp only); refine goesL_ (some 89) rfl rfl Try.func20 (by kernel_rfl) rfl #[.agg #[.int .i64 3, .int .i64 0, .int .i64 0, .int .i64 0, .int .i64 0], .agg #[.int .i64 3, .int .i64 0, .int .i64 1, .int .i64 0, .int .i64 0]] rfl (by (try simp only [List.map_toArray, List.map_cons, List.map_nil]); first | done | rfl) ?_; refine (limit_Admits.calls 3 0 0 0 0 3 0 1 0 0 false _ (by kernel_rfl)).mono ?_; rintro e w14 ⟨rfl, hb⟩; refine ⟨_, rfl, ?_⟩; have n0_ := Aside0.mk (below_step HB.out hb); (try clear HB); have HB := n0_; clear n0_))
  go_ret
  exact ⟨rfl, HB.out⟩

def decklelaw19_small.f : Option Bool := some true
theorem decklelaw19_small.calls (r : Bool) (w : World) (h : decklelaw19_small.f = some r) : Calls Try.prog 7 #[] w fun e w' => e = .returned (.bool r) ∧ Below w.heap.size w w' := by
  obtain rfl : true = r := Option.some.inj h
  exact small_walk w

end Go.Proofs.Ytaonclkhjcbgoaa.HLimitEnough
