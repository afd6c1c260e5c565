-- Written by the session's program hy.py.
import Derived.Test.YtcbalpchfcifeaaHRunsTellsx0
import Derived.Test.YtcbalpchfcifeaaHRunsTellsx1
namespace Go.Proofs.Ytcbalpchfcifeaa.HRunsTells
open Go.RowKit Go.Proofs.YtcbalpchfcifeaaW.PrintWords Go.Proofs.YtcbalpchfcifeaaW.PrintLast Go.Proofs.YtcbalpchfcifeaaW.PrintMore
attribute [local go_sem] max2_int min2_int max_two min_two max_three min_three max_four min_four   -- for this text's walks alone
set_option linter.unusedVariables false
set_option linter.unusedSimpArgs false

/-! ### runs_Encode: function 12 -/
theorem V_okb {α : Type} {d : Kd α} {e base : Nat} {W : World} {ok : Nat → Prop} {ad : Addr} {n c : Nat} {xs : List α} (h : Kd.V d e W base ok (.slice (some ad) n c) xs) (hp : 0 < xs.length) (hs : 0 < d.sz) : ok ad.block := by
  obtain ⟨hn, hc, hF⟩ := Kd.V_at h
  obtain ⟨ad', c', he, _, _, _, h2⟩ := Kd.F_get hF (xs[0]'hp) 0 (by omega) (by omega)
  injection he with he
  subst he
  exact h2 hs
theorem V_ltb {α : Type} {d : Kd α} {e base : Nat} {W : World} {ok : Nat → Prop} {ad : Addr} {n c : Nat} {xs : List α} (h : Kd.V d e W base ok (.slice (some ad) n c) xs) (hp : 0 < xs.length) (hs : 0 < d.sz) : ad.block < W.heap.size := by
  obtain ⟨hn, hc, hF⟩ := Kd.V_at h
  obtain ⟨ad', c', he, hl, _, h1, _⟩ := Kd.F_get hF (xs[0]'hp) 0 (by omega) (by omega)
  injection he with he
  subst he
  have h4 := World.block_lt_of_cell? W _ (h1 0 _ (List.getElem?_eq_getElem (by omega)))
  rwa [add_block] at h4
def runs_Encode.l0 : Nat → List Int → List Int → Option (List Int)
  | 0, _, _ => none
  | k + 1, x0, x2 => if (x0.length : Int) > 0 then ((runs_between.f k x0).bind fun t121 => (if t121 = 0 then ((runs_like.f k x0).bind fun t122 => ((varint_Put.f k ([] : List Int) (([Go.bits .or .u64 (IntKind.u64.wrap ((IntKind.u64.wrap (wrap64 (t122 - 3))) * 2)) 1] : List Int))).bind fun t126 => (if x2.length + t126.length < 140737488355328 then ((some (x2 ++ t126 : List Int)).bind fun y129 => (if 0 < (x0.length : Int) then ((some (([rd x0 0] : List Int) : List Int)).bind fun y133 => (if y129.length + y133.length < 140737488355328 then (if 0 ≤ t122 then (if t122 ≤ (x0.length : Int) then (runs_Encode.l0 k (x0.drop (t122 : Int).toNat) (y129 ++ y133)) else (none)) else (none)) else (none))) else (none))) else (none)))) else ((varint_Put.f k ([] : List Int) (([IntKind.u64.wrap ((IntKind.u64.wrap (wrap64 (t121 - 1))) * 2)] : List Int))).bind fun t147 => (if x2.length + t147.length < 140737488355328 then ((some (x2 ++ t147 : List Int)).bind fun y150 => (if 0 ≤ t121 then (if t121 ≤ (x0.length : Int) then ((some (x0.take (t121 : Int).toNat : List Int)).bind fun y153 => (if y150.length + y153.length < 140737488355328 then (runs_Encode.l0 k (x0.drop (t121 : Int).toNat) (y150 ++ y153)) else (none))) else (none)) else (none))) else (none))))) else (some x2)
def runs_Encode.f (k : Nat) (l0 : List Int) : Option (List Int) := runs_Encode.l0 k l0 ([] : List Int)
theorem runs_Encode.mono_l : ∀ k, (∀ y0 y1, LeO (runs_Encode.l0 k y0 y1) (runs_Encode.l0 (k + 1) y0 y1))
  | 0 => fun _ _ r h => by simp [runs_Encode.l0] at h
  | k + 1 => by
    have ih0 := runs_Encode.mono_l k
    · intro y0 y1
      unfold runs_Encode.l0
      repeat' first
      | (with_reducible exact ih0 _ _)
      | (with_reducible exact runs_between.mono _ _)
      | (with_reducible exact runs_like.mono _ _)
      | (with_reducible exact varint_Put.mono _ _ _)
      | (with_reducible exact LeO.refl _)
      | (with_reducible exact LeO.none _)
      | (with_reducible refine LeO.ite ?_ ?_)
      | (with_reducible refine LeO.bind ?_ (fun _ => ?_))
      | exact ih0 _ _
      | exact runs_between.mono _ _
      | exact runs_like.mono _ _
      | exact varint_Put.mono _ _ _
      | exact LeO.none _
      | refine LeO.ite ?_ ?_
      | refine LeO.bind ?_ (fun _ => ?_)
theorem runs_Encode.mono : ∀ a0 k, LeO (runs_Encode.f k a0) (runs_Encode.f (k + 1) a0) := by
  intro a0 k
  have ih0 := runs_Encode.mono_l k
  unfold runs_Encode.f
  repeat' first
      | (with_reducible exact ih0 _ _)
      | (with_reducible exact runs_between.mono _ _)
      | (with_reducible exact runs_like.mono _ _)
      | (with_reducible exact varint_Put.mono _ _ _)
      | (with_reducible exact LeO.refl _)
      | (with_reducible exact LeO.none _)
      | (with_reducible refine LeO.ite ?_ ?_)
      | (with_reducible refine LeO.bind ?_ (fun _ => ?_))
      | exact ih0 _ _
      | exact runs_between.mono _ _
      | exact runs_like.mono _ _
      | exact varint_Put.mono _ _ _
      | exact LeO.none _
      | refine LeO.ite ?_ ?_
      | refine LeO.bind ?_ (fun _ => ?_)
def runs_Encode.T5 : Bool × List (List Nat × List Nat) := (true, [([], []), ([], []), ([1], [1]), ([2], [2]), ([3], [3]), ([4], [4]), ([5], [5]), ([6], [6]), ([0, 7, 7], [0, 7]), ([], []), ([9], [9]), ([10], [10]), ([11], [11]), ([8, 12, 8], [8, 12]), ([13, 13, 0, 1, 2, 3, 4, 5, 6, 7, 8, 9, 10, 11, 12, 13], [0, 13])])
def runs_Encode.B5 : List Nat := [0, 0, 2, 6, 14, 30, 62, 126, 255, 0, 512, 1536, 3584, 8191, 16383]
theorem runs_Encode.tab5 : rtab .any (opsOf Try.f12 5) = runs_Encode.T5 := by kernel_rfl
theorem runs_Encode.bits5 : waitsOk runs_Encode.T5.2 runs_Encode.B5 = true := by kernel_rfl
def runs_Encode.T6 : Bool × List (List Nat × List Nat) := (true, [([], []), ([], []), ([1], [1]), ([2], [2]), ([3], [3]), ([4], [4]), ([5], [5]), ([0, 6, 6], [0, 6]), ([], []), ([], []), ([8, 9], [8, 9]), ([7, 10, 7], [7, 10]), ([11, 11, 0, 1, 2, 3, 4, 5, 6, 7, 8, 9, 10, 11], [0, 11])])
def runs_Encode.B6 : List Nat := [0, 0, 2, 6, 14, 30, 62, 127, 0, 0, 768, 2047, 4095]
theorem runs_Encode.tab6 : rtab .any (opsOf Try.f12 6) = runs_Encode.T6 := by kernel_rfl
theorem runs_Encode.bits6 : waitsOk runs_Encode.T6.2 runs_Encode.B6 = true := by kernel_rfl
set_option maxHeartbeats 8000000 in
set_option maxRecDepth 100000 in
theorem runs_Encode.calls (k : Nat) (P0_ : Nat → Prop) (A0 : Option Addr) (c0 : Nat) (l0 : List Int) (r : List Int) (w : World) (hs0 : Kd.V (Kd.int .u8) 5 w w.heap.size (fun k_ => P0_ k_) (.slice A0 l0.length c0) l0) (h : runs_Encode.f k l0 = some r) :
    Calls Try.prog 12 #[.slice A0 l0.length c0] w fun e w' => ∃ v0_ : Value, e = .returned (v0_) ∧ Kd.R (Kd.int .u8) 5 w' w.heap.size (fun k_ => (w.heap.size ≤ k_)) v0_ r ∧ Below w.heap.size w w' := by
  have HO0 := Aside0.mk (show Kd.V (Kd.int .u8) 5 w w.heap.size (fun k_ => (P0_ k_ ∨ w.heap.size ≤ k_)) (.slice A0 l0.length c0) l0 from Kd.V_mono hs0 (fun k_ hk => .inl hk))
  have HB := Aside0.mk (Below.refl w.heap.size w)
  have H : (runs_Encode.l0 k l0 ([] : List Int)) = some r := h
  clear h
  have H' := Aside0.mk H
  clear H
  go_enter Try.func12, Try.ntmps12
  go_wp2
  go_loopg [0, 2] k (fun kq v0 v2 w' => ∃ (x0_1 : List Int) (x2_1 : List Int), Aside0 (runs_Encode.l0 kq x0_1 x2_1 = some r) ∧ Aside0 (kq ≤ k) ∧ Aside0 (Kd.V (Kd.int .u8) 5 w' w.heap.size (fun k_ => (P0_ k_ ∨ w.heap.size ≤ k_) ∧ some k_ ≠ (v2 : Value).ownBlock) v0 x0_1) ∧ Aside0 (Kd.R (Kd.int .u8) 5 w' w.heap.size (fun k_ => (w.heap.size ≤ k_)) v2 x2_1) ∧ Aside0 (Below w.heap.size w w'))
  case atStart => exact ⟨(l0), (([] : List Int)), H', ⟨Nat.le_refl _⟩, ⟨by (with_reducible repeat (first | apply Kd.V_alloc | apply Kd.V_drewN | apply Kd.V_drew)); exact Kd.V_mono HO0.out (fun _ hk => ⟨hk, (by simp [Value.ownBlock])⟩)⟩, ⟨by first | exact Kd.R_nil _ _ _ _ _ | exact Kd.N_nil _ _ _ _ _ | exact Kd.V_nil _ _ _ _ _ | exact Kd.Q_nil _ _ _ _ _ | exact Kd.S_nil _ _ _ _ _⟩, ⟨by repeat (first | (with_reducible first | exact HB.out | apply below_alloc | apply pw_below_drewN | apply below_drew1) | exact HB.out)⟩⟩
  case round =>
    clear H'
    try clear c1
    obtain ⟨x0_1, x2_1, HA, HK1, HO_0, HO_2, HB⟩ := hrel
    cases gk with
    | zero => exact absurd HA.out (by simp [runs_Encode.l0])
    | succ k1 =>
      have H := HA.out
      clear HA
      simp only [runs_Encode.l0] at H
      by_cases c2 : (x0_1.length : Int) > 0
      · rw [if_pos c2] at H
        have c2b0 : decide (0 < (x0_1.length : Int)) = true := decide_eq_true c2
        have c2b1 : decide (0 < x0_1.length) = true := decide_eq_true (by omega)
        clear c2
        replace H := Option.bind_eq_some_iff.mp H
        obtain ⟨t121, A30, H⟩ := H
        replace H : (if t121 = 0 then ((runs_like.f k1 x0_1).bind fun t122 => ((varint_Put.f k1 ([] : List Int) (([Go.bits .or .u64 (IntKind.u64.wrap ((IntKind.u64.wrap (wrap64 (t122 - 3))) * 2)) 1] : List Int))).bind fun t126 => (if x2_1.length + t126.length < 140737488355328 then ((some (x2_1 ++ t126 : List Int)).bind fun y129 => (if 0 < (x0_1.length : Int) then ((some (([rd x0_1 0] : List Int) : List Int)).bind fun y133 => (if y129.length + y133.length < 140737488355328 then (if 0 ≤ t122 then (if t122 ≤ (x0_1.length : Int) then (runs_Encode.l0 k1 (x0_1.drop (t122 : Int).toNat) (y129 ++ y133)) else (none)) else (none)) else (none))) else (none))) else (none)))) else ((varint_Put.f k1 ([] : List Int) (([IntKind.u64.wrap ((IntKind.u64.wrap (wrap64 (t121 - 1))) * 2)] : List Int))).bind fun t147 => (if x2_1.length + t147.length < 140737488355328 then ((some (x2_1 ++ t147 : List Int)).bind fun y150 => (if 0 ≤ t121 then (if t121 ≤ (x0_1.length : Int) then ((some (x0_1.take (t121 : Int).toNat : List Int)).bind fun y153 => (if y150.length + y153.length < 140737488355328 then (runs_Encode.l0 k1 (x0_1.drop (t121 : Int).toNat) (y150 ++ y153)) else (none))) else (none)) else (none))) else (none)))) = some r := H
        have A3 := Aside0.mk A30
        clear A30
        by_cases c4 : t121 = 0
        · rw [if_pos c4] at H
          have c4b0 : (t121 == 0) = true := beq_iff_eq.mpr c4
          have c4b1 : (t121 != 0) = false := bne_eq_false_iff_eq.mpr c4
          clear c4
          replace H := Option.bind_eq_some_iff.mp H
          obtain ⟨t122, A50, H⟩ := H
          replace H : ((varint_Put.f k1 ([] : List Int) (([Go.bits .or .u64 (IntKind.u64.wrap ((IntKind.u64.wrap (wrap64 (t122 - 3))) * 2)) 1] : List Int))).bind fun t126 => (if x2_1.length + t126.length < 140737488355328 then ((some (x2_1 ++ t126 : List Int)).bind fun y129 => (if 0 < (x0_1.length : Int) then ((some (([rd x0_1 0] : List Int) : List Int)).bind fun y133 => (if y129.length + y133.length < 140737488355328 then (if 0 ≤ t122 then (if t122 ≤ (x0_1.length : Int) then (runs_Encode.l0 k1 (x0_1.drop (t122 : Int).toNat) (y129 ++ y133)) else (none)) else (none)) else (none))) else (none))) else (none))) = some r := H
          have A5 := Aside0.mk A50
          clear A50
          obtain ⟨y123, hy123⟩ : ∃ y_ : List Int, y_ = (([Go.bits .or .u64 (IntKind.u64.wrap ((IntKind.u64.wrap (wrap64 (t122 - 3))) * 2)) 1] : List Int)) := ⟨_, rfl⟩
          replace H : ((varint_Put.f k1 ([] : List Int) y123).bind fun t126 => (if x2_1.length + t126.length < 140737488355328 then ((some (x2_1 ++ t126 : List Int)).bind fun y129 => (if 0 < (x0_1.length : Int) then ((some (([rd x0_1 0] : List Int) : List Int)).bind fun y133 => (if y129.length + y133.length < 140737488355328 then (if 0 ≤ t122 then (if t122 ≤ (x0_1.length : Int) then (runs_Encode.l0 k1 (x0_1.drop (t122 : Int).toNat) (y129 ++ y133)) else (none)) else (none)) else (none))) else (none))) else (none))) = some r := by first | (rw [hy123]; with_reducible exact H) | (have H2_ := (Option.bind_some _ _).symm.trans H; rw [hy123]; with_reducible exact H2_) | (have H2_ := (Option.bind_some _ _).symm.trans H; with_reducible exact H2_) | with_reducible exact H | (rw [hy123]; exact H) | exact H
          have Ny123 := Aside0.mk hy123
          clear hy123
          replace H := Option.bind_eq_some_iff.mp H
          obtain ⟨t126, A60, H⟩ := H
          replace H : (if x2_1.length + t126.length < 140737488355328 then ((some (x2_1 ++ t126 : List Int)).bind fun y129 => (if 0 < (x0_1.length : Int) then ((some (([rd x0_1 0] : List Int) : List Int)).bind fun y133 => (if y129.length + y133.length < 140737488355328 then (if 0 ≤ t122 then (if t122 ≤ (x0_1.length : Int) then (runs_Encode.l0 k1 (x0_1.drop (t122 : Int).toNat) (y129 ++ y133)) else (none)) else (none)) else (none))) else (none))) else (none)) = some r := H
          have A6 := Aside0.mk A60
          clear A60
          by_cases c7 : x2_1.length + t126.length < 140737488355328
          · rw [if_pos c7] at H
            have LMc7 := Aside0.mk c7
            clear c7
            obtain ⟨y129, hy129⟩ : ∃ y_ : List Int, y_ = (x2_1 ++ t126) := ⟨_, rfl⟩
            replace H : (if 0 < (x0_1.length : Int) then ((some (([rd x0_1 0] : List Int) : List Int)).bind fun y133 => (if y129.length + y133.length < 140737488355328 then (if 0 ≤ t122 then (if t122 ≤ (x0_1.length : Int) then (runs_Encode.l0 k1 (x0_1.drop (t122 : Int).toNat) (y129 ++ y133)) else (none)) else (none)) else (none))) else (none)) = some r := by first | (rw [hy129]; with_reducible exact H) | (have H2_ := (Option.bind_some _ _).symm.trans H; rw [hy129]; with_reducible exact H2_) | (have H2_ := (Option.bind_some _ _).symm.trans H; with_reducible exact H2_) | with_reducible exact H | (rw [hy129]; exact H) | exact H
            have Ny129 := Aside0.mk hy129
            clear hy129
            by_cases c8 : 0 < (x0_1.length : Int)
            · rw [if_pos c8] at H
              have c8b0 : decide (0 < (x0_1.length : Int)) = true := decide_eq_true c8
              have c8b1 : decide (0 < x0_1.length) = true := decide_eq_true (by omega)
              clear c8
              obtain ⟨y133, hy133⟩ : ∃ y_ : List Int, y_ = (([rd x0_1 0] : List Int)) := ⟨_, rfl⟩
              replace H : (if y129.length + y133.length < 140737488355328 then (if 0 ≤ t122 then (if t122 ≤ (x0_1.length : Int) then (runs_Encode.l0 k1 (x0_1.drop (t122 : Int).toNat) (y129 ++ y133)) else (none)) else (none)) else (none)) = some r := by first | (rw [hy133]; with_reducible exact H) | (have H2_ := (Option.bind_some _ _).symm.trans H; rw [hy133]; with_reducible exact H2_) | (have H2_ := (Option.bind_some _ _).symm.trans H; with_reducible exact H2_) | with_reducible exact H | (rw [hy133]; exact H) | exact H
              have Ny133 := Aside0.mk hy133
              clear hy133
              by_cases c9 : y129.length + y133.length < 140737488355328
              · rw [if_pos c9] at H
                have LMc9 := Aside0.mk c9
                clear c9
                obtain ⟨y136, hy136⟩ : ∃ y_ : List Int, y_ = (y129 ++ y133) := ⟨_, rfl⟩
                replace H : (if 0 ≤ t122 then (if t122 ≤ (x0_1.length : Int) then (runs_Encode.l0 k1 (x0_1.drop (t122 : Int).toNat) y136) else (none)) else (none)) = some r := by first | (rw [hy136]; with_reducible exact H) | (have H2_ := (Option.bind_some _ _).symm.trans H; rw [hy136]; with_reducible exact H2_) | (have H2_ := (Option.bind_some _ _).symm.trans H; with_reducible exact H2_) | with_reducible exact H | (rw [hy136]; exact H) | exact H
                have Ny136 := Aside0.mk hy136
                clear hy136
                by_cases c10 : 0 ≤ t122
                · rw [if_pos c10] at H
                  have c10b0 := eq_true c10
                  have c10b1 : decide (0 ≤ t122) = true := decide_eq_true c10
                  clear c10
                  by_cases c11 : t122 ≤ (x0_1.length : Int)
                  · rw [if_pos c11] at H
                    have c11b0 := eq_true c11
                    have c11b1 : decide (t122 ≤ (x0_1.length : Int)) = true := decide_eq_true c11
                    clear c11
                    obtain ⟨y139, hy139⟩ : ∃ y_ : List Int, y_ = (x0_1.drop (t122 : Int).toNat) := ⟨_, rfl⟩
                    replace H : (runs_Encode.l0 k1 y139 y136) = some r := by first | (rw [hy139]; with_reducible exact H) | (have H2_ := (Option.bind_some _ _).symm.trans H; rw [hy139]; with_reducible exact H2_) | (have H2_ := (Option.bind_some _ _).symm.trans H; with_reducible exact H2_) | with_reducible exact H | (rw [hy139]; exact H) | exact H
                    have Ny139 := Aside0.mk hy139
                    clear hy139
                    have H' := Aside0.mk H
                    clear H
                    obtain ⟨Ao12, co12, eo12⟩ := Kd.V_slice HO_0.out
                    subst eo12
                    try go_wp2_with (first | ((with_reducible refine gate_callee (f := 20) rfl ?_); refine goesL_ (some 8) rfl rfl Try.func20 (by kernel_rfl) rfl #[.slice Ao12 x0_1.length co12] rfl (by (try simp only [List.map_toArray, List.map_cons, List.map_nil]); first | done | rfl | (simp only [List.length_drop, List.length_take]; rfl)) ?_; (with_reducible refine (runs_between.calls k1 _ _ x0_1 t121 _ ?side1 ?side2 A3.out).mono ?_); (case side1 => repeat (first | exact (Kd.V_reads' HO_0.out).2.2 | (with_reducible refine Kd.C_alloc ?_ _) | (with_reducible refine Kd.C_drewN ?_ _) | (with_reducible refine Kd.C_drew ?_))); (case side2 => exact (Kd.V_reads' HO_0.out).2.1); rintro e w' ⟨rfl, ⟨nd, rfl⟩⟩; refine ⟨_, rfl, ?_⟩) | ((with_reducible refine gate_callee (f := 21) rfl ?_); refine goesL_ (some 12) rfl rfl Try.func21 (by kernel_rfl) rfl #[.slice Ao12 x0_1.length co12] rfl (by (try simp only [List.map_toArray, List.map_cons, List.map_nil]); first | done | rfl | (simp only [List.length_drop, List.length_take]; rfl)) ?_; (with_reducible refine (runs_like.calls k1 _ _ x0_1 t122 _ ?side1 ?side2 A5.out).mono ?_); (case side1 => repeat (first | exact (Kd.V_reads' HO_0.out).2.2 | (with_reducible refine Kd.C_alloc ?_ _) | (with_reducible refine Kd.C_drewN ?_ _) | (with_reducible refine Kd.C_drew ?_))); (case side2 => exact (Kd.V_reads' HO_0.out).2.1); rintro e w' ⟨rfl, ⟨nd, rfl⟩⟩; refine ⟨_, rfl, ?_⟩; obtain ⟨Ao13, co13, eo13⟩ := Kd.R_slice HO_2.out; subst eo13))
                    (try (rw [drewN_self wr]; generalize hq_ : World.drewN wr _ = wr; have n0_ : Aside0 (Kd.V (Kd.int .u8) 5 wr w.heap.size (fun k_ => (P0_ k_ ∨ w.heap.size ≤ k_) ∧ some k_ ≠ (.slice Ao13 x2_1.length co13 : Value).ownBlock) (.slice Ao12 x0_1.length co12) x0_1) := ⟨by rw [← hq_]; exact (by (with_reducible repeat (first | apply Kd.V_alloc | apply Kd.V_drewN | apply Kd.V_drew)); exact HO_0.out)⟩; have n1_ : Aside0 (Kd.R (Kd.int .u8) 5 wr w.heap.size (fun k_ => (w.heap.size ≤ k_)) (.slice Ao13 x2_1.length co13) x2_1) := ⟨by rw [← hq_]; exact (by (with_reducible repeat (first | apply Kd.R_alloc | apply Kd.R_drewN | apply Kd.R_drew)); exact HO_2.out)⟩; have n2_ : Aside0 (Below w.heap.size w wr) := ⟨by rw [← hq_]; exact (by repeat (first | (with_reducible first | exact HB.out | apply below_alloc | apply pw_below_drewN | apply below_drew1) | exact HB.out))⟩; clear HO_0 HO_2 HB hq_; have HO_0 := n0_; have HO_2 := n1_; have HB := n2_; clear n0_ n1_ n2_))
                    have n0_ := Aside0.mk (Kd.V_drew HO_0.out)
                    have n1_ := Aside0.mk (Kd.R_drew HO_2.out)
                    have n2_ := Aside0.mk (below_drew1 HB.out)
                    clear HO_0
                    clear HO_2
                    clear HB
                    have HO_0 := n0_
                    have HO_2 := n1_
                    have HB := n2_
                    clear n0_ n1_ n2_
                    have p132 : 0 ≤ (0 : Int) := (by omega)
                    have q132 : 0 < (x0_1.length : Int) := of_decide_eq_true (by first | (with_reducible assumption) | assumption)
                    obtain ⟨ad132, e132, hx132_0⟩ := Kd.at_int (Kd.V_reads' HO_0.out).2.2 0 p132 q132
                    cases e132
                    have qi132 : (0 < x0_1.length) = True := eq_true (by omega)
                    (try rw [show ((0 : Int)).toNat = 0 from rfl] at hx132_0)
                    (try rw [Addr.add_zero'] at hx132_0)
                    replace p132 := eq_true p132
                    replace q132 := eq_true q132
                    refine start_ (n := 15) (S := fun w' => w'.cell? ad132 = some (.int .u8 (rd x0_1 0))) (ds := []) #[false, false, false, false, false, false, false, false, false, false, false, false, false, false, false] (by kernel_rfl) rfl rfl (hx132_0) (fun hHeld => ?_); refine with_tabW runs_Encode.tab5 runs_Encode.bits5 (fun HT_ HW_ => ?_)
                    generalize wr.drew = w14 at HO_0 HO_2 HB hx132_0 hHeld ⊢
                    refine pure_ (i := 0) (N := some 13) (v := ?_) (a' := ?_) #[true, false, false, false, false, false, false, false, false, false, false, false, false, false, false] rfl rfl (any_of HT_.out (by kernel_rfl)) (fun _ _ _ h => h) (Or.inl ⟨by rfl, ?_⟩) ?_ ?_
                    rotate_left
                    · intro w'
                      go_simp
                      with_reducible rfl
                    rotate_left
                    · simp only [Act.put, List.setIfInBounds_toArray, List.set_cons_zero, List.set_cons_succ, i64_w, i32_w]
                      rfl
                    refine pure_ (i := 1) (N := some 14) (v := ?_) (a' := ?_) #[true, true, false, false, false, false, false, false, false, false, false, false, false, false, false] rfl rfl (any_of HT_.out (by kernel_rfl)) (fun _ _ _ h => h) (Or.inl ⟨by rfl, ?_⟩) ?_ ?_
                    rotate_left
                    · intro w'
                      go_simp
                      with_reducible rfl
                    rotate_left
                    · simp only [Act.put, List.setIfInBounds_toArray, List.set_cons_zero, List.set_cons_succ, i64_w, i32_w]
                      rfl
                    refine pure_ (i := 2) (N := some 15) (v := ?_) (a' := ?_) #[true, true, true, false, false, false, false, false, false, false, false, false, false, false, false] rfl rfl (any_of HT_.out (by kernel_rfl)) (fun _ _ _ h => h) (Or.inl ⟨by rfl, ?_⟩) ?_ ?_
                    rotate_left
                    · intro w'
                      go_simp
                      with_reducible rfl
                    rotate_left
                    · simp only [Act.put, List.setIfInBounds_toArray, List.set_cons_zero, List.set_cons_succ, i64_w, i32_w]
                      rfl
                    refine pure_ (i := 3) (N := some 16) (v := ?_) (a' := ?_) #[true, true, true, true, false, false, false, false, false, false, false, false, false, false, false] rfl rfl (any_of HT_.out (by kernel_rfl)) (fun _ _ _ h => h) (Or.inl ⟨by rfl, ?_⟩) ?_ ?_
                    rotate_left
                    · intro w'
                      go_simp
                      with_reducible rfl
                    rotate_left
                    · simp only [Act.put, List.setIfInBounds_toArray, List.set_cons_zero, List.set_cons_succ, i64_w, i32_w]
                      rfl
                    refine pure_ (i := 4) (N := some 17) (v := ?_) (a' := ?_) #[true, true, true, true, true, false, false, false, false, false, false, false, false, false, false] rfl rfl (any_of HT_.out (by kernel_rfl)) (fun _ _ _ h => h) (Or.inl ⟨by rfl, ?_⟩) ?_ ?_
                    rotate_left
                    · intro w'
                      go_simp
                      with_reducible rfl
                    rotate_left
                    · simp only [Act.put, List.setIfInBounds_toArray, List.set_cons_zero, List.set_cons_succ, i64_w, i32_w]
                      rfl
                    refine pure_ (i := 5) (N := some 18) (v := ?_) (a' := ?_) #[true, true, true, true, true, true, false, false, false, false, false, false, false, false, false] rfl rfl (any_of HT_.out (by kernel_rfl)) (fun _ _ _ h => h) (Or.inl ⟨by rfl, ?_⟩) ?_ ?_
                    rotate_left
                    · intro w'
                      go_simp
                      with_reducible rfl
                    rotate_left
                    · simp only [Act.put, List.setIfInBounds_toArray, List.set_cons_zero, List.set_cons_succ, i64_w, i32_w]
                      rfl
                    refine pure_ (i := 9) (N := some 22) (v := ?_) (a' := ?_) #[true, true, true, true, true, true, false, false, false, true, false, false, false, false, false] rfl rfl (any_of HT_.out (by kernel_rfl)) (fun _ _ _ h => h) (Or.inl ⟨by rfl, ?_⟩) ?_ ?_
                    rotate_left
                    · intro w'
                      go_simp
                      with_reducible rfl
                    rotate_left
                    · simp only [Act.put, List.setIfInBounds_toArray, List.set_cons_zero, List.set_cons_succ, i64_w, i32_w]
                      rfl
                    refine pure_ (i := 10) (N := some 23) (v := ?_) (a' := ?_) #[true, true, true, true, true, true, false, false, false, true, true, false, false, false, false] rfl rfl (any_of HT_.out (by kernel_rfl)) (fun _ _ _ h => h) (Or.inl ⟨by rfl, ?_⟩) ?_ ?_
                    rotate_left
                    · intro w'
                      go_simp
                      with_reducible rfl
                    rotate_left
                    · simp only [Act.put, List.setIfInBounds_toArray, List.set_cons_zero, List.set_cons_succ, i64_w, i32_w]
                      rfl
                    refine take_ (i := 11) (N := some 24) (v := ?_) (a' := ?_) #[true, true, true, true, true, true, false, false, false, true, true, true, false, false, false] rfl rfl (take_ofW HT_.out HW_.out (by kernel_rfl)) (fun _ _ _ h => h) (Or.inl ⟨by rfl, ?_⟩) hHeld ?_ ?_
                    rotate_left
                    · intro w' s0
                      go_simp
                      with_reducible rfl
                    rotate_left
                    · simp only [Act.put, List.setIfInBounds_toArray, List.set_cons_zero, List.set_cons_succ, i64_w, i32_w]
                      rfl
                    refine join_ (σ := Value × Value × Value × Value) 2 #[true, true, true, true, true, true, true, true, true, true, true, true, true, false, false] (fun s_ => [(19, s_.1), (20, s_.2.1), (21, s_.2.2.1), (25, s_.2.2.2)]) (fun s_ w' => (w'.cell? ad132 = some (.int .u8 (rd x0_1 0))) ∧ (Kd.R (Kd.int .u64) 29 w' w.heap.size (fun k_ => (w.heap.size ≤ k_)) s_.1 y123) ∧ (Kd.R (Kd.int .u8) 5 w' w.heap.size (fun k_ => (w.heap.size ≤ k_) ∧ some k_ ≠ (s_.2.2.1 : Value).ownBlock ∧ some k_ ≠ (s_.2.2.2 : Value).ownBlock) s_.2.1 t126) ∧ (Kd.R (Kd.int .u8) 5 w' w.heap.size (fun k_ => (w.heap.size ≤ k_) ∧ some k_ ≠ (s_.2.1 : Value).ownBlock ∧ some k_ ≠ (s_.2.2.2 : Value).ownBlock) s_.2.2.1 y129) ∧ (Kd.R (Kd.int .u8) 5 w' w.heap.size (fun k_ => (w.heap.size ≤ k_) ∧ some k_ ≠ (s_.2.1 : Value).ownBlock ∧ some k_ ≠ (s_.2.2.1 : Value).ownBlock) s_.2.2.2 y133) ∧ (Kd.V (Kd.int .u8) 5 w' w.heap.size (fun k_ => (P0_ k_ ∨ w.heap.size ≤ k_) ∧ some k_ ≠ (s_.1 : Value).ownBlock ∧ some k_ ≠ (s_.2.1 : Value).ownBlock ∧ some k_ ≠ (s_.2.2.1 : Value).ownBlock ∧ some k_ ≠ (s_.2.2.2 : Value).ownBlock) (.slice (some ad132) x0_1.length co12) x0_1) ∧ (Below w.heap.size w w')) ?_ ?_
                    rotate_left
                    · intro hCont
                      refine two_ (i := 6) (j := 12) (Ni := some 19) (Nj := some 25) #[true, true, true, true, true, true, true, false, false, true, true, true, false, false, false] #[true, true, true, true, true, true, false, false, false, true, true, true, true, false, false] rfl rfl rfl rfl (two_of HT_.out (by kernel_rfl)) (by decide) (by decide) (fun K hK => ?_) (fun K hK => ?_)
                      · skip
                        refine Kd.R_lit_step (Kd.int .u64) _ 29 ?hg (N := 19) ?hd (xs := ([Go.bits .or .u64 (IntKind.u64.wrap ((IntKind.u64.wrap (wrap64 (t122 - 3))) * 2)) 1] : List Int)) (inner := [.int .u64 (Go.bits .or .u64 (IntKind.u64.wrap ((IntKind.u64.wrap (wrap64 (t122 - 3))) * 2)) 1)]) (ok := fun _ => True) (okp := fun _ => True) ?hr ?hp (fun _ hk => hk) trivial (Below.refl _ _) (Nat.le_refl _) (by simp) ?_; (case hd => rfl); (case hg => rfl); (case hr => first | (go_simp; done) | (go_simp; rfl)); (case hp => exact (Reps.one (show Kd.M (Kd.int .u64) _ _ _ (Go.bits .or .u64 (IntKind.u64.wrap ((IntKind.u64.wrap (wrap64 (t122 - 3))) * 2)) 1) [.int .u64 (Go.bits .or .u64 (IntKind.u64.wrap ((IntKind.u64.wrap (wrap64 (t122 - 3))) * 2)) 1)] from rfl) (Reps.none _ _)))
                        intro v124 w15 ho16 hb hg_ hnew_
                        have HS0_ := (hb.cell (World.block_lt_of_cell? _ _ (hHeld))).trans (hHeld)
                        clear hg_ hnew_
                        (first | rw [← Ny123.out] at ho16 | (simp only [Int.reduceToNat] at ho16; rw [← Ny123.out] at ho16))
                        have n0_ := Aside0.mk (Kd.V_elder' (by (with_reducible repeat (first | apply Kd.V_alloc | apply Kd.V_drewN | apply Kd.V_drew)); exact HO_0.out) (Kd.R_base ho16) hb)
                        have n1_ := Aside0.mk (Kd.R_below (by (with_reducible repeat (first | apply Kd.R_alloc | apply Kd.R_drewN | apply Kd.R_drew)); exact HO_2.out) hb)
                        have n2_ := Aside0.mk (Kd.R_lower (Kd.R_newM (M := fun k_ => (w.heap.size ≤ k_)) ho16 (below_size (by repeat (first | (with_reducible first | exact HB.out | apply below_alloc | apply pw_below_drewN | apply below_drew1) | exact HB.out))) (fun k_ h_ => h_)) (below_size (by repeat (first | (with_reducible first | exact HB.out | apply below_alloc | apply pw_below_drewN | apply below_drew1) | exact HB.out))))
                        have n3_ := Aside0.mk (below_step (by repeat (first | (with_reducible first | exact HB.out | apply below_alloc | apply pw_below_drewN | apply below_drew1) | exact HB.out)) hb)
                        clear HO_0
                        clear HO_2
                        clear HB
                        have HO_0 := n0_
                        have HO_2 := n1_
                        have HO125 := n2_
                        have HB := n3_
                        clear n0_ n1_ n2_ n3_
                        clear hb ho16
                        obtain ⟨Ao17, co17, eo17⟩ := Kd.R_slice HO125.out
                        (first | subst eo17 | (injection eo17 with f1_ f2_ f3_; have f4_ := f1_.symm; have f5_ := f3_.symm; clear f1_ f2_ f3_; subst f4_; subst f5_))
                        refine hK.out _ _ (HS0_) (fun hHeld => ?_)
                        clear hK K
                        refine norm_ (a' := ?_) ?_ ?_
                        rotate_left
                        · show Act.put _ (some 19) _ = _
                          simp only [Act.put, List.setIfInBounds_toArray, List.set_cons_zero, List.set_cons_succ, i64_w, i32_w]
                          rfl
                        refine two_ (i := 7) (j := 12) (Ni := some 20) (Nj := some 25) #[true, true, true, true, true, true, true, true, false, true, true, true, false, false, false] #[true, true, true, true, true, true, true, false, false, true, true, true, true, false, false] rfl rfl rfl rfl (two_of HT_.out (by kernel_rfl)) (by decide) (by decide) (fun K hK => ?_) (fun K hK => ?_)
                        · skip
                          refine goes_ Try.func14 (by kernel_rfl) rfl #[.slice none 0 0, .slice Ao17 y123.length co17] (by rfl) rfl rfl (by (try simp only [List.map_toArray, List.map_cons, List.map_nil]); first | done | rfl | (simp only [List.length_drop, List.length_take]; rfl)) ?_
                          refine (varint_Put.calls k1 _ _ ([] : List Int) _ _ y123 t126 _ ?side1 ?side2 ?side3 ?side4 A6.out).mono ?_
                          (case side1 => exact Kd.C_nil _ _)
                          (case side2 => exact Nat.le_refl _)
                          (case side3 => repeat (first | exact (Kd.R_reads' HO125.out).2.2 | (with_reducible refine Kd.C_alloc ?_ _) | (with_reducible refine Kd.C_drewN ?_ _) | (with_reducible refine Kd.C_drew ?_)))
                          (case side4 => exact (Kd.R_reads' HO125.out).2.1)
                          rintro e w18 ⟨v127, rfl, ho0, hb⟩
                          have HS0_ := (hb.cell (World.block_lt_of_cell? _ _ (hHeld))).trans (hHeld)
                          refine ⟨_, rfl, ?_⟩
                          have n0_ := Aside0.mk (Kd.V_elder' (by (with_reducible repeat (first | apply Kd.V_alloc | apply Kd.V_drewN | apply Kd.V_drew)); exact HO_0.out) (Kd.R_base ho0) hb)
                          have n1_ := Aside0.mk (Kd.R_elder' (by (with_reducible repeat (first | apply Kd.R_alloc | apply Kd.R_drewN | apply Kd.R_drew)); exact HO_2.out) (Kd.R_base ho0) hb)
                          have n2_ := Aside0.mk (Kd.R_below (by (with_reducible repeat (first | apply Kd.R_alloc | apply Kd.R_drewN | apply Kd.R_drew)); exact HO125.out) hb)
                          have n3_ := Aside0.mk (Kd.R_lower (Kd.R_new' (Kd.R_newM (M := fun k_ => (w.heap.size ≤ k_)) ho0 (below_size (by repeat (first | (with_reducible first | exact HB.out | apply below_alloc | apply pw_below_drewN | apply below_drew1) | exact HB.out))) (fun k_ h_ => h_)) (Kd.R_lt (by (with_reducible repeat (first | apply Kd.R_alloc | apply Kd.R_drewN | apply Kd.R_drew)); exact HO_2.out))) (below_size (by repeat (first | (with_reducible first | exact HB.out | apply below_alloc | apply pw_below_drewN | apply below_drew1) | exact HB.out))))
                          have n4_ := Aside0.mk (below_step (by repeat (first | (with_reducible first | exact HB.out | apply below_alloc | apply pw_below_drewN | apply below_drew1) | exact HB.out)) hb)
                          clear HO_0
                          clear HO_2
                          clear HO125
                          clear HB
                          have HO_0 := n0_
                          have HO_2 := n1_
                          have HO125 := n2_
                          have HO128 := n3_
                          have HB := n4_
                          clear n0_ n1_ n2_ n3_ n4_
                          (try clear hb)
                          (try clear hb2)
                          (try clear hk)
                          (try clear hi)
                          (try clear ho0)
                          obtain ⟨Ao20, co20, eo20⟩ := Kd.R_slice HO128.out
                          (first | subst eo20 | (injection eo20 with f1_ f2_ f3_; have f4_ := f1_.symm; have f5_ := f3_.symm; clear f1_ f2_ f3_; subst f4_; subst f5_))
                          refine hK.out _ _ (HS0_) (fun hHeld => ?_)
                          clear hK K
                          refine norm_ (a' := ?_) ?_ ?_
                          rotate_left
                          · show Act.put _ (some 20) _ = _
                            simp only [Act.put, List.setIfInBounds_toArray, List.set_cons_zero, List.set_cons_succ, i64_w, i32_w]
                            rfl
                          refine two_ (i := 8) (j := 12) (Ni := some 21) (Nj := some 25) #[true, true, true, true, true, true, true, true, true, true, true, true, false, false, false] #[true, true, true, true, true, true, true, true, false, true, true, true, true, false, false] rfl rfl rfl rfl (two_of HT_.out (by kernel_rfl)) (by decide) (by decide) (fun K hK => ?_) (fun K hK => ?_)
                          · skip
                            refine Kd.R_append_rows_step (Kd.int .u8) (w0 := w) w.heap.size (by rfl) (.tmp 13) (.tmp 20) 22 5 (.int .u8 0) 1 rfl Try.underlying22 info5 rfl (by decide) (by omega) (.slice Ao13 x2_1.length co13) x2_1 t126 _ _ _ (fun k_ => (w.heap.size ≤ k_) ∧ some k_ ≠ (.slice Ao20 t126.length co20 : Value).ownBlock) (fun _ => False) rfl rfl ?aO ?aR (fun _ _ h => h) (fun _ h => h.elim) ?aF ?aB ?aS ?aL ?_
                            (case aR => repeat (first | exact (Kd.R_reads' HO128.out).2.2 | (with_reducible refine Kd.C_alloc ?_ _) | (with_reducible refine Kd.C_drewN ?_ _) | (with_reducible refine Kd.C_drew ?_)))
                            (case aB => exact (by repeat (first | (with_reducible first | exact HB.out | apply below_alloc | apply pw_below_drewN | apply below_drew1) | exact HB.out)))
                            (case aF => exact (fun k_ hk => ⟨(Nat.le_trans (below_size (by repeat (first | (with_reducible first | exact HB.out | apply below_alloc | apply pw_below_drewN | apply below_drew1) | exact HB.out))) hk), Kd.fresh' (Kd.R_lt (by (with_reducible repeat (first | apply Kd.R_alloc | apply Kd.R_drewN | apply Kd.R_drew)); exact HO128.out)) k_ hk⟩))
                            (case aO => exact (by (with_reducible repeat (first | apply Kd.R_alloc | apply Kd.R_drewN | apply Kd.R_drew)); exact HO_2.out))
                            (case aS => exact (below_size (by repeat (first | (with_reducible first | exact HB.out | apply below_alloc | apply pw_below_drewN | apply below_drew1) | exact HB.out))))
                            (case aL => have := LMc7.out; omega)
                            intro v130 w19 ho hb hg hat
                            (first | have HS0_ := cell_grown hg (hHeld) (by first | (rw [add_block]; exact (fun e_ => by have ho_ := V_okb HO_0.out (by have h0_ := of_eq_true p132; have h1_ := of_eq_true q132; omega) (by decide); first | exact ho_.2 e_ | exact ho_.1.2 e_ | exact ho_.1.1.2 e_ | exact ho_.1.1.1.2 e_ | exact ho_.1.1.1.1.2 e_ | exact ho_.1.1.1.1.1.2 e_ | exact ho_.1.1.1.1.1.1.2 e_ | exact ho_.2.1 e_ | exact ho_.2.2 e_ | exact ho_.2.2.1 e_ | exact ho_.2.2.2 e_ | exact ho_.2.2.2.1 e_ | exact ho_.2.2.2.2 e_ | exact ho_.1.2.1 e_ | exact ho_.1.2.2 e_ | exact ho_.1.2.2.1 e_ | exact ho_.1.2.2.2 e_ | exact ho_.1.2.2.2.1 e_ | exact ho_.1.2.2.2.2 e_ | exact ho_.1.1.2.1 e_ | exact ho_.1.1.2.2 e_ | exact ho_.1.1.2.2.1 e_ | exact ho_.1.1.2.2.2 e_ | exact ho_.1.1.2.2.2.1 e_ | exact ho_.1.1.2.2.2.2 e_)) | (show some (Addr.add _ _).block ≠ _; rw [add_block]; exact (fun e_ => by have ho_ := V_okb HO_0.out (by have h0_ := of_eq_true p132; have h1_ := of_eq_true q132; omega) (by decide); first | exact ho_.2 e_ | exact ho_.1.2 e_ | exact ho_.1.1.2 e_ | exact ho_.1.1.1.2 e_ | exact ho_.1.1.1.1.2 e_ | exact ho_.1.1.1.1.1.2 e_ | exact ho_.1.1.1.1.1.1.2 e_ | exact ho_.2.1 e_ | exact ho_.2.2 e_ | exact ho_.2.2.1 e_ | exact ho_.2.2.2 e_ | exact ho_.2.2.2.1 e_ | exact ho_.2.2.2.2 e_ | exact ho_.1.2.1 e_ | exact ho_.1.2.2 e_ | exact ho_.1.2.2.1 e_ | exact ho_.1.2.2.2 e_ | exact ho_.1.2.2.2.1 e_ | exact ho_.1.2.2.2.2 e_ | exact ho_.1.1.2.1 e_ | exact ho_.1.1.2.2 e_ | exact ho_.1.1.2.2.1 e_ | exact ho_.1.1.2.2.2 e_ | exact ho_.1.1.2.2.2.1 e_ | exact ho_.1.1.2.2.2.2 e_)) | exact (fun e_ => by have ho_ := V_okb HO_0.out (by have h0_ := of_eq_true p132; have h1_ := of_eq_true q132; omega) (by decide); first | exact ho_.2 e_ | exact ho_.1.2 e_ | exact ho_.1.1.2 e_ | exact ho_.1.1.1.2 e_ | exact ho_.1.1.1.1.2 e_ | exact ho_.1.1.1.1.1.2 e_ | exact ho_.1.1.1.1.1.1.2 e_ | exact ho_.2.1 e_ | exact ho_.2.2 e_ | exact ho_.2.2.1 e_ | exact ho_.2.2.2 e_ | exact ho_.2.2.2.1 e_ | exact ho_.2.2.2.2 e_ | exact ho_.1.2.1 e_ | exact ho_.1.2.2 e_ | exact ho_.1.2.2.1 e_ | exact ho_.1.2.2.2 e_ | exact ho_.1.2.2.2.1 e_ | exact ho_.1.2.2.2.2 e_ | exact ho_.1.1.2.1 e_ | exact ho_.1.1.2.2 e_ | exact ho_.1.1.2.2.1 e_ | exact ho_.1.1.2.2.2 e_ | exact ho_.1.1.2.2.2.1 e_ | exact ho_.1.1.2.2.2.2 e_)) | have HS0_ := cell_grown hg (cell_unalloc (hHeld) (by first | (rw [add_block]; exact V_ltb HO_0.out (by have h0_ := of_eq_true p132; have h1_ := of_eq_true q132; omega) (by decide)) | (show (Addr.add _ _).block < _; rw [add_block]; exact V_ltb HO_0.out (by have h0_ := of_eq_true p132; have h1_ := of_eq_true q132; omega) (by decide)) | exact V_ltb HO_0.out (by have h0_ := of_eq_true p132; have h1_ := of_eq_true q132; omega) (by decide))) (by first | (rw [add_block]; exact (fun e_ => by have ho_ := V_okb HO_0.out (by have h0_ := of_eq_true p132; have h1_ := of_eq_true q132; omega) (by decide); first | exact ho_.2 e_ | exact ho_.1.2 e_ | exact ho_.1.1.2 e_ | exact ho_.1.1.1.2 e_ | exact ho_.1.1.1.1.2 e_ | exact ho_.1.1.1.1.1.2 e_ | exact ho_.1.1.1.1.1.1.2 e_ | exact ho_.2.1 e_ | exact ho_.2.2 e_ | exact ho_.2.2.1 e_ | exact ho_.2.2.2 e_ | exact ho_.2.2.2.1 e_ | exact ho_.2.2.2.2 e_ | exact ho_.1.2.1 e_ | exact ho_.1.2.2 e_ | exact ho_.1.2.2.1 e_ | exact ho_.1.2.2.2 e_ | exact ho_.1.2.2.2.1 e_ | exact ho_.1.2.2.2.2 e_ | exact ho_.1.1.2.1 e_ | exact ho_.1.1.2.2 e_ | exact ho_.1.1.2.2.1 e_ | exact ho_.1.1.2.2.2 e_ | exact ho_.1.1.2.2.2.1 e_ | exact ho_.1.1.2.2.2.2 e_)) | (show some (Addr.add _ _).block ≠ _; rw [add_block]; exact (fun e_ => by have ho_ := V_okb HO_0.out (by have h0_ := of_eq_true p132; have h1_ := of_eq_true q132; omega) (by decide); first | exact ho_.2 e_ | exact ho_.1.2 e_ | exact ho_.1.1.2 e_ | exact ho_.1.1.1.2 e_ | exact ho_.1.1.1.1.2 e_ | exact ho_.1.1.1.1.1.2 e_ | exact ho_.1.1.1.1.1.1.2 e_ | exact ho_.2.1 e_ | exact ho_.2.2 e_ | exact ho_.2.2.1 e_ | exact ho_.2.2.2 e_ | exact ho_.2.2.2.1 e_ | exact ho_.2.2.2.2 e_ | exact ho_.1.2.1 e_ | exact ho_.1.2.2 e_ | exact ho_.1.2.2.1 e_ | exact ho_.1.2.2.2 e_ | exact ho_.1.2.2.2.1 e_ | exact ho_.1.2.2.2.2 e_ | exact ho_.1.1.2.1 e_ | exact ho_.1.1.2.2 e_ | exact ho_.1.1.2.2.1 e_ | exact ho_.1.1.2.2.2 e_ | exact ho_.1.1.2.2.2.1 e_ | exact ho_.1.1.2.2.2.2 e_)) | exact (fun e_ => by have ho_ := V_okb HO_0.out (by have h0_ := of_eq_true p132; have h1_ := of_eq_true q132; omega) (by decide); first | exact ho_.2 e_ | exact ho_.1.2 e_ | exact ho_.1.1.2 e_ | exact ho_.1.1.1.2 e_ | exact ho_.1.1.1.1.2 e_ | exact ho_.1.1.1.1.1.2 e_ | exact ho_.1.1.1.1.1.1.2 e_ | exact ho_.2.1 e_ | exact ho_.2.2 e_ | exact ho_.2.2.1 e_ | exact ho_.2.2.2 e_ | exact ho_.2.2.2.1 e_ | exact ho_.2.2.2.2 e_ | exact ho_.1.2.1 e_ | exact ho_.1.2.2 e_ | exact ho_.1.2.2.1 e_ | exact ho_.1.2.2.2 e_ | exact ho_.1.2.2.2.1 e_ | exact ho_.1.2.2.2.2 e_ | exact ho_.1.1.2.1 e_ | exact ho_.1.1.2.2 e_ | exact ho_.1.1.2.2.1 e_ | exact ho_.1.1.2.2.2 e_ | exact ho_.1.1.2.2.2.1 e_ | exact ho_.1.1.2.2.2.2 e_)))
                            rw [← Ny129.out] at ho
                            have n0_ := Aside0.mk (Kd.V_afterv (ok := (fun k_ => (P0_ k_ ∨ w.heap.size ≤ k_) ∧ some k_ ≠ (.slice Ao17 y123.length co17 : Value).ownBlock ∧ some k_ ≠ (.slice Ao20 t126.length co20 : Value).ownBlock)) (by (with_reducible repeat (first | apply Kd.V_alloc | apply Kd.V_drewN | apply Kd.V_drew)); exact Kd.V_mono HO_0.out (fun _ hk => ⟨⟨hk.1.1.1, ⟨hk.1.2, hk.2⟩⟩, hk.1.1.2⟩)) hg hat)
                            have n1_ := Aside0.mk (Kd.R_over' (by (with_reducible repeat (first | apply Kd.R_alloc | apply Kd.R_drewN | apply Kd.R_drew)); exact HO125.out) (Kd.R_typed (by (with_reducible repeat (first | apply Kd.R_alloc | apply Kd.R_drewN | apply Kd.R_drew)); exact HO_2.out)) (by decide) hg)
                            have n2_ := Aside0.mk (Kd.R_after (ok := (fun k_ => (w.heap.size ≤ k_))) (by (with_reducible repeat (first | apply Kd.R_alloc | apply Kd.R_drewN | apply Kd.R_drew)); exact Kd.R_mono HO128.out (fun _ hk => ⟨hk.1.1, hk.2⟩)) hg hat)
                            have n3_ := Aside0.mk (hb)
                            have n4_ := Aside0.mk (ho)
                            clear HO_0
                            clear HO125
                            clear HO128
                            clear HB
                            clear HO_2
                            have HO_0 := n0_
                            have HO125 := n1_
                            have HO128 := n2_
                            have HB := n3_
                            have HO131 := n4_
                            clear n0_ n1_ n2_ n3_ n4_
                            clear ho hb hg hat
                            refine hK.out _ _ (HS0_) (fun hHeld => ?_)
                            clear hK K
                            refine norm_ (a' := ?_) ?_ ?_
                            rotate_left
                            · show Act.put _ (some 21) _ = _
                              simp only [Act.put, List.setIfInBounds_toArray, List.set_cons_zero, List.set_cons_succ, i64_w, i32_w]
                              rfl
                            refine one_ (i := 12) (N := some 25) #[true, true, true, true, true, true, true, true, true, true, true, true, true, false, false] rfl rfl (one_of HT_.out (by kernel_rfl)) (by decide) (fun K hK => ?_)
                            refine Kd.R_lit_step (Kd.int .u8) _ 5 ?hg (N := 25) ?hd (xs := ([rd x0_1 0] : List Int)) (inner := [.int .u8 (rd x0_1 0)]) (ok := fun _ => True) (okp := fun _ => True) ?hr ?hp (fun _ hk => hk) trivial (Below.refl _ _) (Nat.le_refl _) (by simp) ?_; (case hd => rfl); (case hg => rfl); (case hr => first | (go_simp; done) | (go_simp; rfl)); (case hp => exact (Reps.one (show Kd.M (Kd.int .u8) _ _ _ (rd x0_1 0) [.int .u8 (rd x0_1 0)] from rfl) (Reps.none _ _)))
                            intro v134 w21 ho22 hb hg_ hnew_
                            have HS0_ := (hb.cell (World.block_lt_of_cell? _ _ (hHeld))).trans (hHeld)
                            clear hg_ hnew_
                            (first | rw [← Ny133.out] at ho22 | (simp only [Int.reduceToNat] at ho22; rw [← Ny133.out] at ho22))
                            have n0_ := Aside0.mk (Kd.V_elder' (by (with_reducible repeat (first | apply Kd.V_alloc | apply Kd.V_drewN | apply Kd.V_drew)); exact HO_0.out) (Kd.R_base ho22) hb)
                            have n1_ := Aside0.mk (Kd.R_below (by (with_reducible repeat (first | apply Kd.R_alloc | apply Kd.R_drewN | apply Kd.R_drew)); exact HO125.out) hb)
                            have n2_ := Aside0.mk (Kd.R_elder' (by (with_reducible repeat (first | apply Kd.R_alloc | apply Kd.R_drewN | apply Kd.R_drew)); exact HO128.out) (Kd.R_base ho22) hb)
                            have n3_ := Aside0.mk (Kd.R_elder' (by (with_reducible repeat (first | apply Kd.R_alloc | apply Kd.R_drewN | apply Kd.R_drew)); exact HO131.out) (Kd.R_base ho22) hb)
                            have n4_ := Aside0.mk (Kd.R_lower (Kd.R_new' (Kd.R_new' (Kd.R_newM (M := fun k_ => (w.heap.size ≤ k_)) ho22 (below_size (by repeat (first | (with_reducible first | exact HB.out | apply below_alloc | apply pw_below_drewN | apply below_drew1) | exact HB.out))) (fun k_ h_ => h_)) (Kd.R_lt (by (with_reducible repeat (first | apply Kd.R_alloc | apply Kd.R_drewN | apply Kd.R_drew)); exact HO128.out))) (Kd.R_lt (by (with_reducible repeat (first | apply Kd.R_alloc | apply Kd.R_drewN | apply Kd.R_drew)); exact HO131.out))) (below_size (by repeat (first | (with_reducible first | exact HB.out | apply below_alloc | apply pw_below_drewN | apply below_drew1) | exact HB.out))))
                            have n5_ := Aside0.mk (below_step (by repeat (first | (with_reducible first | exact HB.out | apply below_alloc | apply pw_below_drewN | apply below_drew1) | exact HB.out)) hb)
                            clear HO_0
                            clear HO125
                            clear HO128
                            clear HO131
                            clear HB
                            have HO_0 := n0_
                            have HO125 := n1_
                            have HO128 := n2_
                            have HO131 := n3_
                            have HO135 := n4_
                            have HB := n5_
                            clear n0_ n1_ n2_ n3_ n4_ n5_
                            clear hb ho22
                            refine hK.out _ _ (HS0_) (fun hHeld => ?_)
                            clear hK K
                            refine norm_ (a' := ?_) ?_ ?_
                            rotate_left
                            · show Act.put _ (some 25) _ = _
                              simp only [Act.put, List.setIfInBounds_toArray, List.set_cons_zero, List.set_cons_succ, i64_w, i32_w]
                              rfl
                            exact norm_ (by simp only [putAll, Act.put, List.setIfInBounds_toArray, List.set_cons_zero, List.set_cons_succ]) (hCont (.slice Ao17 y123.length co17, .slice Ao20 t126.length co20, v130, v134) _ ⟨hHeld, (by (with_reducible repeat (first | apply Kd.R_alloc | apply Kd.R_drewN | apply Kd.R_drew)); exact Kd.R_mono HO125.out (fun _ hk => hk.1)), (by (with_reducible repeat (first | apply Kd.R_alloc | apply Kd.R_drewN | apply Kd.R_drew)); exact Kd.R_mono HO128.out (fun _ hk => ⟨hk.1.1, ⟨hk.1.2, hk.2⟩⟩)), (by (with_reducible repeat (first | apply Kd.R_alloc | apply Kd.R_drewN | apply Kd.R_drew)); exact Kd.R_mono HO131.out (fun _ hk => ⟨hk.1.1, ⟨hk.1.2, hk.2⟩⟩)), (by (with_reducible repeat (first | apply Kd.R_alloc | apply Kd.R_drewN | apply Kd.R_drew)); exact Kd.R_mono HO135.out (fun _ hk => ⟨hk.1.1.1, ⟨hk.1.2, hk.2⟩⟩)), (by (with_reducible repeat (first | apply Kd.V_alloc | apply Kd.V_drewN | apply Kd.V_drew)); exact Kd.V_mono HO_0.out (fun _ hk => ⟨hk.1.1.1, ⟨hk.1.1.2.1, ⟨hk.1.1.2.2, ⟨hk.1.2, hk.2⟩⟩⟩⟩)), (by repeat (first | (with_reducible first | exact HB.out | apply below_alloc | apply pw_below_drewN | apply below_drew1) | exact HB.out))⟩)
                          · skip
                            refine Kd.R_lit_step (Kd.int .u8) _ 5 ?hg (N := 25) ?hd (xs := ([rd x0_1 0] : List Int)) (inner := [.int .u8 (rd x0_1 0)]) (ok := fun _ => True) (okp := fun _ => True) ?hr ?hp (fun _ hk => hk) trivial (Below.refl _ _) (Nat.le_refl _) (by simp) ?_; (case hd => rfl); (case hg => rfl); (case hr => first | (go_simp; done) | (go_simp; rfl)); (case hp => exact (Reps.one (show Kd.M (Kd.int .u8) _ _ _ (rd x0_1 0) [.int .u8 (rd x0_1 0)] from rfl) (Reps.none _ _)))
                            intro v134 w19 ho20 hb hg_ hnew_
                            have HS0_ := (hb.cell (World.block_lt_of_cell? _ _ (hHeld))).trans (hHeld)
                            clear hg_ hnew_
                            (first | rw [← Ny133.out] at ho20 | (simp only [Int.reduceToNat] at ho20; rw [← Ny133.out] at ho20))
                            have n0_ := Aside0.mk (Kd.V_elder' (by (with_reducible repeat (first | apply Kd.V_alloc | apply Kd.V_drewN | apply Kd.V_drew)); exact HO_0.out) (Kd.R_base ho20) hb)
                            have n1_ := Aside0.mk (Kd.R_elder' (by (with_reducible repeat (first | apply Kd.R_alloc | apply Kd.R_drewN | apply Kd.R_drew)); exact HO_2.out) (Kd.R_base ho20) hb)
                            have n2_ := Aside0.mk (Kd.R_below (by (with_reducible repeat (first | apply Kd.R_alloc | apply Kd.R_drewN | apply Kd.R_drew)); exact HO125.out) hb)
                            have n3_ := Aside0.mk (Kd.R_elder' (by (with_reducible repeat (first | apply Kd.R_alloc | apply Kd.R_drewN | apply Kd.R_drew)); exact HO128.out) (Kd.R_base ho20) hb)
                            have n4_ := Aside0.mk (Kd.R_lower (Kd.R_new' (Kd.R_new' (Kd.R_newM (M := fun k_ => (w.heap.size ≤ k_)) ho20 (below_size (by repeat (first | (with_reducible first | exact HB.out | apply below_alloc | apply pw_below_drewN | apply below_drew1) | exact HB.out))) (fun k_ h_ => h_)) (Kd.R_lt (by (with_reducible repeat (first | apply Kd.R_alloc | apply Kd.R_drewN | apply Kd.R_drew)); exact HO_2.out))) (Kd.R_lt (by (with_reducible repeat (first | apply Kd.R_alloc | apply Kd.R_drewN | apply Kd.R_drew)); exact HO128.out))) (below_size (by repeat (first | (with_reducible first | exact HB.out | apply below_alloc | apply pw_below_drewN | apply below_drew1) | exact HB.out))))
                            have n5_ := Aside0.mk (below_step (by repeat (first | (with_reducible first | exact HB.out | apply below_alloc | apply pw_below_drewN | apply below_drew1) | exact HB.out)) hb)
                            clear HO_0
                            clear HO_2
                            clear HO125
                            clear HO128
                            clear HB
                            have HO_0 := n0_
                            have HO_2 := n1_
                            have HO125 := n2_
                            have HO128 := n3_
                            have HO135 := n4_
                            have HB := n5_
                            clear n0_ n1_ n2_ n3_ n4_ n5_
                            clear hb ho20
                            obtain ⟨Ao22, co22, eo22⟩ := Kd.R_slice HO128.out
                            (first | subst eo22 | (injection eo22 with f1_ f2_ f3_; have f4_ := f1_.symm; have f5_ := f3_.symm; clear f1_ f2_ f3_; subst f4_; subst f5_))
                            refine hK.out _ _ (HS0_) (fun hHeld => ?_)
                            clear hK K
                            refine norm_ (a' := ?_) ?_ ?_
                            rotate_left
                            · show Act.put _ (some 25) _ = _
                              simp only [Act.put, List.setIfInBounds_toArray, List.set_cons_zero, List.set_cons_succ, i64_w, i32_w]
                              rfl
                            refine one_ (i := 8) (N := some 21) #[true, true, true, true, true, true, true, true, true, true, true, true, true, false, false] rfl rfl (one_of HT_.out (by kernel_rfl)) (by decide) (fun K hK => ?_)
                            refine Kd.R_append_rows_step (Kd.int .u8) (w0 := w) w.heap.size (by rfl) (.tmp 13) (.tmp 20) 22 5 (.int .u8 0) 1 rfl Try.underlying22 info5 rfl (by decide) (by omega) (.slice Ao13 x2_1.length co13) x2_1 t126 _ _ _ (fun k_ => (w.heap.size ≤ k_) ∧ some k_ ≠ (.slice Ao22 t126.length co22 : Value).ownBlock ∧ some k_ ≠ (v134 : Value).ownBlock) (fun _ => False) rfl rfl ?aO ?aR (fun _ _ h => h) (fun _ h => h.elim) ?aF ?aB ?aS ?aL ?_
                            (case aR => repeat (first | exact (Kd.R_reads' HO128.out).2.2 | (with_reducible refine Kd.C_alloc ?_ _) | (with_reducible refine Kd.C_drewN ?_ _) | (with_reducible refine Kd.C_drew ?_)))
                            (case aB => exact (by repeat (first | (with_reducible first | exact HB.out | apply below_alloc | apply pw_below_drewN | apply below_drew1) | exact HB.out)))
                            (case aF => exact (fun k_ hk => ⟨(Nat.le_trans (below_size (by repeat (first | (with_reducible first | exact HB.out | apply below_alloc | apply pw_below_drewN | apply below_drew1) | exact HB.out))) hk), Kd.fresh' (Kd.R_lt (by (with_reducible repeat (first | apply Kd.R_alloc | apply Kd.R_drewN | apply Kd.R_drew)); exact HO128.out)) k_ hk, Kd.fresh' (Kd.R_lt (by (with_reducible repeat (first | apply Kd.R_alloc | apply Kd.R_drewN | apply Kd.R_drew)); exact HO135.out)) k_ hk⟩))
                            (case aO => exact (by (with_reducible repeat (first | apply Kd.R_alloc | apply Kd.R_drewN | apply Kd.R_drew)); exact Kd.R_mono HO_2.out (fun _ hk => ⟨hk.1.1, ⟨hk.1.2, hk.2⟩⟩)))
                            (case aS => exact (below_size (by repeat (first | (with_reducible first | exact HB.out | apply below_alloc | apply pw_below_drewN | apply below_drew1) | exact HB.out))))
                            (case aL => have := LMc7.out; omega)
                            intro v130 w21 ho hb hg hat
                            (first | have HS0_ := cell_grown hg (hHeld) (by first | (rw [add_block]; exact (fun e_ => by have ho_ := V_okb HO_0.out (by have h0_ := of_eq_true p132; have h1_ := of_eq_true q132; omega) (by decide); first | exact ho_.2 e_ | exact ho_.1.2 e_ | exact ho_.1.1.2 e_ | exact ho_.1.1.1.2 e_ | exact ho_.1.1.1.1.2 e_ | exact ho_.1.1.1.1.1.2 e_ | exact ho_.1.1.1.1.1.1.2 e_ | exact ho_.2.1 e_ | exact ho_.2.2 e_ | exact ho_.2.2.1 e_ | exact ho_.2.2.2 e_ | exact ho_.2.2.2.1 e_ | exact ho_.2.2.2.2 e_ | exact ho_.1.2.1 e_ | exact ho_.1.2.2 e_ | exact ho_.1.2.2.1 e_ | exact ho_.1.2.2.2 e_ | exact ho_.1.2.2.2.1 e_ | exact ho_.1.2.2.2.2 e_ | exact ho_.1.1.2.1 e_ | exact ho_.1.1.2.2 e_ | exact ho_.1.1.2.2.1 e_ | exact ho_.1.1.2.2.2 e_ | exact ho_.1.1.2.2.2.1 e_ | exact ho_.1.1.2.2.2.2 e_)) | (show some (Addr.add _ _).block ≠ _; rw [add_block]; exact (fun e_ => by have ho_ := V_okb HO_0.out (by have h0_ := of_eq_true p132; have h1_ := of_eq_true q132; omega) (by decide); first | exact ho_.2 e_ | exact ho_.1.2 e_ | exact ho_.1.1.2 e_ | exact ho_.1.1.1.2 e_ | exact ho_.1.1.1.1.2 e_ | exact ho_.1.1.1.1.1.2 e_ | exact ho_.1.1.1.1.1.1.2 e_ | exact ho_.2.1 e_ | exact ho_.2.2 e_ | exact ho_.2.2.1 e_ | exact ho_.2.2.2 e_ | exact ho_.2.2.2.1 e_ | exact ho_.2.2.2.2 e_ | exact ho_.1.2.1 e_ | exact ho_.1.2.2 e_ | exact ho_.1.2.2.1 e_ | exact ho_.1.2.2.2 e_ | exact ho_.1.2.2.2.1 e_ | exact ho_.1.2.2.2.2 e_ | exact ho_.1.1.2.1 e_ | exact ho_.1.1.2.2 e_ | exact ho_.1.1.2.2.1 e_ | exact ho_.1.1.2.2.2 e_ | exact ho_.1.1.2.2.2.1 e_ | exact ho_.1.1.2.2.2.2 e_)) | exact (fun e_ => by have ho_ := V_okb HO_0.out (by have h0_ := of_eq_true p132; have h1_ := of_eq_true q132; omega) (by decide); first | exact ho_.2 e_ | exact ho_.1.2 e_ | exact ho_.1.1.2 e_ | exact ho_.1.1.1.2 e_ | exact ho_.1.1.1.1.2 e_ | exact ho_.1.1.1.1.1.2 e_ | exact ho_.1.1.1.1.1.1.2 e_ | exact ho_.2.1 e_ | exact ho_.2.2 e_ | exact ho_.2.2.1 e_ | exact ho_.2.2.2 e_ | exact ho_.2.2.2.1 e_ | exact ho_.2.2.2.2 e_ | exact ho_.1.2.1 e_ | exact ho_.1.2.2 e_ | exact ho_.1.2.2.1 e_ | exact ho_.1.2.2.2 e_ | exact ho_.1.2.2.2.1 e_ | exact ho_.1.2.2.2.2 e_ | exact ho_.1.1.2.1 e_ | exact ho_.1.1.2.2 e_ | exact ho_.1.1.2.2.1 e_ | exact ho_.1.1.2.2.2 e_ | exact ho_.1.1.2.2.2.1 e_ | exact ho_.1.1.2.2.2.2 e_)) | have HS0_ := cell_grown hg (cell_unalloc (hHeld) (by first | (rw [add_block]; exact V_ltb HO_0.out (by have h0_ := of_eq_true p132; have h1_ := of_eq_true q132; omega) (by decide)) | (show (Addr.add _ _).block < _; rw [add_block]; exact V_ltb HO_0.out (by have h0_ := of_eq_true p132; have h1_ := of_eq_true q132; omega) (by decide)) | exact V_ltb HO_0.out (by have h0_ := of_eq_true p132; have h1_ := of_eq_true q132; omega) (by decide))) (by first | (rw [add_block]; exact (fun e_ => by have ho_ := V_okb HO_0.out (by have h0_ := of_eq_true p132; have h1_ := of_eq_true q132; omega) (by decide); first | exact ho_.2 e_ | exact ho_.1.2 e_ | exact ho_.1.1.2 e_ | exact ho_.1.1.1.2 e_ | exact ho_.1.1.1.1.2 e_ | exact ho_.1.1.1.1.1.2 e_ | exact ho_.1.1.1.1.1.1.2 e_ | exact ho_.2.1 e_ | exact ho_.2.2 e_ | exact ho_.2.2.1 e_ | exact ho_.2.2.2 e_ | exact ho_.2.2.2.1 e_ | exact ho_.2.2.2.2 e_ | exact ho_.1.2.1 e_ | exact ho_.1.2.2 e_ | exact ho_.1.2.2.1 e_ | exact ho_.1.2.2.2 e_ | exact ho_.1.2.2.2.1 e_ | exact ho_.1.2.2.2.2 e_ | exact ho_.1.1.2.1 e_ | exact ho_.1.1.2.2 e_ | exact ho_.1.1.2.2.1 e_ | exact ho_.1.1.2.2.2 e_ | exact ho_.1.1.2.2.2.1 e_ | exact ho_.1.1.2.2.2.2 e_)) | (show some (Addr.add _ _).block ≠ _; rw [add_block]; exact (fun e_ => by have ho_ := V_okb HO_0.out (by have h0_ := of_eq_true p132; have h1_ := of_eq_true q132; omega) (by decide); first | exact ho_.2 e_ | exact ho_.1.2 e_ | exact ho_.1.1.2 e_ | exact ho_.1.1.1.2 e_ | exact ho_.1.1.1.1.2 e_ | exact ho_.1.1.1.1.1.2 e_ | exact ho_.1.1.1.1.1.1.2 e_ | exact ho_.2.1 e_ | exact ho_.2.2 e_ | exact ho_.2.2.1 e_ | exact ho_.2.2.2 e_ | exact ho_.2.2.2.1 e_ | exact ho_.2.2.2.2 e_ | exact ho_.1.2.1 e_ | exact ho_.1.2.2 e_ | exact ho_.1.2.2.1 e_ | exact ho_.1.2.2.2 e_ | exact ho_.1.2.2.2.1 e_ | exact ho_.1.2.2.2.2 e_ | exact ho_.1.1.2.1 e_ | exact ho_.1.1.2.2 e_ | exact ho_.1.1.2.2.1 e_ | exact ho_.1.1.2.2.2 e_ | exact ho_.1.1.2.2.2.1 e_ | exact ho_.1.1.2.2.2.2 e_)) | exact (fun e_ => by have ho_ := V_okb HO_0.out (by have h0_ := of_eq_true p132; have h1_ := of_eq_true q132; omega) (by decide); first | exact ho_.2 e_ | exact ho_.1.2 e_ | exact ho_.1.1.2 e_ | exact ho_.1.1.1.2 e_ | exact ho_.1.1.1.1.2 e_ | exact ho_.1.1.1.1.1.2 e_ | exact ho_.1.1.1.1.1.1.2 e_ | exact ho_.2.1 e_ | exact ho_.2.2 e_ | exact ho_.2.2.1 e_ | exact ho_.2.2.2 e_ | exact ho_.2.2.2.1 e_ | exact ho_.2.2.2.2 e_ | exact ho_.1.2.1 e_ | exact ho_.1.2.2 e_ | exact ho_.1.2.2.1 e_ | exact ho_.1.2.2.2 e_ | exact ho_.1.2.2.2.1 e_ | exact ho_.1.2.2.2.2 e_ | exact ho_.1.1.2.1 e_ | exact ho_.1.1.2.2 e_ | exact ho_.1.1.2.2.1 e_ | exact ho_.1.1.2.2.2 e_ | exact ho_.1.1.2.2.2.1 e_ | exact ho_.1.1.2.2.2.2 e_)))
                            rw [← Ny129.out] at ho
                            have n0_ := Aside0.mk (Kd.V_afterv (ok := (fun k_ => (P0_ k_ ∨ w.heap.size ≤ k_) ∧ some k_ ≠ (.slice Ao17 y123.length co17 : Value).ownBlock ∧ some k_ ≠ (.slice Ao22 t126.length co22 : Value).ownBlock ∧ some k_ ≠ (v134 : Value).ownBlock)) (by (with_reducible repeat (first | apply Kd.V_alloc | apply Kd.V_drewN | apply Kd.V_drew)); exact Kd.V_mono HO_0.out (fun _ hk => ⟨⟨hk.1.1.1.1, ⟨hk.1.1.2, ⟨hk.1.2, hk.2⟩⟩⟩, hk.1.1.1.2⟩)) hg hat)
                            have n1_ := Aside0.mk (Kd.R_over' (by (with_reducible repeat (first | apply Kd.R_alloc | apply Kd.R_drewN | apply Kd.R_drew)); exact HO125.out) (Kd.R_typed (by (with_reducible repeat (first | apply Kd.R_alloc | apply Kd.R_drewN | apply Kd.R_drew)); exact HO_2.out)) (by decide) hg)
                            have n2_ := Aside0.mk (Kd.R_after (ok := (fun k_ => (w.heap.size ≤ k_) ∧ some k_ ≠ (v134 : Value).ownBlock)) (by (with_reducible repeat (first | apply Kd.R_alloc | apply Kd.R_drewN | apply Kd.R_drew)); exact Kd.R_mono HO128.out (fun _ hk => ⟨⟨hk.1.1.1, hk.2⟩, hk.1.2⟩)) hg hat)
                            have n3_ := Aside0.mk (Kd.R_after (ok := (fun k_ => (w.heap.size ≤ k_) ∧ some k_ ≠ (.slice Ao22 t126.length co22 : Value).ownBlock)) (by (with_reducible repeat (first | apply Kd.R_alloc | apply Kd.R_drewN | apply Kd.R_drew)); exact Kd.R_mono HO135.out (fun _ hk => ⟨⟨hk.1.1.1, hk.2⟩, hk.1.2⟩)) hg hat)
                            have n4_ := Aside0.mk (hb)
                            have n5_ := Aside0.mk (ho)
                            clear HO_0
                            clear HO125
                            clear HO128
                            clear HO135
                            clear HB
                            clear HO_2
                            have HO_0 := n0_
                            have HO125 := n1_
                            have HO128 := n2_
                            have HO135 := n3_
                            have HB := n4_
                            have HO131 := n5_
                            clear n0_ n1_ n2_ n3_ n4_ n5_
                            clear ho hb hg hat
                            refine hK.out _ _ (HS0_) (fun hHeld => ?_)
                            clear hK K
                            refine norm_ (a' := ?_) ?_ ?_
                            rotate_left
                            · show Act.put _ (some 21) _ = _
                              simp only [Act.put, List.setIfInBounds_toArray, List.set_cons_zero, List.set_cons_succ, i64_w, i32_w]
                              rfl
                            exact norm_ (by simp only [putAll, Act.put, List.setIfInBounds_toArray, List.set_cons_zero, List.set_cons_succ]) (hCont (.slice Ao17 y123.length co17, .slice Ao22 t126.length co22, v130, v134) _ ⟨hHeld, (by (with_reducible repeat (first | apply Kd.R_alloc | apply Kd.R_drewN | apply Kd.R_drew)); exact Kd.R_mono HO125.out (fun _ hk => hk.1)), (by (with_reducible repeat (first | apply Kd.R_alloc | apply Kd.R_drewN | apply Kd.R_drew)); exact Kd.R_mono HO128.out (fun _ hk => ⟨hk.1.1, ⟨hk.2, hk.1.2⟩⟩)), (by (with_reducible repeat (first | apply Kd.R_alloc | apply Kd.R_drewN | apply Kd.R_drew)); exact HO131.out), (by (with_reducible repeat (first | apply Kd.R_alloc | apply Kd.R_drewN | apply Kd.R_drew)); exact Kd.R_mono HO135.out (fun _ hk => ⟨hk.1.1, ⟨hk.1.2, hk.2⟩⟩)), (by (with_reducible repeat (first | apply Kd.V_alloc | apply Kd.V_drewN | apply Kd.V_drew)); exact Kd.V_mono HO_0.out (fun _ hk => ⟨hk.1.1, ⟨hk.1.2.1, ⟨hk.1.2.2.1, ⟨hk.2, hk.1.2.2.2⟩⟩⟩⟩)), (by repeat (first | (with_reducible first | exact HB.out | apply below_alloc | apply pw_below_drewN | apply below_drew1) | exact HB.out))⟩)
                        · skip
                          refine Kd.R_lit_step (Kd.int .u8) _ 5 ?hg (N := 25) ?hd (xs := ([rd x0_1 0] : List Int)) (inner := [.int .u8 (rd x0_1 0)]) (ok := fun _ => True) (okp := fun _ => True) ?hr ?hp (fun _ hk => hk) trivial (Below.refl _ _) (Nat.le_refl _) (by simp) ?_; (case hd => rfl); (case hg => rfl); (case hr => first | (go_simp; done) | (go_simp; rfl)); (case hp => exact (Reps.one (show Kd.M (Kd.int .u8) _ _ _ (rd x0_1 0) [.int .u8 (rd x0_1 0)] from rfl) (Reps.none _ _)))
                          intro v134 w17 ho18 hb hg_ hnew_
                          have HS0_ := (hb.cell (World.block_lt_of_cell? _ _ (hHeld))).trans (hHeld)
                          clear hg_ hnew_
                          (first | rw [← Ny133.out] at ho18 | (simp only [Int.reduceToNat] at ho18; rw [← Ny133.out] at ho18))
                          have n0_ := Aside0.mk (Kd.V_elder' (by (with_reducible repeat (first | apply Kd.V_alloc | apply Kd.V_drewN | apply Kd.V_drew)); exact HO_0.out) (Kd.R_base ho18) hb)
                          have n1_ := Aside0.mk (Kd.R_elder' (by (with_reducible repeat (first | apply Kd.R_alloc | apply Kd.R_drewN | apply Kd.R_drew)); exact HO_2.out) (Kd.R_base ho18) hb)
                          have n2_ := Aside0.mk (Kd.R_below (by (with_reducible repeat (first | apply Kd.R_alloc | apply Kd.R_drewN | apply Kd.R_drew)); exact HO125.out) hb)
                          have n3_ := Aside0.mk (Kd.R_lower (Kd.R_new' (Kd.R_newM (M := fun k_ => (w.heap.size ≤ k_)) ho18 (below_size (by repeat (first | (with_reducible first | exact HB.out | apply below_alloc | apply pw_below_drewN | apply below_drew1) | exact HB.out))) (fun k_ h_ => h_)) (Kd.R_lt (by (with_reducible repeat (first | apply Kd.R_alloc | apply Kd.R_drewN | apply Kd.R_drew)); exact HO_2.out))) (below_size (by repeat (first | (with_reducible first | exact HB.out | apply below_alloc | apply pw_below_drewN | apply below_drew1) | exact HB.out))))
                          have n4_ := Aside0.mk (below_step (by repeat (first | (with_reducible first | exact HB.out | apply below_alloc | apply pw_below_drewN | apply below_drew1) | exact HB.out)) hb)
                          clear HO_0
                          clear HO_2
                          clear HO125
                          clear HB
                          have HO_0 := n0_
                          have HO_2 := n1_
                          have HO125 := n2_
                          have HO135 := n3_
                          have HB := n4_
                          clear n0_ n1_ n2_ n3_ n4_
                          clear hb ho18
                          obtain ⟨Ao19, co19, eo19⟩ := Kd.R_slice HO125.out
                          (first | subst eo19 | (injection eo19 with f1_ f2_ f3_; have f4_ := f1_.symm; have f5_ := f3_.symm; clear f1_ f2_ f3_; subst f4_; subst f5_))
                          refine hK.out _ _ (HS0_) (fun hHeld => ?_)
                          clear hK K
                          refine norm_ (a' := ?_) ?_ ?_
                          rotate_left
                          · show Act.put _ (some 25) _ = _
                            simp only [Act.put, List.setIfInBounds_toArray, List.set_cons_zero, List.set_cons_succ, i64_w, i32_w]
                            rfl
                          refine one_ (i := 7) (N := some 20) #[true, true, true, true, true, true, true, true, false, true, true, true, true, false, false] rfl rfl (one_of HT_.out (by kernel_rfl)) (by decide) (fun K hK => ?_)
                          refine goes_ Try.func14 (by kernel_rfl) rfl #[.slice none 0 0, .slice Ao19 y123.length co19] (by rfl) rfl rfl (by (try simp only [List.map_toArray, List.map_cons, List.map_nil]); first | done | rfl | (simp only [List.length_drop, List.length_take]; rfl)) ?_
                          refine (varint_Put.calls k1 _ _ ([] : List Int) _ _ y123 t126 _ ?side1 ?side2 ?side3 ?side4 A6.out).mono ?_
                          (case side1 => exact Kd.C_nil _ _)
                          (case side2 => exact Nat.le_refl _)
                          (case side3 => repeat (first | exact (Kd.R_reads' HO125.out).2.2 | (with_reducible refine Kd.C_alloc ?_ _) | (with_reducible refine Kd.C_drewN ?_ _) | (with_reducible refine Kd.C_drew ?_)))
                          (case side4 => exact (Kd.R_reads' HO125.out).2.1)
                          rintro e w20 ⟨v127, rfl, ho0, hb⟩
                          have HS0_ := (hb.cell (World.block_lt_of_cell? _ _ (hHeld))).trans (hHeld)
                          refine ⟨_, rfl, ?_⟩
                          have n0_ := Aside0.mk (Kd.V_elder' (by (with_reducible repeat (first | apply Kd.V_alloc | apply Kd.V_drewN | apply Kd.V_drew)); exact HO_0.out) (Kd.R_base ho0) hb)
                          have n1_ := Aside0.mk (Kd.R_elder' (by (with_reducible repeat (first | apply Kd.R_alloc | apply Kd.R_drewN | apply Kd.R_drew)); exact HO_2.out) (Kd.R_base ho0) hb)
                          have n2_ := Aside0.mk (Kd.R_below (by (with_reducible repeat (first | apply Kd.R_alloc | apply Kd.R_drewN | apply Kd.R_drew)); exact HO125.out) hb)
                          have n3_ := Aside0.mk (Kd.R_elder' (by (with_reducible repeat (first | apply Kd.R_alloc | apply Kd.R_drewN | apply Kd.R_drew)); exact HO135.out) (Kd.R_base ho0) hb)
                          have n4_ := Aside0.mk (Kd.R_lower (Kd.R_new' (Kd.R_new' (Kd.R_newM (M := fun k_ => (w.heap.size ≤ k_)) ho0 (below_size (by repeat (first | (with_reducible first | exact HB.out | apply below_alloc | apply pw_below_drewN | apply below_drew1) | exact HB.out))) (fun k_ h_ => h_)) (Kd.R_lt (by (with_reducible repeat (first | apply Kd.R_alloc | apply Kd.R_drewN | apply Kd.R_drew)); exact HO_2.out))) (Kd.R_lt (by (with_reducible repeat (first | apply Kd.R_alloc | apply Kd.R_drewN | apply Kd.R_drew)); exact HO135.out))) (below_size (by repeat (first | (with_reducible first | exact HB.out | apply below_alloc | apply pw_below_drewN | apply below_drew1) | exact HB.out))))
                          have n5_ := Aside0.mk (below_step (by repeat (first | (with_reducible first | exact HB.out | apply below_alloc | apply pw_below_drewN | apply below_drew1) | exact HB.out)) hb)
                          clear HO_0
                          clear HO_2
                          clear HO125
                          clear HO135
                          clear HB
                          have HO_0 := n0_
                          have HO_2 := n1_
                          have HO125 := n2_
                          have HO135 := n3_
                          have HO128 := n4_
                          have HB := n5_
                          clear n0_ n1_ n2_ n3_ n4_ n5_
                          (try clear hb)
                          (try clear hb2)
                          (try clear hk)
                          (try clear hi)
                          (try clear ho0)
                          obtain ⟨Ao22, co22, eo22⟩ := Kd.R_slice HO128.out
                          (first | subst eo22 | (injection eo22 with f1_ f2_ f3_; have f4_ := f1_.symm; have f5_ := f3_.symm; clear f1_ f2_ f3_; subst f4_; subst f5_))
                          refine hK.out _ _ (HS0_) (fun hHeld => ?_)
                          clear hK K
                          refine norm_ (a' := ?_) ?_ ?_
                          rotate_left
                          · show Act.put _ (some 20) _ = _
                            simp only [Act.put, List.setIfInBounds_toArray, List.set_cons_zero, List.set_cons_succ, i64_w, i32_w]
                            rfl
                          refine one_ (i := 8) (N := some 21) #[true, true, true, true, true, true, true, true, true, true, true, true, true, false, false] rfl rfl (one_of HT_.out (by kernel_rfl)) (by decide) (fun K hK => ?_)
                          refine Kd.R_append_rows_step (Kd.int .u8) (w0 := w) w.heap.size (by rfl) (.tmp 13) (.tmp 20) 22 5 (.int .u8 0) 1 rfl Try.underlying22 info5 rfl (by decide) (by omega) (.slice Ao13 x2_1.length co13) x2_1 t126 _ _ _ (fun k_ => (w.heap.size ≤ k_) ∧ some k_ ≠ (v134 : Value).ownBlock ∧ some k_ ≠ (.slice Ao22 t126.length co22 : Value).ownBlock) (fun _ => False) rfl rfl ?aO ?aR (fun _ _ h => h) (fun _ h => h.elim) ?aF ?aB ?aS ?aL ?_
                          (case aR => repeat (first | exact (Kd.R_reads' HO128.out).2.2 | (with_reducible refine Kd.C_alloc ?_ _) | (with_reducible refine Kd.C_drewN ?_ _) | (with_reducible refine Kd.C_drew ?_)))
                          (case aB => exact (by repeat (first | (with_reducible first | exact HB.out | apply below_alloc | apply pw_below_drewN | apply below_drew1) | exact HB.out)))
                          (case aF => exact (fun k_ hk => ⟨(Nat.le_trans (below_size (by repeat (first | (with_reducible first | exact HB.out | apply below_alloc | apply pw_below_drewN | apply below_drew1) | exact HB.out))) hk), Kd.fresh' (Kd.R_lt (by (with_reducible repeat (first | apply Kd.R_alloc | apply Kd.R_drewN | apply Kd.R_drew)); exact HO135.out)) k_ hk, Kd.fresh' (Kd.R_lt (by (with_reducible repeat (first | apply Kd.R_alloc | apply Kd.R_drewN | apply Kd.R_drew)); exact HO128.out)) k_ hk⟩))
                          (case aO => exact (by (with_reducible repeat (first | apply Kd.R_alloc | apply Kd.R_drewN | apply Kd.R_drew)); exact Kd.R_mono HO_2.out (fun _ hk => ⟨hk.1.1, ⟨hk.1.2, hk.2⟩⟩)))
                          (case aS => exact (below_size (by repeat (first | (with_reducible first | exact HB.out | apply below_alloc | apply pw_below_drewN | apply below_drew1) | exact HB.out))))
                          (case aL => have := LMc7.out; omega)
                          intro v130 w21 ho hb hg hat
                          (first | have HS0_ := cell_grown hg (hHeld) (by first | (rw [add_block]; exact (fun e_ => by have ho_ := V_okb HO_0.out (by have h0_ := of_eq_true p132; have h1_ := of_eq_true q132; omega) (by decide); first | exact ho_.2 e_ | exact ho_.1.2 e_ | exact ho_.1.1.2 e_ | exact ho_.1.1.1.2 e_ | exact ho_.1.1.1.1.2 e_ | exact ho_.1.1.1.1.1.2 e_ | exact ho_.1.1.1.1.1.1.2 e_ | exact ho_.2.1 e_ | exact ho_.2.2 e_ | exact ho_.2.2.1 e_ | exact ho_.2.2.2 e_ | exact ho_.2.2.2.1 e_ | exact ho_.2.2.2.2 e_ | exact ho_.1.2.1 e_ | exact ho_.1.2.2 e_ | exact ho_.1.2.2.1 e_ | exact ho_.1.2.2.2 e_ | exact ho_.1.2.2.2.1 e_ | exact ho_.1.2.2.2.2 e_ | exact ho_.1.1.2.1 e_ | exact ho_.1.1.2.2 e_ | exact ho_.1.1.2.2.1 e_ | exact ho_.1.1.2.2.2 e_ | exact ho_.1.1.2.2.2.1 e_ | exact ho_.1.1.2.2.2.2 e_)) | (show some (Addr.add _ _).block ≠ _; rw [add_block]; exact (fun e_ => by have ho_ := V_okb HO_0.out (by have h0_ := of_eq_true p132; have h1_ := of_eq_true q132; omega) (by decide); first | exact ho_.2 e_ | exact ho_.1.2 e_ | exact ho_.1.1.2 e_ | exact ho_.1.1.1.2 e_ | exact ho_.1.1.1.1.2 e_ | exact ho_.1.1.1.1.1.2 e_ | exact ho_.1.1.1.1.1.1.2 e_ | exact ho_.2.1 e_ | exact ho_.2.2 e_ | exact ho_.2.2.1 e_ | exact ho_.2.2.2 e_ | exact ho_.2.2.2.1 e_ | exact ho_.2.2.2.2 e_ | exact ho_.1.2.1 e_ | exact ho_.1.2.2 e_ | exact ho_.1.2.2.1 e_ | exact ho_.1.2.2.2 e_ | exact ho_.1.2.2.2.1 e_ | exact ho_.1.2.2.2.2 e_ | exact ho_.1.1.2.1 e_ | exact ho_.1.1.2.2 e_ | exact ho_.1.1.2.2.1 e_ | exact ho_.1.1.2.2.2 e_ | exact ho_.1.1.2.2.2.1 e_ | exact ho_.1.1.2.2.2.2 e_)) | exact (fun e_ => by have ho_ := V_okb HO_0.out (by have h0_ := of_eq_true p132; have h1_ := of_eq_true q132; omega) (by decide); first | exact ho_.2 e_ | exact ho_.1.2 e_ | exact ho_.1.1.2 e_ | exact ho_.1.1.1.2 e_ | exact ho_.1.1.1.1.2 e_ | exact ho_.1.1.1.1.1.2 e_ | exact ho_.1.1.1.1.1.1.2 e_ | exact ho_.2.1 e_ | exact ho_.2.2 e_ | exact ho_.2.2.1 e_ | exact ho_.2.2.2 e_ | exact ho_.2.2.2.1 e_ | exact ho_.2.2.2.2 e_ | exact ho_.1.2.1 e_ | exact ho_.1.2.2 e_ | exact ho_.1.2.2.1 e_ | exact ho_.1.2.2.2 e_ | exact ho_.1.2.2.2.1 e_ | exact ho_.1.2.2.2.2 e_ | exact ho_.1.1.2.1 e_ | exact ho_.1.1.2.2 e_ | exact ho_.1.1.2.2.1 e_ | exact ho_.1.1.2.2.2 e_ | exact ho_.1.1.2.2.2.1 e_ | exact ho_.1.1.2.2.2.2 e_)) | have HS0_ := cell_grown hg (cell_unalloc (hHeld) (by first | (rw [add_block]; exact V_ltb HO_0.out (by have h0_ := of_eq_true p132; have h1_ := of_eq_true q132; omega) (by decide)) | (show (Addr.add _ _).block < _; rw [add_block]; exact V_ltb HO_0.out (by have h0_ := of_eq_true p132; have h1_ := of_eq_true q132; omega) (by decide)) | exact V_ltb HO_0.out (by have h0_ := of_eq_true p132; have h1_ := of_eq_true q132; omega) (by decide))) (by first | (rw [add_block]; exact (fun e_ => by have ho_ := V_okb HO_0.out (by have h0_ := of_eq_true p132; have h1_ := of_eq_true q132; omega) (by decide); first | exact ho_.2 e_ | exact ho_.1.2 e_ | exact ho_.1.1.2 e_ | exact ho_.1.1.1.2 e_ | exact ho_.1.1.1.1.2 e_ | exact ho_.1.1.1.1.1.2 e_ | exact ho_.1.1.1.1.1.1.2 e_ | exact ho_.2.1 e_ | exact ho_.2.2 e_ | exact ho_.2.2.1 e_ | exact ho_.2.2.2 e_ | exact ho_.2.2.2.1 e_ | exact ho_.2.2.2.2 e_ | exact ho_.1.2.1 e_ | exact ho_.1.2.2 e_ | exact ho_.1.2.2.1 e_ | exact ho_.1.2.2.2 e_ | exact ho_.1.2.2.2.1 e_ | exact ho_.1.2.2.2.2 e_ | exact ho_.1.1.2.1 e_ | exact ho_.1.1.2.2 e_ | exact ho_.1.1.2.2.1 e_ | exact ho_.1.1.2.2.2 e_ | exact ho_.1.1.2.2.2.1 e_ | exact ho_.1.1.2.2.2.2 e_)) | (show some (Addr.add _ _).block ≠ _; rw [add_block]; exact (fun e_ => by have ho_ := V_okb HO_0.out (by have h0_ := of_eq_true p132; have h1_ := of_eq_true q132; omega) (by decide); first | exact ho_.2 e_ | exact ho_.1.2 e_ | exact ho_.1.1.2 e_ | exact ho_.1.1.1.2 e_ | exact ho_.1.1.1.1.2 e_ | exact ho_.1.1.1.1.1.2 e_ | exact ho_.1.1.1.1.1.1.2 e_ | exact ho_.2.1 e_ | exact ho_.2.2 e_ | exact ho_.2.2.1 e_ | exact ho_.2.2.2 e_ | exact ho_.2.2.2.1 e_ | exact ho_.2.2.2.2 e_ | exact ho_.1.2.1 e_ | exact ho_.1.2.2 e_ | exact ho_.1.2.2.1 e_ | exact ho_.1.2.2.2 e_ | exact ho_.1.2.2.2.1 e_ | exact ho_.1.2.2.2.2 e_ | exact ho_.1.1.2.1 e_ | exact ho_.1.1.2.2 e_ | exact ho_.1.1.2.2.1 e_ | exact ho_.1.1.2.2.2 e_ | exact ho_.1.1.2.2.2.1 e_ | exact ho_.1.1.2.2.2.2 e_)) | exact (fun e_ => by have ho_ := V_okb HO_0.out (by have h0_ := of_eq_true p132; have h1_ := of_eq_true q132; omega) (by decide); first | exact ho_.2 e_ | exact ho_.1.2 e_ | exact ho_.1.1.2 e_ | exact ho_.1.1.1.2 e_ | exact ho_.1.1.1.1.2 e_ | exact ho_.1.1.1.1.1.2 e_ | exact ho_.1.1.1.1.1.1.2 e_ | exact ho_.2.1 e_ | exact ho_.2.2 e_ | exact ho_.2.2.1 e_ | exact ho_.2.2.2 e_ | exact ho_.2.2.2.1 e_ | exact ho_.2.2.2.2 e_ | exact ho_.1.2.1 e_ | exact ho_.1.2.2 e_ | exact ho_.1.2.2.1 e_ | exact ho_.1.2.2.2 e_ | exact ho_.1.2.2.2.1 e_ | exact ho_.1.2.2.2.2 e_ | exact ho_.1.1.2.1 e_ | exact ho_.1.1.2.2 e_ | exact ho_.1.1.2.2.1 e_ | exact ho_.1.1.2.2.2 e_ | exact ho_.1.1.2.2.2.1 e_ | exact ho_.1.1.2.2.2.2 e_)))
                          rw [← Ny129.out] at ho
                          have n0_ := Aside0.mk (Kd.V_afterv (ok := (fun k_ => (P0_ k_ ∨ w.heap.size ≤ k_) ∧ some k_ ≠ (.slice Ao19 y123.length co19 : Value).ownBlock ∧ some k_ ≠ (v134 : Value).ownBlock ∧ some k_ ≠ (.slice Ao22 t126.length co22 : Value).ownBlock)) (by (with_reducible repeat (first | apply Kd.V_alloc | apply Kd.V_drewN | apply Kd.V_drew)); exact Kd.V_mono HO_0.out (fun _ hk => ⟨⟨hk.1.1.1.1, ⟨hk.1.1.2, ⟨hk.1.2, hk.2⟩⟩⟩, hk.1.1.1.2⟩)) hg hat)
                          have n1_ := Aside0.mk (Kd.R_over' (by (with_reducible repeat (first | apply Kd.R_alloc | apply Kd.R_drewN | apply Kd.R_drew)); exact HO125.out) (Kd.R_typed (by (with_reducible repeat (first | apply Kd.R_alloc | apply Kd.R_drewN | apply Kd.R_drew)); exact HO_2.out)) (by decide) hg)
                          have n2_ := Aside0.mk (Kd.R_after (ok := (fun k_ => (w.heap.size ≤ k_) ∧ some k_ ≠ (.slice Ao22 t126.length co22 : Value).ownBlock)) (by (with_reducible repeat (first | apply Kd.R_alloc | apply Kd.R_drewN | apply Kd.R_drew)); exact Kd.R_mono HO135.out (fun _ hk => ⟨⟨hk.1.1.1, hk.2⟩, hk.1.2⟩)) hg hat)
                          have n3_ := Aside0.mk (Kd.R_after (ok := (fun k_ => (w.heap.size ≤ k_) ∧ some k_ ≠ (v134 : Value).ownBlock)) (by (with_reducible repeat (first | apply Kd.R_alloc | apply Kd.R_drewN | apply Kd.R_drew)); exact Kd.R_mono HO128.out (fun _ hk => ⟨⟨hk.1.1.1, hk.2⟩, hk.1.2⟩)) hg hat)
                          have n4_ := Aside0.mk (hb)
                          have n5_ := Aside0.mk (ho)
                          clear HO_0
                          clear HO125
                          clear HO135
                          clear HO128
                          clear HB
                          clear HO_2
                          have HO_0 := n0_
                          have HO125 := n1_
                          have HO135 := n2_
                          have HO128 := n3_
                          have HB := n4_
                          have HO131 := n5_
                          clear n0_ n1_ n2_ n3_ n4_ n5_
                          clear ho hb hg hat
                          refine hK.out _ _ (HS0_) (fun hHeld => ?_)
                          clear hK K
                          refine norm_ (a' := ?_) ?_ ?_
                          rotate_left
                          · show Act.put _ (some 21) _ = _
                            simp only [Act.put, List.setIfInBounds_toArray, List.set_cons_zero, List.set_cons_succ, i64_w, i32_w]
                            rfl
                          exact norm_ (by simp only [putAll, Act.put, List.setIfInBounds_toArray, List.set_cons_zero, List.set_cons_succ]) (hCont (.slice Ao19 y123.length co19, .slice Ao22 t126.length co22, v130, v134) _ ⟨hHeld, (by (with_reducible repeat (first | apply Kd.R_alloc | apply Kd.R_drewN | apply Kd.R_drew)); exact Kd.R_mono HO125.out (fun _ hk => hk.1)), (by (with_reducible repeat (first | apply Kd.R_alloc | apply Kd.R_drewN | apply Kd.R_drew)); exact Kd.R_mono HO128.out (fun _ hk => ⟨hk.1.1, ⟨hk.2, hk.1.2⟩⟩)), (by (with_reducible repeat (first | apply Kd.R_alloc | apply Kd.R_drewN | apply Kd.R_drew)); exact Kd.R_mono HO131.out (fun _ hk => ⟨hk.1, ⟨hk.2.2, hk.2.1⟩⟩)), (by (with_reducible repeat (first | apply Kd.R_alloc | apply Kd.R_drewN | apply Kd.R_drew)); exact Kd.R_mono HO135.out (fun _ hk => ⟨hk.1.1, ⟨hk.1.2, hk.2⟩⟩)), (by (with_reducible repeat (first | apply Kd.V_alloc | apply Kd.V_drewN | apply Kd.V_drew)); exact Kd.V_mono HO_0.out (fun _ hk => ⟨hk.1.1, ⟨hk.1.2.1, ⟨hk.1.2.2.2, ⟨hk.2, hk.1.2.2.1⟩⟩⟩⟩)), (by repeat (first | (with_reducible first | exact HB.out | apply below_alloc | apply pw_below_drewN | apply below_drew1) | exact HB.out))⟩)
                      · skip
                        refine Kd.R_lit_step (Kd.int .u8) _ 5 ?hg (N := 25) ?hd (xs := ([rd x0_1 0] : List Int)) (inner := [.int .u8 (rd x0_1 0)]) (ok := fun _ => True) (okp := fun _ => True) ?hr ?hp (fun _ hk => hk) trivial (Below.refl _ _) (Nat.le_refl _) (by simp) ?_; (case hd => rfl); (case hg => rfl); (case hr => first | (go_simp; done) | (go_simp; rfl)); (case hp => exact (Reps.one (show Kd.M (Kd.int .u8) _ _ _ (rd x0_1 0) [.int .u8 (rd x0_1 0)] from rfl) (Reps.none _ _)))
                        intro v134 w15 ho16 hb hg_ hnew_
                        have HS0_ := (hb.cell (World.block_lt_of_cell? _ _ (hHeld))).trans (hHeld)
                        clear hg_ hnew_
                        (first | rw [← Ny133.out] at ho16 | (simp only [Int.reduceToNat] at ho16; rw [← Ny133.out] at ho16))
                        have n0_ := Aside0.mk (Kd.V_elder' (by (with_reducible repeat (first | apply Kd.V_alloc | apply Kd.V_drewN | apply Kd.V_drew)); exact HO_0.out) (Kd.R_base ho16) hb)
                        have n1_ := Aside0.mk (Kd.R_elder' (by (with_reducible repeat (first | apply Kd.R_alloc | apply Kd.R_drewN | apply Kd.R_drew)); exact HO_2.out) (Kd.R_base ho16) hb)
                        have n2_ := Aside0.mk (Kd.R_lower (Kd.R_new' (Kd.R_newM (M := fun k_ => (w.heap.size ≤ k_)) ho16 (below_size (by repeat (first | (with_reducible first | exact HB.out | apply below_alloc | apply pw_below_drewN | apply below_drew1) | exact HB.out))) (fun k_ h_ => h_)) (Kd.R_lt (by (with_reducible repeat (first | apply Kd.R_alloc | apply Kd.R_drewN | apply Kd.R_drew)); exact HO_2.out))) (below_size (by repeat (first | (with_reducible first | exact HB.out | apply below_alloc | apply pw_below_drewN | apply below_drew1) | exact HB.out))))
                        have n3_ := Aside0.mk (below_step (by repeat (first | (with_reducible first | exact HB.out | apply below_alloc | apply pw_below_drewN | apply below_drew1) | exact HB.out)) hb)
                        clear HO_0
                        clear HO_2
                        clear HB
                        have HO_0 := n0_
                        have HO_2 := n1_
                        have HO135 := n2_
                        have HB := n3_
                        clear n0_ n1_ n2_ n3_
                        clear hb ho16
                        refine hK.out _ _ (HS0_) (fun hHeld => ?_)
                        clear hK K
                        refine norm_ (a' := ?_) ?_ ?_
                        rotate_left
                        · show Act.put _ (some 25) _ = _
                          simp only [Act.put, List.setIfInBounds_toArray, List.set_cons_zero, List.set_cons_succ, i64_w, i32_w]
                          rfl
                        refine one_ (i := 6) (N := some 19) #[true, true, true, true, true, true, true, false, false, true, true, true, true, false, false] rfl rfl (one_of HT_.out (by kernel_rfl)) (by decide) (fun K hK => ?_)
                        refine Kd.R_lit_step (Kd.int .u64) _ 29 ?hg (N := 19) ?hd (xs := ([Go.bits .or .u64 (IntKind.u64.wrap ((IntKind.u64.wrap (wrap64 (t122 - 3))) * 2)) 1] : List Int)) (inner := [.int .u64 (Go.bits .or .u64 (IntKind.u64.wrap ((IntKind.u64.wrap (wrap64 (t122 - 3))) * 2)) 1)]) (ok := fun _ => True) (okp := fun _ => True) ?hr ?hp (fun _ hk => hk) trivial (Below.refl _ _) (Nat.le_refl _) (by simp) ?_; (case hd => rfl); (case hg => rfl); (case hr => first | (go_simp; done) | (go_simp; rfl)); (case hp => exact (Reps.one (show Kd.M (Kd.int .u64) _ _ _ (Go.bits .or .u64 (IntKind.u64.wrap ((IntKind.u64.wrap (wrap64 (t122 - 3))) * 2)) 1) [.int .u64 (Go.bits .or .u64 (IntKind.u64.wrap ((IntKind.u64.wrap (wrap64 (t122 - 3))) * 2)) 1)] from rfl) (Reps.none _ _)))
                        intro v124 w17 ho18 hb hg_ hnew_
                        have HS0_ := (hb.cell (World.block_lt_of_cell? _ _ (hHeld))).trans (hHeld)
                        clear hg_ hnew_
                        (first | rw [← Ny123.out] at ho18 | (simp only [Int.reduceToNat] at ho18; rw [← Ny123.out] at ho18))
                        have n0_ := Aside0.mk (Kd.V_elder' (by (with_reducible repeat (first | apply Kd.V_alloc | apply Kd.V_drewN | apply Kd.V_drew)); exact HO_0.out) (Kd.R_base ho18) hb)
                        have n1_ := Aside0.mk (Kd.R_below (by (with_reducible repeat (first | apply Kd.R_alloc | apply Kd.R_drewN | apply Kd.R_drew)); exact HO_2.out) hb)
                        have n2_ := Aside0.mk (Kd.R_below (by (with_reducible repeat (first | apply Kd.R_alloc | apply Kd.R_drewN | apply Kd.R_drew)); exact HO135.out) hb)
                        have n3_ := Aside0.mk (Kd.R_lower (Kd.R_newM (M := fun k_ => (w.heap.size ≤ k_)) ho18 (below_size (by repeat (first | (with_reducible first | exact HB.out | apply below_alloc | apply pw_below_drewN | apply below_drew1) | exact HB.out))) (fun k_ h_ => h_)) (below_size (by repeat (first | (with_reducible first | exact HB.out | apply below_alloc | apply pw_below_drewN | apply below_drew1) | exact HB.out))))
                        have n4_ := Aside0.mk (below_step (by repeat (first | (with_reducible first | exact HB.out | apply below_alloc | apply pw_below_drewN | apply below_drew1) | exact HB.out)) hb)
                        clear HO_0
                        clear HO_2
                        clear HO135
                        clear HB
                        have HO_0 := n0_
                        have HO_2 := n1_
                        have HO135 := n2_
                        have HO125 := n3_
                        have HB := n4_
                        clear n0_ n1_ n2_ n3_ n4_
                        clear hb ho18
                        obtain ⟨Ao19, co19, eo19⟩ := Kd.R_slice HO125.out
                        (first | subst eo19 | (injection eo19 with f1_ f2_ f3_; have f4_ := f1_.symm; have f5_ := f3_.symm; clear f1_ f2_ f3_; subst f4_; subst f5_))
                        refine hK.out _ _ (HS0_) (fun hHeld => ?_)
                        clear hK K
                        refine norm_ (a' := ?_) ?_ ?_
                        rotate_left
                        · show Act.put _ (some 19) _ = _
                          simp only [Act.put, List.setIfInBounds_toArray, List.set_cons_zero, List.set_cons_succ, i64_w, i32_w]
                          rfl
                        refine one_ (i := 7) (N := some 20) #[true, true, true, true, true, true, true, true, false, true, true, true, true, false, false] rfl rfl (one_of HT_.out (by kernel_rfl)) (by decide) (fun K hK => ?_)
                        refine goes_ Try.func14 (by kernel_rfl) rfl #[.slice none 0 0, .slice Ao19 y123.length co19] (by rfl) rfl rfl (by (try simp only [List.map_toArray, List.map_cons, List.map_nil]); first | done | rfl | (simp only [List.length_drop, List.length_take]; rfl)) ?_
                        refine (varint_Put.calls k1 _ _ ([] : List Int) _ _ y123 t126 _ ?side1 ?side2 ?side3 ?side4 A6.out).mono ?_
                        (case side1 => exact Kd.C_nil _ _)
                        (case side2 => exact Nat.le_refl _)
                        (case side3 => repeat (first | exact (Kd.R_reads' HO125.out).2.2 | (with_reducible refine Kd.C_alloc ?_ _) | (with_reducible refine Kd.C_drewN ?_ _) | (with_reducible refine Kd.C_drew ?_)))
                        (case side4 => exact (Kd.R_reads' HO125.out).2.1)
                        rintro e w20 ⟨v127, rfl, ho0, hb⟩
                        have HS0_ := (hb.cell (World.block_lt_of_cell? _ _ (hHeld))).trans (hHeld)
                        refine ⟨_, rfl, ?_⟩
                        have n0_ := Aside0.mk (Kd.V_elder' (by (with_reducible repeat (first | apply Kd.V_alloc | apply Kd.V_drewN | apply Kd.V_drew)); exact HO_0.out) (Kd.R_base ho0) hb)
                        have n1_ := Aside0.mk (Kd.R_elder' (by (with_reducible repeat (first | apply Kd.R_alloc | apply Kd.R_drewN | apply Kd.R_drew)); exact HO_2.out) (Kd.R_base ho0) hb)
                        have n2_ := Aside0.mk (Kd.R_elder' (by (with_reducible repeat (first | apply Kd.R_alloc | apply Kd.R_drewN | apply Kd.R_drew)); exact HO135.out) (Kd.R_base ho0) hb)
                        have n3_ := Aside0.mk (Kd.R_below (by (with_reducible repeat (first | apply Kd.R_alloc | apply Kd.R_drewN | apply Kd.R_drew)); exact HO125.out) hb)
                        have n4_ := Aside0.mk (Kd.R_lower (Kd.R_new' (Kd.R_new' (Kd.R_newM (M := fun k_ => (w.heap.size ≤ k_)) ho0 (below_size (by repeat (first | (with_reducible first | exact HB.out | apply below_alloc | apply pw_below_drewN | apply below_drew1) | exact HB.out))) (fun k_ h_ => h_)) (Kd.R_lt (by (with_reducible repeat (first | apply Kd.R_alloc | apply Kd.R_drewN | apply Kd.R_drew)); exact HO_2.out))) (Kd.R_lt (by (with_reducible repeat (first | apply Kd.R_alloc | apply Kd.R_drewN | apply Kd.R_drew)); exact HO135.out))) (below_size (by repeat (first | (with_reducible first | exact HB.out | apply below_alloc | apply pw_below_drewN | apply below_drew1) | exact HB.out))))
                        have n5_ := Aside0.mk (below_step (by repeat (first | (with_reducible first | exact HB.out | apply below_alloc | apply pw_below_drewN | apply below_drew1) | exact HB.out)) hb)
                        clear HO_0
                        clear HO_2
                        clear HO135
                        clear HO125
                        clear HB
                        have HO_0 := n0_
                        have HO_2 := n1_
                        have HO135 := n2_
                        have HO125 := n3_
                        have HO128 := n4_
                        have HB := n5_
                        clear n0_ n1_ n2_ n3_ n4_ n5_
                        (try clear hb)
                        (try clear hb2)
                        (try clear hk)
                        (try clear hi)
                        (try clear ho0)
                        obtain ⟨Ao22, co22, eo22⟩ := Kd.R_slice HO128.out
                        (first | subst eo22 | (injection eo22 with f1_ f2_ f3_; have f4_ := f1_.symm; have f5_ := f3_.symm; clear f1_ f2_ f3_; subst f4_; subst f5_))
                        refine hK.out _ _ (HS0_) (fun hHeld => ?_)
                        clear hK K
                        refine norm_ (a' := ?_) ?_ ?_
                        rotate_left
                        · show Act.put _ (some 20) _ = _
                          simp only [Act.put, List.setIfInBounds_toArray, List.set_cons_zero, List.set_cons_succ, i64_w, i32_w]
                          rfl
                        refine one_ (i := 8) (N := some 21) #[true, true, true, true, true, true, true, true, true, true, true, true, true, false, false] rfl rfl (one_of HT_.out (by kernel_rfl)) (by decide) (fun K hK => ?_)
                        refine Kd.R_append_rows_step (Kd.int .u8) (w0 := w) w.heap.size (by rfl) (.tmp 13) (.tmp 20) 22 5 (.int .u8 0) 1 rfl Try.underlying22 info5 rfl (by decide) (by omega) (.slice Ao13 x2_1.length co13) x2_1 t126 _ _ _ (fun k_ => (w.heap.size ≤ k_) ∧ some k_ ≠ (v134 : Value).ownBlock ∧ some k_ ≠ (.slice Ao22 t126.length co22 : Value).ownBlock) (fun _ => False) rfl rfl ?aO ?aR (fun _ _ h => h) (fun _ h => h.elim) ?aF ?aB ?aS ?aL ?_
                        (case aR => repeat (first | exact (Kd.R_reads' HO128.out).2.2 | (with_reducible refine Kd.C_alloc ?_ _) | (with_reducible refine Kd.C_drewN ?_ _) | (with_reducible refine Kd.C_drew ?_)))
                        (case aB => exact (by repeat (first | (with_reducible first | exact HB.out | apply below_alloc | apply pw_below_drewN | apply below_drew1) | exact HB.out)))
                        (case aF => exact (fun k_ hk => ⟨(Nat.le_trans (below_size (by repeat (first | (with_reducible first | exact HB.out | apply below_alloc | apply pw_below_drewN | apply below_drew1) | exact HB.out))) hk), Kd.fresh' (Kd.R_lt (by (with_reducible repeat (first | apply Kd.R_alloc | apply Kd.R_drewN | apply Kd.R_drew)); exact HO135.out)) k_ hk, Kd.fresh' (Kd.R_lt (by (with_reducible repeat (first | apply Kd.R_alloc | apply Kd.R_drewN | apply Kd.R_drew)); exact HO128.out)) k_ hk⟩))
                        (case aO => exact (by (with_reducible repeat (first | apply Kd.R_alloc | apply Kd.R_drewN | apply Kd.R_drew)); exact Kd.R_mono HO_2.out (fun _ hk => ⟨hk.1.1, ⟨hk.1.2, hk.2⟩⟩)))
                        (case aS => exact (below_size (by repeat (first | (with_reducible first | exact HB.out | apply below_alloc | apply pw_below_drewN | apply below_drew1) | exact HB.out))))
                        (case aL => have := LMc7.out; omega)
                        intro v130 w21 ho hb hg hat
                        (first | have HS0_ := cell_grown hg (hHeld) (by first | (rw [add_block]; exact (fun e_ => by have ho_ := V_okb HO_0.out (by have h0_ := of_eq_true p132; have h1_ := of_eq_true q132; omega) (by decide); first | exact ho_.2 e_ | exact ho_.1.2 e_ | exact ho_.1.1.2 e_ | exact ho_.1.1.1.2 e_ | exact ho_.1.1.1.1.2 e_ | exact ho_.1.1.1.1.1.2 e_ | exact ho_.1.1.1.1.1.1.2 e_ | exact ho_.2.1 e_ | exact ho_.2.2 e_ | exact ho_.2.2.1 e_ | exact ho_.2.2.2 e_ | exact ho_.2.2.2.1 e_ | exact ho_.2.2.2.2 e_ | exact ho_.1.2.1 e_ | exact ho_.1.2.2 e_ | exact ho_.1.2.2.1 e_ | exact ho_.1.2.2.2 e_ | exact ho_.1.2.2.2.1 e_ | exact ho_.1.2.2.2.2 e_ | exact ho_.1.1.2.1 e_ | exact ho_.1.1.2.2 e_ | exact ho_.1.1.2.2.1 e_ | exact ho_.1.1.2.2.2 e_ | exact ho_.1.1.2.2.2.1 e_ | exact ho_.1.1.2.2.2.2 e_)) | (show some (Addr.add _ _).block ≠ _; rw [add_block]; exact (fun e_ => by have ho_ := V_okb HO_0.out (by have h0_ := of_eq_true p132; have h1_ := of_eq_true q132; omega) (by decide); first | exact ho_.2 e_ | exact ho_.1.2 e_ | exact ho_.1.1.2 e_ | exact ho_.1.1.1.2 e_ | exact ho_.1.1.1.1.2 e_ | exact ho_.1.1.1.1.1.2 e_ | exact ho_.1.1.1.1.1.1.2 e_ | exact ho_.2.1 e_ | exact ho_.2.2 e_ | exact ho_.2.2.1 e_ | exact ho_.2.2.2 e_ | exact ho_.2.2.2.1 e_ | exact ho_.2.2.2.2 e_ | exact ho_.1.2.1 e_ | exact ho_.1.2.2 e_ | exact ho_.1.2.2.1 e_ | exact ho_.1.2.2.2 e_ | exact ho_.1.2.2.2.1 e_ | exact ho_.1.2.2.2.2 e_ | exact ho_.1.1.2.1 e_ | exact ho_.1.1.2.2 e_ | exact ho_.1.1.2.2.1 e_ | exact ho_.1.1.2.2.2 e_ | exact ho_.1.1.2.2.2.1 e_ | exact ho_.1.1.2.2.2.2 e_)) | exact (fun e_ => by have ho_ := V_okb HO_0.out (by have h0_ := of_eq_true p132; have h1_ := of_eq_true q132; omega) (by decide); first | exact ho_.2 e_ | exact ho_.1.2 e_ | exact ho_.1.1.2 e_ | exact ho_.1.1.1.2 e_ | exact ho_.1.1.1.1.2 e_ | exact ho_.1.1.1.1.1.2 e_ | exact ho_.1.1.1.1.1.1.2 e_ | exact ho_.2.1 e_ | exact ho_.2.2 e_ | exact ho_.2.2.1 e_ | exact ho_.2.2.2 e_ | exact ho_.2.2.2.1 e_ | exact ho_.2.2.2.2 e_ | exact ho_.1.2.1 e_ | exact ho_.1.2.2 e_ | exact ho_.1.2.2.1 e_ | exact ho_.1.2.2.2 e_ | exact ho_.1.2.2.2.1 e_ | exact ho_.1.2.2.2.2 e_ | exact ho_.1.1.2.1 e_ | exact ho_.1.1.2.2 e_ | exact ho_.1.1.2.2.1 e_ | exact ho_.1.1.2.2.2 e_ | exact ho_.1.1.2.2.2.1 e_ | exact ho_.1.1.2.2.2.2 e_)) | have HS0_ := cell_grown hg (cell_unalloc (hHeld) (by first | (rw [add_block]; exact V_ltb HO_0.out (by have h0_ := of_eq_true p132; have h1_ := of_eq_true q132; omega) (by decide)) | (show (Addr.add _ _).block < _; rw [add_block]; exact V_ltb HO_0.out (by have h0_ := of_eq_true p132; have h1_ := of_eq_true q132; omega) (by decide)) | exact V_ltb HO_0.out (by have h0_ := of_eq_true p132; have h1_ := of_eq_true q132; omega) (by decide))) (by first | (rw [add_block]; exact (fun e_ => by have ho_ := V_okb HO_0.out (by have h0_ := of_eq_true p132; have h1_ := of_eq_true q132; omega) (by decide); first | exact ho_.2 e_ | exact ho_.1.2 e_ | exact ho_.1.1.2 e_ | exact ho_.1.1.1.2 e_ | exact ho_.1.1.1.1.2 e_ | exact ho_.1.1.1.1.1.2 e_ | exact ho_.1.1.1.1.1.1.2 e_ | exact ho_.2.1 e_ | exact ho_.2.2 e_ | exact ho_.2.2.1 e_ | exact ho_.2.2.2 e_ | exact ho_.2.2.2.1 e_ | exact ho_.2.2.2.2 e_ | exact ho_.1.2.1 e_ | exact ho_.1.2.2 e_ | exact ho_.1.2.2.1 e_ | exact ho_.1.2.2.2 e_ | exact ho_.1.2.2.2.1 e_ | exact ho_.1.2.2.2.2 e_ | exact ho_.1.1.2.1 e_ | exact ho_.1.1.2.2 e_ | exact ho_.1.1.2.2.1 e_ | exact ho_.1.1.2.2.2 e_ | exact ho_.1.1.2.2.2.1 e_ | exact ho_.1.1.2.2.2.2 e_)) | (show some (Addr.add _ _).block ≠ _; rw [add_block]; exact (fun e_ => by have ho_ := V_okb HO_0.out (by have h0_ := of_eq_true p132; have h1_ := of_eq_true q132; omega) (by decide); first | exact ho_.2 e_ | exact ho_.1.2 e_ | exact ho_.1.1.2 e_ | exact ho_.1.1.1.2 e_ | exact ho_.1.1.1.1.2 e_ | exact ho_.1.1.1.1.1.2 e_ | exact ho_.1.1.1.1.1.1.2 e_ | exact ho_.2.1 e_ | exact ho_.2.2 e_ | exact ho_.2.2.1 e_ | exact ho_.2.2.2 e_ | exact ho_.2.2.2.1 e_ | exact ho_.2.2.2.2 e_ | exact ho_.1.2.1 e_ | exact ho_.1.2.2 e_ | exact ho_.1.2.2.1 e_ | exact ho_.1.2.2.2 e_ | exact ho_.1.2.2.2.1 e_ | exact ho_.1.2.2.2.2 e_ | exact ho_.1.1.2.1 e_ | exact ho_.1.1.2.2 e_ | exact ho_.1.1.2.2.1 e_ | exact ho_.1.1.2.2.2 e_ | exact ho_.1.1.2.2.2.1 e_ | exact ho_.1.1.2.2.2.2 e_)) | exact (fun e_ => by have ho_ := V_okb HO_0.out (by have h0_ := of_eq_true p132; have h1_ := of_eq_true q132; omega) (by decide); first | exact ho_.2 e_ | exact ho_.1.2 e_ | exact ho_.1.1.2 e_ | exact ho_.1.1.1.2 e_ | exact ho_.1.1.1.1.2 e_ | exact ho_.1.1.1.1.1.2 e_ | exact ho_.1.1.1.1.1.1.2 e_ | exact ho_.2.1 e_ | exact ho_.2.2 e_ | exact ho_.2.2.1 e_ | exact ho_.2.2.2 e_ | exact ho_.2.2.2.1 e_ | exact ho_.2.2.2.2 e_ | exact ho_.1.2.1 e_ | exact ho_.1.2.2 e_ | exact ho_.1.2.2.1 e_ | exact ho_.1.2.2.2 e_ | exact ho_.1.2.2.2.1 e_ | exact ho_.1.2.2.2.2 e_ | exact ho_.1.1.2.1 e_ | exact ho_.1.1.2.2 e_ | exact ho_.1.1.2.2.1 e_ | exact ho_.1.1.2.2.2 e_ | exact ho_.1.1.2.2.2.1 e_ | exact ho_.1.1.2.2.2.2 e_)))
                        rw [← Ny129.out] at ho
                        have n0_ := Aside0.mk (Kd.V_afterv (ok := (fun k_ => (P0_ k_ ∨ w.heap.size ≤ k_) ∧ some k_ ≠ (v134 : Value).ownBlock ∧ some k_ ≠ (.slice Ao19 y123.length co19 : Value).ownBlock ∧ some k_ ≠ (.slice Ao22 t126.length co22 : Value).ownBlock)) (by (with_reducible repeat (first | apply Kd.V_alloc | apply Kd.V_drewN | apply Kd.V_drew)); exact Kd.V_mono HO_0.out (fun _ hk => ⟨⟨hk.1.1.1.1, ⟨hk.1.1.2, ⟨hk.1.2, hk.2⟩⟩⟩, hk.1.1.1.2⟩)) hg hat)
                        have n1_ := Aside0.mk (Kd.R_after (ok := (fun k_ => (w.heap.size ≤ k_) ∧ some k_ ≠ (.slice Ao22 t126.length co22 : Value).ownBlock)) (by (with_reducible repeat (first | apply Kd.R_alloc | apply Kd.R_drewN | apply Kd.R_drew)); exact Kd.R_mono HO135.out (fun _ hk => ⟨⟨hk.1.1.1, hk.2⟩, hk.1.2⟩)) hg hat)
                        have n2_ := Aside0.mk (Kd.R_over' (by (with_reducible repeat (first | apply Kd.R_alloc | apply Kd.R_drewN | apply Kd.R_drew)); exact HO125.out) (Kd.R_typed (by (with_reducible repeat (first | apply Kd.R_alloc | apply Kd.R_drewN | apply Kd.R_drew)); exact HO_2.out)) (by decide) hg)
                        have n3_ := Aside0.mk (Kd.R_after (ok := (fun k_ => (w.heap.size ≤ k_) ∧ some k_ ≠ (v134 : Value).ownBlock)) (by (with_reducible repeat (first | apply Kd.R_alloc | apply Kd.R_drewN | apply Kd.R_drew)); exact Kd.R_mono HO128.out (fun _ hk => ⟨⟨hk.1.1.1, hk.2⟩, hk.1.2⟩)) hg hat)
                        have n4_ := Aside0.mk (hb)
                        have n5_ := Aside0.mk (ho)
                        clear HO_0
                        clear HO135
                        clear HO125
                        clear HO128
                        clear HB
                        clear HO_2
                        have HO_0 := n0_
                        have HO135 := n1_
                        have HO125 := n2_
                        have HO128 := n3_
                        have HB := n4_
                        have HO131 := n5_
                        clear n0_ n1_ n2_ n3_ n4_ n5_
                        clear ho hb hg hat
                        refine hK.out _ _ (HS0_) (fun hHeld => ?_)
                        clear hK K
                        refine norm_ (a' := ?_) ?_ ?_
                        rotate_left
                        · show Act.put _ (some 21) _ = _
                          simp only [Act.put, List.setIfInBounds_toArray, List.set_cons_zero, List.set_cons_succ, i64_w, i32_w]
                          rfl
                        exact norm_ (by simp only [putAll, Act.put, List.setIfInBounds_toArray, List.set_cons_zero, List.set_cons_succ]) (hCont (.slice Ao19 y123.length co19, .slice Ao22 t126.length co22, v130, v134) _ ⟨hHeld, (by (with_reducible repeat (first | apply Kd.R_alloc | apply Kd.R_drewN | apply Kd.R_drew)); exact Kd.R_mono HO125.out (fun _ hk => hk.1)), (by (with_reducible repeat (first | apply Kd.R_alloc | apply Kd.R_drewN | apply Kd.R_drew)); exact Kd.R_mono HO128.out (fun _ hk => ⟨hk.1.1, ⟨hk.2, hk.1.2⟩⟩)), (by (with_reducible repeat (first | apply Kd.R_alloc | apply Kd.R_drewN | apply Kd.R_drew)); exact Kd.R_mono HO131.out (fun _ hk => ⟨hk.1, ⟨hk.2.2, hk.2.1⟩⟩)), (by (with_reducible repeat (first | apply Kd.R_alloc | apply Kd.R_drewN | apply Kd.R_drew)); exact Kd.R_mono HO135.out (fun _ hk => ⟨hk.1.1, ⟨hk.1.2, hk.2⟩⟩)), (by (with_reducible repeat (first | apply Kd.V_alloc | apply Kd.V_drewN | apply Kd.V_drew)); exact Kd.V_mono HO_0.out (fun _ hk => ⟨hk.1.1, ⟨hk.1.2.2.1, ⟨hk.1.2.2.2, ⟨hk.2, hk.1.2.1⟩⟩⟩⟩)), (by repeat (first | (with_reducible first | exact HB.out | apply below_alloc | apply pw_below_drewN | apply below_drew1) | exact HB.out))⟩)
                    rintro ⟨v124, v127, v130, v134⟩ w23 ⟨hS_, h0_, h1_, h2_, h3_, h4_, h5_⟩
                    have n0_ : Aside0 (Kd.R (Kd.int .u64) 29 w23 w.heap.size (fun k_ => (w.heap.size ≤ k_)) v124 y123) := ⟨h0_⟩
                    have n1_ : Aside0 (Kd.R (Kd.int .u8) 5 w23 w.heap.size (fun k_ => (w.heap.size ≤ k_) ∧ some k_ ≠ (v130 : Value).ownBlock ∧ some k_ ≠ (v134 : Value).ownBlock) v127 t126) := ⟨h1_⟩
                    have n2_ : Aside0 (Kd.R (Kd.int .u8) 5 w23 w.heap.size (fun k_ => (w.heap.size ≤ k_) ∧ some k_ ≠ (v127 : Value).ownBlock ∧ some k_ ≠ (v134 : Value).ownBlock) v130 y129) := ⟨h2_⟩
                    have n3_ : Aside0 (Kd.R (Kd.int .u8) 5 w23 w.heap.size (fun k_ => (w.heap.size ≤ k_) ∧ some k_ ≠ (v127 : Value).ownBlock ∧ some k_ ≠ (v130 : Value).ownBlock) v134 y133) := ⟨h3_⟩
                    have n4_ : Aside0 (Kd.V (Kd.int .u8) 5 w23 w.heap.size (fun k_ => (P0_ k_ ∨ w.heap.size ≤ k_) ∧ some k_ ≠ (v124 : Value).ownBlock ∧ some k_ ≠ (v127 : Value).ownBlock ∧ some k_ ≠ (v130 : Value).ownBlock ∧ some k_ ≠ (v134 : Value).ownBlock) (.slice (some ad132) x0_1.length co12) x0_1) := ⟨h4_⟩
                    have n5_ : Aside0 (Below w.heap.size w w23) := ⟨h5_⟩
                    clear HO_0
                    clear HO_2
                    clear HB
                    clear h0_ h1_ h2_ h3_ h4_ h5_
                    have HO125 := n0_
                    have HO128 := n1_
                    have HO131 := n2_
                    have HO135 := n3_
                    have HO_0 := n4_
                    have HB := n5_
                    clear n0_ n1_ n2_ n3_ n4_ n5_
                    have hHeld : w23.cell? ad132 = some (.int .u8 (rd x0_1 0)) := hS_
                    obtain ⟨Ao25, co25, eo25⟩ := Kd.R_slice HO135.out
                    (first | subst eo25 | (injection eo25 with f1_ f2_ f3_; have f4_ := f1_.symm; have f5_ := f3_.symm; clear f1_ f2_ f3_; subst f4_; subst f5_))
                    refine norm_ (a' := ?_) ?_ ?_
                    rotate_left
                    · simp only [putAll, Act.put, List.setIfInBounds_toArray, List.set_cons_zero, List.set_cons_succ]
                      rfl
                    refine one_ (i := 13) (N := some 26) #[true, true, true, true, true, true, true, true, true, true, true, true, true, true, false] rfl rfl (one_of HT_.out (by kernel_rfl)) (by decide) (fun K hK => ?_)
                    refine Kd.R_append_rows_step (Kd.int .u8) (w0 := w) w.heap.size (by rfl) (.tmp 21) (.tmp 25) 22 5 (.int .u8 0) 1 rfl Try.underlying22 info5 rfl (by decide) (by omega) v130 y129 y133 _ _ _ (fun k_ => (w.heap.size ≤ k_) ∧ some k_ ≠ (v127 : Value).ownBlock ∧ some k_ ≠ (.slice Ao25 y133.length co25 : Value).ownBlock) (fun _ => False) rfl rfl ?aO ?aR (fun _ _ h => h) (fun _ h => h.elim) ?aF ?aB ?aS ?aL ?_
                    (case aR => repeat (first | exact (Kd.R_reads' HO135.out).2.2 | (with_reducible refine Kd.C_alloc ?_ _) | (with_reducible refine Kd.C_drewN ?_ _) | (with_reducible refine Kd.C_drew ?_)))
                    (case aB => exact (by repeat (first | (with_reducible first | exact HB.out | apply below_alloc | apply pw_below_drewN | apply below_drew1) | exact HB.out)))
                    (case aF => exact (fun k_ hk => ⟨(Nat.le_trans (below_size (by repeat (first | (with_reducible first | exact HB.out | apply below_alloc | apply pw_below_drewN | apply below_drew1) | exact HB.out))) hk), Kd.fresh' (Kd.R_lt (by (with_reducible repeat (first | apply Kd.R_alloc | apply Kd.R_drewN | apply Kd.R_drew)); exact HO128.out)) k_ hk, Kd.fresh' (Kd.R_lt (by (with_reducible repeat (first | apply Kd.R_alloc | apply Kd.R_drewN | apply Kd.R_drew)); exact HO135.out)) k_ hk⟩))
                    (case aO => exact (by (with_reducible repeat (first | apply Kd.R_alloc | apply Kd.R_drewN | apply Kd.R_drew)); exact HO131.out))
                    (case aS => exact (below_size (by repeat (first | (with_reducible first | exact HB.out | apply below_alloc | apply pw_below_drewN | apply below_drew1) | exact HB.out))))
                    (case aL => have := LMc9.out; omega)
                    intro v137 w24 ho hb hg hat
                    (first | have HS0_ := cell_grown hg (hHeld) (by first | (rw [add_block]; exact (fun e_ => by have ho_ := V_okb HO_0.out (by have h0_ := of_eq_true p132; have h1_ := of_eq_true q132; omega) (by decide); first | exact ho_.2 e_ | exact ho_.1.2 e_ | exact ho_.1.1.2 e_ | exact ho_.1.1.1.2 e_ | exact ho_.1.1.1.1.2 e_ | exact ho_.1.1.1.1.1.2 e_ | exact ho_.1.1.1.1.1.1.2 e_ | exact ho_.2.1 e_ | exact ho_.2.2 e_ | exact ho_.2.2.1 e_ | exact ho_.2.2.2 e_ | exact ho_.2.2.2.1 e_ | exact ho_.2.2.2.2 e_ | exact ho_.1.2.1 e_ | exact ho_.1.2.2 e_ | exact ho_.1.2.2.1 e_ | exact ho_.1.2.2.2 e_ | exact ho_.1.2.2.2.1 e_ | exact ho_.1.2.2.2.2 e_ | exact ho_.1.1.2.1 e_ | exact ho_.1.1.2.2 e_ | exact ho_.1.1.2.2.1 e_ | exact ho_.1.1.2.2.2 e_ | exact ho_.1.1.2.2.2.1 e_ | exact ho_.1.1.2.2.2.2 e_)) | (show some (Addr.add _ _).block ≠ _; rw [add_block]; exact (fun e_ => by have ho_ := V_okb HO_0.out (by have h0_ := of_eq_true p132; have h1_ := of_eq_true q132; omega) (by decide); first | exact ho_.2 e_ | exact ho_.1.2 e_ | exact ho_.1.1.2 e_ | exact ho_.1.1.1.2 e_ | exact ho_.1.1.1.1.2 e_ | exact ho_.1.1.1.1.1.2 e_ | exact ho_.1.1.1.1.1.1.2 e_ | exact ho_.2.1 e_ | exact ho_.2.2 e_ | exact ho_.2.2.1 e_ | exact ho_.2.2.2 e_ | exact ho_.2.2.2.1 e_ | exact ho_.2.2.2.2 e_ | exact ho_.1.2.1 e_ | exact ho_.1.2.2 e_ | exact ho_.1.2.2.1 e_ | exact ho_.1.2.2.2 e_ | exact ho_.1.2.2.2.1 e_ | exact ho_.1.2.2.2.2 e_ | exact ho_.1.1.2.1 e_ | exact ho_.1.1.2.2 e_ | exact ho_.1.1.2.2.1 e_ | exact ho_.1.1.2.2.2 e_ | exact ho_.1.1.2.2.2.1 e_ | exact ho_.1.1.2.2.2.2 e_)) | exact (fun e_ => by have ho_ := V_okb HO_0.out (by have h0_ := of_eq_true p132; have h1_ := of_eq_true q132; omega) (by decide); first | exact ho_.2 e_ | exact ho_.1.2 e_ | exact ho_.1.1.2 e_ | exact ho_.1.1.1.2 e_ | exact ho_.1.1.1.1.2 e_ | exact ho_.1.1.1.1.1.2 e_ | exact ho_.1.1.1.1.1.1.2 e_ | exact ho_.2.1 e_ | exact ho_.2.2 e_ | exact ho_.2.2.1 e_ | exact ho_.2.2.2 e_ | exact ho_.2.2.2.1 e_ | exact ho_.2.2.2.2 e_ | exact ho_.1.2.1 e_ | exact ho_.1.2.2 e_ | exact ho_.1.2.2.1 e_ | exact ho_.1.2.2.2 e_ | exact ho_.1.2.2.2.1 e_ | exact ho_.1.2.2.2.2 e_ | exact ho_.1.1.2.1 e_ | exact ho_.1.1.2.2 e_ | exact ho_.1.1.2.2.1 e_ | exact ho_.1.1.2.2.2 e_ | exact ho_.1.1.2.2.2.1 e_ | exact ho_.1.1.2.2.2.2 e_)) | have HS0_ := cell_grown hg (cell_unalloc (hHeld) (by first | (rw [add_block]; exact V_ltb HO_0.out (by have h0_ := of_eq_true p132; have h1_ := of_eq_true q132; omega) (by decide)) | (show (Addr.add _ _).block < _; rw [add_block]; exact V_ltb HO_0.out (by have h0_ := of_eq_true p132; have h1_ := of_eq_true q132; omega) (by decide)) | exact V_ltb HO_0.out (by have h0_ := of_eq_true p132; have h1_ := of_eq_true q132; omega) (by decide))) (by first | (rw [add_block]; exact (fun e_ => by have ho_ := V_okb HO_0.out (by have h0_ := of_eq_true p132; have h1_ := of_eq_true q132; omega) (by decide); first | exact ho_.2 e_ | exact ho_.1.2 e_ | exact ho_.1.1.2 e_ | exact ho_.1.1.1.2 e_ | exact ho_.1.1.1.1.2 e_ | exact ho_.1.1.1.1.1.2 e_ | exact ho_.1.1.1.1.1.1.2 e_ | exact ho_.2.1 e_ | exact ho_.2.2 e_ | exact ho_.2.2.1 e_ | exact ho_.2.2.2 e_ | exact ho_.2.2.2.1 e_ | exact ho_.2.2.2.2 e_ | exact ho_.1.2.1 e_ | exact ho_.1.2.2 e_ | exact ho_.1.2.2.1 e_ | exact ho_.1.2.2.2 e_ | exact ho_.1.2.2.2.1 e_ | exact ho_.1.2.2.2.2 e_ | exact ho_.1.1.2.1 e_ | exact ho_.1.1.2.2 e_ | exact ho_.1.1.2.2.1 e_ | exact ho_.1.1.2.2.2 e_ | exact ho_.1.1.2.2.2.1 e_ | exact ho_.1.1.2.2.2.2 e_)) | (show some (Addr.add _ _).block ≠ _; rw [add_block]; exact (fun e_ => by have ho_ := V_okb HO_0.out (by have h0_ := of_eq_true p132; have h1_ := of_eq_true q132; omega) (by decide); first | exact ho_.2 e_ | exact ho_.1.2 e_ | exact ho_.1.1.2 e_ | exact ho_.1.1.1.2 e_ | exact ho_.1.1.1.1.2 e_ | exact ho_.1.1.1.1.1.2 e_ | exact ho_.1.1.1.1.1.1.2 e_ | exact ho_.2.1 e_ | exact ho_.2.2 e_ | exact ho_.2.2.1 e_ | exact ho_.2.2.2 e_ | exact ho_.2.2.2.1 e_ | exact ho_.2.2.2.2 e_ | exact ho_.1.2.1 e_ | exact ho_.1.2.2 e_ | exact ho_.1.2.2.1 e_ | exact ho_.1.2.2.2 e_ | exact ho_.1.2.2.2.1 e_ | exact ho_.1.2.2.2.2 e_ | exact ho_.1.1.2.1 e_ | exact ho_.1.1.2.2 e_ | exact ho_.1.1.2.2.1 e_ | exact ho_.1.1.2.2.2 e_ | exact ho_.1.1.2.2.2.1 e_ | exact ho_.1.1.2.2.2.2 e_)) | exact (fun e_ => by have ho_ := V_okb HO_0.out (by have h0_ := of_eq_true p132; have h1_ := of_eq_true q132; omega) (by decide); first | exact ho_.2 e_ | exact ho_.1.2 e_ | exact ho_.1.1.2 e_ | exact ho_.1.1.1.2 e_ | exact ho_.1.1.1.1.2 e_ | exact ho_.1.1.1.1.1.2 e_ | exact ho_.1.1.1.1.1.1.2 e_ | exact ho_.2.1 e_ | exact ho_.2.2 e_ | exact ho_.2.2.1 e_ | exact ho_.2.2.2 e_ | exact ho_.2.2.2.1 e_ | exact ho_.2.2.2.2 e_ | exact ho_.1.2.1 e_ | exact ho_.1.2.2 e_ | exact ho_.1.2.2.1 e_ | exact ho_.1.2.2.2 e_ | exact ho_.1.2.2.2.1 e_ | exact ho_.1.2.2.2.2 e_ | exact ho_.1.1.2.1 e_ | exact ho_.1.1.2.2 e_ | exact ho_.1.1.2.2.1 e_ | exact ho_.1.1.2.2.2 e_ | exact ho_.1.1.2.2.2.1 e_ | exact ho_.1.1.2.2.2.2 e_)))
                    rw [← Ny136.out] at ho
                    have n0_ := Aside0.mk (Kd.V_afterv (ok := (fun k_ => (P0_ k_ ∨ w.heap.size ≤ k_) ∧ some k_ ≠ (v124 : Value).ownBlock ∧ some k_ ≠ (v127 : Value).ownBlock ∧ some k_ ≠ (.slice Ao25 y133.length co25 : Value).ownBlock)) (by (with_reducible repeat (first | apply Kd.V_alloc | apply Kd.V_drewN | apply Kd.V_drew)); exact Kd.V_mono HO_0.out (fun _ hk => ⟨⟨hk.1, ⟨hk.2.1, ⟨hk.2.2.1, hk.2.2.2.2⟩⟩⟩, hk.2.2.2.1⟩)) hg hat)
                    have n1_ := Aside0.mk (Kd.R_over' (by (with_reducible repeat (first | apply Kd.R_alloc | apply Kd.R_drewN | apply Kd.R_drew)); exact HO125.out) (Kd.R_typed (by (with_reducible repeat (first | apply Kd.R_alloc | apply Kd.R_drewN | apply Kd.R_drew)); exact HO131.out)) (by decide) hg)
                    have n2_ := Aside0.mk (Kd.R_after (ok := (fun k_ => (w.heap.size ≤ k_) ∧ some k_ ≠ (.slice Ao25 y133.length co25 : Value).ownBlock)) (by (with_reducible repeat (first | apply Kd.R_alloc | apply Kd.R_drewN | apply Kd.R_drew)); exact Kd.R_mono HO128.out (fun _ hk => ⟨⟨hk.1, hk.2.2⟩, hk.2.1⟩)) hg hat)
                    have n3_ := Aside0.mk (Kd.R_after (ok := (fun k_ => (w.heap.size ≤ k_) ∧ some k_ ≠ (v127 : Value).ownBlock)) (by (with_reducible repeat (first | apply Kd.R_alloc | apply Kd.R_drewN | apply Kd.R_drew)); exact Kd.R_mono HO135.out (fun _ hk => ⟨⟨hk.1, hk.2.1⟩, hk.2.2⟩)) hg hat)
                    have n4_ := Aside0.mk (hb)
                    have n5_ := Aside0.mk (ho)
                    clear HO_0
                    clear HO125
                    clear HO128
                    clear HO135
                    clear HB
                    clear HO131
                    have HO_0 := n0_
                    have HO125 := n1_
                    have HO128 := n2_
                    have HO135 := n3_
                    have HB := n4_
                    have HO138 := n5_
                    clear n0_ n1_ n2_ n3_ n4_ n5_
                    clear ho hb hg hat
                    refine hK.out _ _ (HS0_) (fun hHeld => ?_)
                    clear hK K
                    refine norm_ (a' := ?_) ?_ ?_
                    rotate_left
                    · show Act.put _ (some 26) _ = _
                      simp only [Act.put, List.setIfInBounds_toArray, List.set_cons_zero, List.set_cons_succ, i64_w, i32_w]
                      rfl
                    refine pure_ (i := 14) (N := some 2) (v := ?_) (a' := ?_) #[true, true, true, true, true, true, true, true, true, true, true, true, true, true, true] rfl rfl (any_of HT_.out (by kernel_rfl)) (fun _ _ _ h => h) (Or.inl ⟨by rfl, ?_⟩) ?_ ?_
                    rotate_left
                    · intro w'
                      go_simp
                      with_reducible rfl
                    rotate_left
                    · simp only [Act.put, List.setIfInBounds_toArray, List.set_cons_zero, List.set_cons_succ, i64_w, i32_w]
                      rfl
                    refine done_ (done_of HT_.out (by kernel_rfl)) ?_
                    have q26 : (t122 : Int) ≤ ((x0_1.length : Int) : Int) := of_decide_eq_true (by first | (with_reducible assumption) | assumption)
                    obtain ⟨i026, hi026, _, hsz26, _⟩ := info_parts info5
                    have hroom26 : x0_1.length ≤ co12 := (Kd.V_reads' HO_0.out).2.1
                    have hC26 : Kd.F (Kd.int .u8) _ _ (some ad132) x0_1.length x0_1 := (Kd.V_at (base := w.heap.size) HO_0.out).2.2
                    have q026 : (0 : Int) ≤ (t122 : Int) := of_decide_eq_true (by first | (with_reducible assumption) | assumption)
                    have hcut26 := cut_from (P := Try.prog) 22 5 .i64 Try.underlying22 hi026 1 hsz26 (some ad132) x0_1.length co12 t122 q026 q26
                    have hr26 := Kd.F_cut (m := (t122 : Int).toNat) (c := co12) hC26 (by omega) hroom26
                    obtain ⟨A26, hA26⟩ : ∃ A1, A1 = (if co12 = (t122 : Int).toNat then (some ad132) else ((some ad132) : Option Addr).map (·.add ((t122 : Int).toNat * 1))) := ⟨_, rfl⟩
                    obtain ⟨c26, hc26⟩ : ∃ c1, c1 = co12 - (t122 : Int).toNat := ⟨_, rfl⟩
                    have hy26 : y139.length = x0_1.length - (t122 : Int).toNat := (by rw [Ny139.out, List.length_drop] <;> omega)
                    rw [show (x0_1).drop (t122 : Int).toNat = y139 from Ny139.out.symm] at hr26
                    replace hr26 : Kd.F (Kd.int .u8) _ _ A26 y139.length y139 := (by rw [hA26]; exact hr26)
                    rw [← hy26, ← hA26, ← hc26] at hcut26
                    have HO143 := Aside0.mk (show Kd.V (Kd.int .u8) 5 _ w.heap.size _ (.slice A26 y139.length c26) y139 from Kd.V_mk (by rw [hy26, hc26]; exact Nat.sub_le_sub_right hroom26 _) hr26)
                    have HC143 := Aside0.mk (show y139.length ≤ c26 from by rw [hy26, hc26]; exact Nat.sub_le_sub_right hroom26 _)
                    clear hr26 hC26 hroom26 hi026 hsz26 hc26
                    have KY26 := Aside0.mk hy26
                    have KA26 := Aside0.mk hA26
                    clear hy26 hA26
                    replace q26 := eq_true q26
                    try go_wp2
                    go_roundg k1
                    case measure => have := HK1.out; omega
                    case rel => exact ⟨(y139), (y136), H', ⟨by have := HK1.out; omega⟩, ⟨by (with_reducible repeat (first | apply Kd.V_alloc | apply Kd.V_drewN | apply Kd.V_drew)); exact Kd.V_mono HO143.out (fun _ hk => ⟨hk.1.1, hk.2⟩)⟩, ⟨by (with_reducible repeat (first | apply Kd.R_alloc | apply Kd.R_drewN | apply Kd.R_drew)); exact Kd.R_mono HO138.out (fun _ hk => hk.1)⟩, ⟨by repeat (first | (with_reducible first | exact HB.out | apply below_alloc | apply pw_below_drewN | apply below_drew1) | exact HB.out)⟩⟩
                  · rw [if_neg c11] at H
                    exact absurd H (by simp)
                · rw [if_neg c10] at H
                  exact absurd H (by simp)
              · rw [if_neg c9] at H
                exact absurd H (by simp)
            · rw [if_neg c8] at H
              exact absurd H (by simp)
          · rw [if_neg c7] at H
            exact absurd H (by simp)
        · rw [if_neg c4] at H
          have c4b0 : (t121 == 0) = false := beq_eq_false_iff_ne.mpr c4
          have c4b1 : (t121 != 0) = true := bne_iff_ne.mpr c4
          obtain ⟨y144, hy144⟩ : ∃ y_ : List Int, y_ = (([IntKind.u64.wrap ((IntKind.u64.wrap (wrap64 (t121 - 1))) * 2)] : List Int)) := ⟨_, rfl⟩
          replace H : ((varint_Put.f k1 ([] : List Int) y144).bind fun t147 => (if x2_1.length + t147.length < 140737488355328 then ((some (x2_1 ++ t147 : List Int)).bind fun y150 => (if 0 ≤ t121 then (if t121 ≤ (x0_1.length : Int) then ((some (x0_1.take (t121 : Int).toNat : List Int)).bind fun y153 => (if y150.length + y153.length < 140737488355328 then (runs_Encode.l0 k1 (x0_1.drop (t121 : Int).toNat) (y150 ++ y153)) else (none))) else (none)) else (none))) else (none))) = some r := by first | (rw [hy144]; with_reducible exact H) | (have H2_ := (Option.bind_some _ _).symm.trans H; rw [hy144]; with_reducible exact H2_) | (have H2_ := (Option.bind_some _ _).symm.trans H; with_reducible exact H2_) | with_reducible exact H | (rw [hy144]; exact H) | exact H
          have Ny144 := Aside0.mk hy144
          clear hy144
          replace H := Option.bind_eq_some_iff.mp H
          obtain ⟨t147, A270, H⟩ := H
          replace H : (if x2_1.length + t147.length < 140737488355328 then ((some (x2_1 ++ t147 : List Int)).bind fun y150 => (if 0 ≤ t121 then (if t121 ≤ (x0_1.length : Int) then ((some (x0_1.take (t121 : Int).toNat : List Int)).bind fun y153 => (if y150.length + y153.length < 140737488355328 then (runs_Encode.l0 k1 (x0_1.drop (t121 : Int).toNat) (y150 ++ y153)) else (none))) else (none)) else (none))) else (none)) = some r := H
          have A27 := Aside0.mk A270
          clear A270
          by_cases c28 : x2_1.length + t147.length < 140737488355328
          · rw [if_pos c28] at H
            have LMc28 := Aside0.mk c28
            clear c28
            obtain ⟨y150, hy150⟩ : ∃ y_ : List Int, y_ = (x2_1 ++ t147) := ⟨_, rfl⟩
            replace H : (if 0 ≤ t121 then (if t121 ≤ (x0_1.length : Int) then ((some (x0_1.take (t121 : Int).toNat : List Int)).bind fun y153 => (if y150.length + y153.length < 140737488355328 then (runs_Encode.l0 k1 (x0_1.drop (t121 : Int).toNat) (y150 ++ y153)) else (none))) else (none)) else (none)) = some r := by first | (rw [hy150]; with_reducible exact H) | (have H2_ := (Option.bind_some _ _).symm.trans H; rw [hy150]; with_reducible exact H2_) | (have H2_ := (Option.bind_some _ _).symm.trans H; with_reducible exact H2_) | with_reducible exact H | (rw [hy150]; exact H) | exact H
            have Ny150 := Aside0.mk hy150
            clear hy150
            by_cases c29 : 0 ≤ t121
            · rw [if_pos c29] at H
              have c29b0 := eq_true c29
              have c29b1 : decide (0 ≤ t121) = true := decide_eq_true c29
              clear c29
              by_cases c30 : t121 ≤ (x0_1.length : Int)
              · rw [if_pos c30] at H
                have c30b0 := eq_true c30
                have c30b1 : decide (t121 ≤ (x0_1.length : Int)) = true := decide_eq_true c30
                clear c30
                obtain ⟨y153, hy153⟩ : ∃ y_ : List Int, y_ = (x0_1.take (t121 : Int).toNat) := ⟨_, rfl⟩
                replace H : (if y150.length + y153.length < 140737488355328 then (runs_Encode.l0 k1 (x0_1.drop (t121 : Int).toNat) (y150 ++ y153)) else (none)) = some r := by first | (rw [hy153]; with_reducible exact H) | (have H2_ := (Option.bind_some _ _).symm.trans H; rw [hy153]; with_reducible exact H2_) | (have H2_ := (Option.bind_some _ _).symm.trans H; with_reducible exact H2_) | with_reducible exact H | (rw [hy153]; exact H) | exact H
                have Ny153 := Aside0.mk hy153
                clear hy153
                by_cases c31 : y150.length + y153.length < 140737488355328
                · rw [if_pos c31] at H
                  have LMc31 := Aside0.mk c31
                  clear c31
                  obtain ⟨y158, hy158⟩ : ∃ y_ : List Int, y_ = (y150 ++ y153) := ⟨_, rfl⟩
                  replace H : (runs_Encode.l0 k1 (x0_1.drop (t121 : Int).toNat) y158) = some r := by first | (rw [hy158]; with_reducible exact H) | (have H2_ := (Option.bind_some _ _).symm.trans H; rw [hy158]; with_reducible exact H2_) | (have H2_ := (Option.bind_some _ _).symm.trans H; with_reducible exact H2_) | with_reducible exact H | (rw [hy158]; exact H) | exact H
                  have Ny158 := Aside0.mk hy158
                  clear hy158
                  have c32b0 := eq_true (of_decide_eq_true (by first | (with_reducible assumption) | assumption) : 0 ≤ t121)
                  have c33b0 := eq_true (of_decide_eq_true (by first | (with_reducible assumption) | assumption) : t121 ≤ (x0_1.length : Int))
                  obtain ⟨y161, hy161⟩ : ∃ y_ : List Int, y_ = (x0_1.drop (t121 : Int).toNat) := ⟨_, rfl⟩
                  replace H : (runs_Encode.l0 k1 y161 y158) = some r := by first | (rw [hy161]; with_reducible exact H) | (have H2_ := (Option.bind_some _ _).symm.trans H; rw [hy161]; with_reducible exact H2_) | (have H2_ := (Option.bind_some _ _).symm.trans H; with_reducible exact H2_) | with_reducible exact H | (rw [hy161]; exact H) | exact H
                  have Ny161 := Aside0.mk hy161
                  clear hy161
                  have H' := Aside0.mk H
                  clear H
                  obtain ⟨Ao34, co34, eo34⟩ := Kd.V_slice HO_0.out
                  subst eo34
                  try go_wp2_with (first | ((with_reducible refine gate_callee (f := 20) rfl ?_); refine goesL_ (some 8) rfl rfl Try.func20 (by kernel_rfl) rfl #[.slice Ao34 x0_1.length co34] rfl (by (try simp only [List.map_toArray, List.map_cons, List.map_nil]); first | done | rfl | (simp only [List.length_drop, List.length_take]; rfl)) ?_; (with_reducible refine (runs_between.calls k1 _ _ x0_1 t121 _ ?side1 ?side2 A3.out).mono ?_); (case side1 => repeat (first | exact (Kd.V_reads' HO_0.out).2.2 | (with_reducible refine Kd.C_alloc ?_ _) | (with_reducible refine Kd.C_drewN ?_ _) | (with_reducible refine Kd.C_drew ?_))); (case side2 => exact (Kd.V_reads' HO_0.out).2.1); rintro e w' ⟨rfl, ⟨nd, rfl⟩⟩; refine ⟨_, rfl, ?_⟩))
                  (try (rw [drewN_self wr]; generalize hq_ : World.drewN wr _ = wr; have n0_ : Aside0 (Kd.V (Kd.int .u8) 5 wr w.heap.size (fun k_ => (P0_ k_ ∨ w.heap.size ≤ k_) ∧ some k_ ≠ (u2 : Value).ownBlock) (.slice Ao34 x0_1.length co34) x0_1) := ⟨by rw [← hq_]; exact (by (with_reducible repeat (first | apply Kd.V_alloc | apply Kd.V_drewN | apply Kd.V_drew)); exact HO_0.out)⟩; have n1_ : Aside0 (Kd.R (Kd.int .u8) 5 wr w.heap.size (fun k_ => (w.heap.size ≤ k_)) u2 x2_1) := ⟨by rw [← hq_]; exact (by (with_reducible repeat (first | apply Kd.R_alloc | apply Kd.R_drewN | apply Kd.R_drew)); exact HO_2.out)⟩; have n2_ : Aside0 (Below w.heap.size w wr) := ⟨by rw [← hq_]; exact (by repeat (first | (with_reducible first | exact HB.out | apply below_alloc | apply pw_below_drewN | apply below_drew1) | exact HB.out))⟩; clear HO_0 HO_2 HB hq_; have HO_0 := n0_; have HO_2 := n1_; have HB := n2_; clear n0_ n1_ n2_))
                  have n0_ := Aside0.mk (Kd.V_drew HO_0.out)
                  have n1_ := Aside0.mk (Kd.R_drew HO_2.out)
                  have n2_ := Aside0.mk (below_drew1 HB.out)
                  clear HO_0
                  clear HO_2
                  clear HB
                  have HO_0 := n0_
                  have HO_2 := n1_
                  have HB := n2_
                  clear n0_ n1_ n2_
                  have q36 : (t121 : Int) ≤ ((x0_1.length : Int) : Int) := of_decide_eq_true (by first | (with_reducible assumption) | assumption)
                  obtain ⟨i036, hi036, _, hsz36, _⟩ := info_parts info5
                  have hroom36 : x0_1.length ≤ co34 := (Kd.V_reads' HO_0.out).2.1
                  have hC36 : Kd.F (Kd.int .u8) _ _ Ao34 x0_1.length x0_1 := (Kd.V_at (base := w.heap.size) HO_0.out).2.2
                  have hcut36 := cut_to (P := Try.prog) 22 5 .i64 Try.underlying22 hi036 Ao34 x0_1.length co34 t121 (of_decide_eq_true (by first | (with_reducible assumption) | assumption)) q36 hroom36
                  have hr36 := Kd.F_take (m := (t121 : Int).toNat) hC36 (by omega)
                  have hy36 : y153.length = (t121 : Int).toNat := (by rw [Ny153.out, List.length_take]; omega)
                  rw [← Ny153.out] at hr36
                  rw [← hy36] at hcut36
                  have HO157 := Aside0.mk (show Kd.V (Kd.int .u8) 5 _ w.heap.size _ (.slice Ao34 y153.length co34) y153 from Kd.V_mk (by omega) hr36)
                  have HC157 := Aside0.mk (show y153.length ≤ co34 from by omega)
                  clear hr36 hC36 hroom36 hi036 hsz36
                  have KY36 := Aside0.mk hy36
                  clear hy36
                  replace q36 := eq_true q36
                  refine start_ (n := 13) (S := fun w' => True) (ds := []) #[false, false, false, false, false, false, false, false, false, false, false, false, false] (by kernel_rfl) rfl rfl trivial (fun hHeld => ?_); refine with_tabW runs_Encode.tab6 runs_Encode.bits6 (fun HT_ HW_ => ?_)
                  generalize wr.drew = w35 at HO_0 HO_2 HB HO157 hHeld ⊢
                  refine pure_ (i := 0) (N := some 27) (v := ?_) (a' := ?_) #[true, false, false, false, false, false, false, false, false, false, false, false, false] rfl rfl (any_of HT_.out (by kernel_rfl)) (fun _ _ _ h => h) (Or.inl ⟨by rfl, ?_⟩) ?_ ?_
                  rotate_left
                  · intro w'
                    go_simp
                    with_reducible rfl
                  rotate_left
                  · simp only [Act.put, List.setIfInBounds_toArray, List.set_cons_zero, List.set_cons_succ, i64_w, i32_w]
                    rfl
                  refine pure_ (i := 1) (N := some 28) (v := ?_) (a' := ?_) #[true, true, false, false, false, false, false, false, false, false, false, false, false] rfl rfl (any_of HT_.out (by kernel_rfl)) (fun _ _ _ h => h) (Or.inl ⟨by rfl, ?_⟩) ?_ ?_
                  rotate_left
                  · intro w'
                    go_simp
                    with_reducible rfl
                  rotate_left
                  · simp only [Act.put, List.setIfInBounds_toArray, List.set_cons_zero, List.set_cons_succ, i64_w, i32_w]
                    rfl
                  refine pure_ (i := 2) (N := some 29) (v := ?_) (a' := ?_) #[true, true, true, false, false, false, false, false, false, false, false, false, false] rfl rfl (any_of HT_.out (by kernel_rfl)) (fun _ _ _ h => h) (Or.inl ⟨by rfl, ?_⟩) ?_ ?_
                  rotate_left
                  · intro w'
                    go_simp
                    with_reducible rfl
                  rotate_left
                  · simp only [Act.put, List.setIfInBounds_toArray, List.set_cons_zero, List.set_cons_succ, i64_w, i32_w]
                    rfl
                  refine pure_ (i := 3) (N := some 30) (v := ?_) (a' := ?_) #[true, true, true, true, false, false, false, false, false, false, false, false, false] rfl rfl (any_of HT_.out (by kernel_rfl)) (fun _ _ _ h => h) (Or.inl ⟨by rfl, ?_⟩) ?_ ?_
                  rotate_left
                  · intro w'
                    go_simp
                    with_reducible rfl
                  rotate_left
                  · simp only [Act.put, List.setIfInBounds_toArray, List.set_cons_zero, List.set_cons_succ, i64_w, i32_w]
                    rfl
                  refine pure_ (i := 4) (N := some 31) (v := ?_) (a' := ?_) #[true, true, true, true, true, false, false, false, false, false, false, false, false] rfl rfl (any_of HT_.out (by kernel_rfl)) (fun _ _ _ h => h) (Or.inl ⟨by rfl, ?_⟩) ?_ ?_
                  rotate_left
                  · intro w'
                    go_simp
                    with_reducible rfl
                  rotate_left
                  · simp only [Act.put, List.setIfInBounds_toArray, List.set_cons_zero, List.set_cons_succ, i64_w, i32_w]
                    rfl
                  refine pure_ (i := 8) (N := some 35) (v := ?_) (a' := ?_) #[true, true, true, true, true, false, false, false, true, false, false, false, false] rfl rfl (any_of HT_.out (by kernel_rfl)) (fun _ _ _ h => h) (Or.inl ⟨by rfl, ?_⟩) ?_ ?_
                  rotate_left
                  · intro w'
                    go_simp
                    with_reducible rfl
                  rotate_left
                  · simp only [Act.put, List.setIfInBounds_toArray, List.set_cons_zero, List.set_cons_succ, i64_w, i32_w]
                    rfl
                  refine pure_ (i := 9) (N := some 36) (v := ?_) (a' := ?_) #[true, true, true, true, true, false, false, false, true, true, false, false, false] rfl rfl (any_of HT_.out (by kernel_rfl)) (fun _ _ _ h => h) (Or.inl ⟨by rfl, ?_⟩) ?_ ?_
                  rotate_left
                  · intro w'
                    go_simp
                    with_reducible rfl
                  rotate_left
                  · simp only [Act.put, List.setIfInBounds_toArray, List.set_cons_zero, List.set_cons_succ, i64_w, i32_w]
                    rfl
                  refine pure_ (i := 10) (N := some 37) (v := ?_) (a' := ?_) #[true, true, true, true, true, false, false, false, true, true, true, false, false] rfl rfl (any_of HT_.out (by kernel_rfl)) (fun _ _ _ h => h) (Or.inl ⟨by rfl, ?_⟩) ?_ ?_
                  rotate_left
                  · intro w'
                    go_simp
                    with_reducible rfl
                  rotate_left
                  · simp only [Act.put, List.setIfInBounds_toArray, List.set_cons_zero, List.set_cons_succ, i64_w, i32_w]
                    rfl
                  refine one_ (i := 5) (N := some 32) #[true, true, true, true, true, true, false, false, true, true, true, false, false] rfl rfl (one_of HT_.out (by kernel_rfl)) (by decide) (fun K hK => ?_)
                  refine Kd.R_lit_step (Kd.int .u64) _ 29 ?hg (N := 32) ?hd (xs := ([IntKind.u64.wrap ((IntKind.u64.wrap (wrap64 (t121 - 1))) * 2)] : List Int)) (inner := [.int .u64 (IntKind.u64.wrap ((IntKind.u64.wrap (wrap64 (t121 - 1))) * 2))]) (ok := fun _ => True) (okp := fun _ => True) ?hr ?hp (fun _ hk => hk) trivial (Below.refl _ _) (Nat.le_refl _) (by simp) ?_; (case hd => rfl); (case hg => rfl); (case hr => first | (go_simp; done) | (go_simp; rfl)); (case hp => exact (Reps.one (show Kd.M (Kd.int .u64) _ _ _ (IntKind.u64.wrap ((IntKind.u64.wrap (wrap64 (t121 - 1))) * 2)) [.int .u64 (IntKind.u64.wrap ((IntKind.u64.wrap (wrap64 (t121 - 1))) * 2))] from rfl) (Reps.none _ _)))
                  intro v145 w37 ho38 hb hg_ hnew_
                  clear hg_ hnew_
                  (first | rw [← Ny144.out] at ho38 | (simp only [Int.reduceToNat] at ho38; rw [← Ny144.out] at ho38))
                  have n0_ := Aside0.mk (Kd.V_elder' (by (with_reducible repeat (first | apply Kd.V_alloc | apply Kd.V_drewN | apply Kd.V_drew)); exact HO_0.out) (Kd.R_base ho38) hb)
                  have n1_ := Aside0.mk (Kd.R_below (by (with_reducible repeat (first | apply Kd.R_alloc | apply Kd.R_drewN | apply Kd.R_drew)); exact HO_2.out) hb)
                  have n2_ := Aside0.mk (Kd.V_elder' (by (with_reducible repeat (first | apply Kd.V_alloc | apply Kd.V_drewN | apply Kd.V_drew)); exact HO157.out) (Kd.R_base ho38) hb)
                  have n3_ := Aside0.mk (Kd.R_lower (Kd.R_newM (M := fun k_ => (w.heap.size ≤ k_)) ho38 (below_size (by repeat (first | (with_reducible first | exact HB.out | apply below_alloc | apply pw_below_drewN | apply below_drew1) | exact HB.out))) (fun k_ h_ => h_)) (below_size (by repeat (first | (with_reducible first | exact HB.out | apply below_alloc | apply pw_below_drewN | apply below_drew1) | exact HB.out))))
                  have n4_ := Aside0.mk (below_step (by repeat (first | (with_reducible first | exact HB.out | apply below_alloc | apply pw_below_drewN | apply below_drew1) | exact HB.out)) hb)
                  clear HO_0
                  clear HO_2
                  clear HO157
                  clear HB
                  have HO_0 := n0_
                  have HO_2 := n1_
                  have HO157 := n2_
                  have HO146 := n3_
                  have HB := n4_
                  clear n0_ n1_ n2_ n3_ n4_
                  clear hb ho38
                  obtain ⟨Ao39, co39, eo39⟩ := Kd.R_slice HO146.out
                  (first | subst eo39 | (injection eo39 with f1_ f2_ f3_; have f4_ := f1_.symm; have f5_ := f3_.symm; clear f1_ f2_ f3_; subst f4_; subst f5_))
                  refine hK.out _ _ trivial (fun hHeld => ?_)
                  clear hK K
                  refine norm_ (a' := ?_) ?_ ?_
                  rotate_left
                  · show Act.put _ (some 32) _ = _
                    simp only [Act.put, List.setIfInBounds_toArray, List.set_cons_zero, List.set_cons_succ, i64_w, i32_w]
                    rfl
                  refine one_ (i := 6) (N := some 33) #[true, true, true, true, true, true, true, false, true, true, true, false, false] rfl rfl (one_of HT_.out (by kernel_rfl)) (by decide) (fun K hK => ?_)
                  refine goes_ Try.func14 (by kernel_rfl) rfl #[.slice none 0 0, .slice Ao39 y144.length co39] (by rfl) rfl rfl (by (try simp only [List.map_toArray, List.map_cons, List.map_nil]); first | done | rfl | (simp only [List.length_drop, List.length_take]; rfl)) ?_
                  refine (varint_Put.calls k1 _ _ ([] : List Int) _ _ y144 t147 _ ?side1 ?side2 ?side3 ?side4 A27.out).mono ?_
                  (case side1 => exact Kd.C_nil _ _)
                  (case side2 => exact Nat.le_refl _)
                  (case side3 => repeat (first | exact (Kd.R_reads' HO146.out).2.2 | (with_reducible refine Kd.C_alloc ?_ _) | (with_reducible refine Kd.C_drewN ?_ _) | (with_reducible refine Kd.C_drew ?_)))
                  (case side4 => exact (Kd.R_reads' HO146.out).2.1)
                  rintro e w40 ⟨v148, rfl, ho0, hb⟩
                  refine ⟨_, rfl, ?_⟩
                  have n0_ := Aside0.mk (Kd.V_elder' (by (with_reducible repeat (first | apply Kd.V_alloc | apply Kd.V_drewN | apply Kd.V_drew)); exact HO_0.out) (Kd.R_base ho0) hb)
                  have n1_ := Aside0.mk (Kd.R_elder' (by (with_reducible repeat (first | apply Kd.R_alloc | apply Kd.R_drewN | apply Kd.R_drew)); exact HO_2.out) (Kd.R_base ho0) hb)
                  have n2_ := Aside0.mk (Kd.V_elder' (by (with_reducible repeat (first | apply Kd.V_alloc | apply Kd.V_drewN | apply Kd.V_drew)); exact HO157.out) (Kd.R_base ho0) hb)
                  have n3_ := Aside0.mk (Kd.R_below (by (with_reducible repeat (first | apply Kd.R_alloc | apply Kd.R_drewN | apply Kd.R_drew)); exact HO146.out) hb)
                  have n4_ := Aside0.mk (Kd.R_lower (Kd.R_new' (Kd.R_newM (M := fun k_ => (w.heap.size ≤ k_)) ho0 (below_size (by repeat (first | (with_reducible first | exact HB.out | apply below_alloc | apply pw_below_drewN | apply below_drew1) | exact HB.out))) (fun k_ h_ => h_)) (Kd.R_lt (by (with_reducible repeat (first | apply Kd.R_alloc | apply Kd.R_drewN | apply Kd.R_drew)); exact HO_2.out))) (below_size (by repeat (first | (with_reducible first | exact HB.out | apply below_alloc | apply pw_below_drewN | apply below_drew1) | exact HB.out))))
                  have n5_ := Aside0.mk (below_step (by repeat (first | (with_reducible first | exact HB.out | apply below_alloc | apply pw_below_drewN | apply below_drew1) | exact HB.out)) hb)
                  clear HO_0
                  clear HO_2
                  clear HO157
                  clear HO146
                  clear HB
                  have HO_0 := n0_
                  have HO_2 := n1_
                  have HO157 := n2_
                  have HO146 := n3_
                  have HO149 := n4_
                  have HB := n5_
                  clear n0_ n1_ n2_ n3_ n4_ n5_
                  (try clear hb)
                  (try clear hb2)
                  (try clear hk)
                  (try clear hi)
                  (try clear ho0)
                  obtain ⟨Ao42, co42, eo42⟩ := Kd.R_slice HO149.out
                  (first | subst eo42 | (injection eo42 with f1_ f2_ f3_; have f4_ := f1_.symm; have f5_ := f3_.symm; clear f1_ f2_ f3_; subst f4_; subst f5_))
                  refine hK.out _ _ trivial (fun hHeld => ?_)
                  clear hK K
                  refine norm_ (a' := ?_) ?_ ?_
                  rotate_left
                  · show Act.put _ (some 33) _ = _
                    simp only [Act.put, List.setIfInBounds_toArray, List.set_cons_zero, List.set_cons_succ, i64_w, i32_w]
                    rfl
                  refine one_ (i := 7) (N := some 34) #[true, true, true, true, true, true, true, true, true, true, true, false, false] rfl rfl (one_of HT_.out (by kernel_rfl)) (by decide) (fun K hK => ?_)
                  refine Kd.R_append_rows_step (Kd.int .u8) (w0 := w) w.heap.size (by rfl) (.tmp 27) (.tmp 33) 22 5 (.int .u8 0) 1 rfl Try.underlying22 info5 rfl (by decide) (by omega) u2 x2_1 t147 _ _ _ (fun k_ => (w.heap.size ≤ k_) ∧ some k_ ≠ (.slice Ao42 t147.length co42 : Value).ownBlock) (fun _ => False) rfl rfl ?aO ?aR (fun _ _ h => h) (fun _ h => h.elim) ?aF ?aB ?aS ?aL ?_
                  (case aR => repeat (first | exact (Kd.R_reads' HO149.out).2.2 | (with_reducible refine Kd.C_alloc ?_ _) | (with_reducible refine Kd.C_drewN ?_ _) | (with_reducible refine Kd.C_drew ?_)))
                  (case aB => exact (by repeat (first | (with_reducible first | exact HB.out | apply below_alloc | apply pw_below_drewN | apply below_drew1) | exact HB.out)))
                  (case aF => exact (fun k_ hk => ⟨(Nat.le_trans (below_size (by repeat (first | (with_reducible first | exact HB.out | apply below_alloc | apply pw_below_drewN | apply below_drew1) | exact HB.out))) hk), Kd.fresh' (Kd.R_lt (by (with_reducible repeat (first | apply Kd.R_alloc | apply Kd.R_drewN | apply Kd.R_drew)); exact HO149.out)) k_ hk⟩))
                  (case aO => exact (by (with_reducible repeat (first | apply Kd.R_alloc | apply Kd.R_drewN | apply Kd.R_drew)); exact HO_2.out))
                  (case aS => exact (below_size (by repeat (first | (with_reducible first | exact HB.out | apply below_alloc | apply pw_below_drewN | apply below_drew1) | exact HB.out))))
                  (case aL => have := LMc28.out; omega)
                  intro v151 w41 ho hb hg hat
                  rw [← Ny150.out] at ho
                  have n0_ := Aside0.mk (Kd.V_afterv (ok := (fun k_ => (P0_ k_ ∨ w.heap.size ≤ k_) ∧ some k_ ≠ (.slice Ao39 y144.length co39 : Value).ownBlock ∧ some k_ ≠ (.slice Ao42 t147.length co42 : Value).ownBlock)) (by (with_reducible repeat (first | apply Kd.V_alloc | apply Kd.V_drewN | apply Kd.V_drew)); exact Kd.V_mono HO_0.out (fun _ hk => ⟨⟨hk.1.1.1, ⟨hk.1.2, hk.2⟩⟩, hk.1.1.2⟩)) hg hat)
                  have n1_ := Aside0.mk (Kd.V_afterv (ok := (fun k_ => (P0_ k_ ∨ w.heap.size ≤ k_) ∧ some k_ ≠ (.slice Ao39 y144.length co39 : Value).ownBlock ∧ some k_ ≠ (.slice Ao42 t147.length co42 : Value).ownBlock)) (by (with_reducible repeat (first | apply Kd.V_alloc | apply Kd.V_drewN | apply Kd.V_drew)); exact Kd.V_mono HO157.out (fun _ hk => ⟨⟨hk.1.1.1, ⟨hk.1.2, hk.2⟩⟩, hk.1.1.2⟩)) hg hat)
                  have n2_ := Aside0.mk (Kd.R_over' (by (with_reducible repeat (first | apply Kd.R_alloc | apply Kd.R_drewN | apply Kd.R_drew)); exact HO146.out) (Kd.R_typed (by (with_reducible repeat (first | apply Kd.R_alloc | apply Kd.R_drewN | apply Kd.R_drew)); exact HO_2.out)) (by decide) hg)
                  have n3_ := Aside0.mk (Kd.R_after (ok := (fun k_ => (w.heap.size ≤ k_))) (by (with_reducible repeat (first | apply Kd.R_alloc | apply Kd.R_drewN | apply Kd.R_drew)); exact Kd.R_mono HO149.out (fun _ hk => ⟨hk.1.1, hk.2⟩)) hg hat)
                  have n4_ := Aside0.mk (hb)
                  have n5_ := Aside0.mk (ho)
                  clear HO_0
                  clear HO157
                  clear HO146
                  clear HO149
                  clear HB
                  clear HO_2
                  have HO_0 := n0_
                  have HO157 := n1_
                  have HO146 := n2_
                  have HO149 := n3_
                  have HB := n4_
                  have HO152 := n5_
                  clear n0_ n1_ n2_ n3_ n4_ n5_
                  clear ho hb hg hat
                  refine hK.out _ _ trivial (fun hHeld => ?_)
                  clear hK K
                  refine norm_ (a' := ?_) ?_ ?_
                  rotate_left
                  · show Act.put _ (some 34) _ = _
                    simp only [Act.put, List.setIfInBounds_toArray, List.set_cons_zero, List.set_cons_succ, i64_w, i32_w]
                    rfl
                  refine one_ (i := 11) (N := some 38) #[true, true, true, true, true, true, true, true, true, true, true, true, false] rfl rfl (one_of HT_.out (by kernel_rfl)) (by decide) (fun K hK => ?_)
                  refine Kd.R_append_rows_step (Kd.int .u8) (w0 := w) w.heap.size (by rfl) (.tmp 34) (.tmp 37) 22 5 (.int .u8 0) 1 rfl Try.underlying22 info5 rfl (by decide) (by omega) v151 y150 y153 _ _ _ (fun k_ => (w.heap.size ≤ k_) ∧ some k_ ≠ (.slice Ao42 t147.length co42 : Value).ownBlock) (fun _ => False) rfl rfl ?aO ?aR (fun _ _ h => h) (fun _ h => h.elim) ?aF ?aB ?aS ?aL ?_
                  (case aR => repeat (first | exact (Kd.V_reads' HO157.out).2.2 | (with_reducible refine Kd.C_alloc ?_ _) | (with_reducible refine Kd.C_drewN ?_ _) | (with_reducible refine Kd.C_drew ?_)))
                  (case aB => exact (by repeat (first | (with_reducible first | exact HB.out | apply below_alloc | apply pw_below_drewN | apply below_drew1) | exact HB.out)))
                  (case aF => exact (fun k_ hk => ⟨(Nat.le_trans (below_size (by repeat (first | (with_reducible first | exact HB.out | apply below_alloc | apply pw_below_drewN | apply below_drew1) | exact HB.out))) hk), Kd.fresh' (Kd.R_lt (by (with_reducible repeat (first | apply Kd.R_alloc | apply Kd.R_drewN | apply Kd.R_drew)); exact HO149.out)) k_ hk⟩))
                  (case aO => exact (by (with_reducible repeat (first | apply Kd.R_alloc | apply Kd.R_drewN | apply Kd.R_drew)); exact HO152.out))
                  (case aS => exact (below_size (by repeat (first | (with_reducible first | exact HB.out | apply below_alloc | apply pw_below_drewN | apply below_drew1) | exact HB.out))))
                  (case aL => have := LMc31.out; omega)
                  intro v159 w43 ho hb hg hat
                  rw [← Ny158.out] at ho
                  have n0_ := Aside0.mk (Kd.V_afterv (ok := (fun k_ => (P0_ k_ ∨ w.heap.size ≤ k_) ∧ some k_ ≠ (.slice Ao39 y144.length co39 : Value).ownBlock ∧ some k_ ≠ (.slice Ao42 t147.length co42 : Value).ownBlock)) (by (with_reducible repeat (first | apply Kd.V_alloc | apply Kd.V_drewN | apply Kd.V_drew)); exact HO_0.out) hg hat)
                  have n1_ := Aside0.mk (Kd.V_afterv (ok := (fun k_ => (P0_ k_ ∨ w.heap.size ≤ k_) ∧ some k_ ≠ (.slice Ao39 y144.length co39 : Value).ownBlock ∧ some k_ ≠ (.slice Ao42 t147.length co42 : Value).ownBlock)) (by (with_reducible repeat (first | apply Kd.V_alloc | apply Kd.V_drewN | apply Kd.V_drew)); exact HO157.out) hg hat)
                  have n2_ := Aside0.mk (Kd.R_over' (by (with_reducible repeat (first | apply Kd.R_alloc | apply Kd.R_drewN | apply Kd.R_drew)); exact HO146.out) (Kd.R_typed (by (with_reducible repeat (first | apply Kd.R_alloc | apply Kd.R_drewN | apply Kd.R_drew)); exact HO152.out)) (by decide) hg)
                  have n3_ := Aside0.mk (Kd.R_after (ok := (fun k_ => (w.heap.size ≤ k_))) (by (with_reducible repeat (first | apply Kd.R_alloc | apply Kd.R_drewN | apply Kd.R_drew)); exact HO149.out) hg hat)
                  have n4_ := Aside0.mk (hb)
                  have n5_ := Aside0.mk (ho)
                  clear HO_0
                  clear HO157
                  clear HO146
                  clear HO149
                  clear HB
                  clear HO152
                  have HO_0 := n0_
                  have HO157 := n1_
                  have HO146 := n2_
                  have HO149 := n3_
                  have HB := n4_
                  have HO160 := n5_
                  clear n0_ n1_ n2_ n3_ n4_ n5_
                  clear ho hb hg hat
                  refine hK.out _ _ trivial (fun hHeld => ?_)
                  clear hK K
                  refine norm_ (a' := ?_) ?_ ?_
                  rotate_left
                  · show Act.put _ (some 38) _ = _
                    simp only [Act.put, List.setIfInBounds_toArray, List.set_cons_zero, List.set_cons_succ, i64_w, i32_w]
                    rfl
                  refine pure_ (i := 12) (N := some 2) (v := ?_) (a' := ?_) #[true, true, true, true, true, true, true, true, true, true, true, true, true] rfl rfl (any_of HT_.out (by kernel_rfl)) (fun _ _ _ h => h) (Or.inl ⟨by rfl, ?_⟩) ?_ ?_
                  rotate_left
                  · intro w'
                    go_simp
                    with_reducible rfl
                  rotate_left
                  · simp only [Act.put, List.setIfInBounds_toArray, List.set_cons_zero, List.set_cons_succ, i64_w, i32_w]
                    rfl
                  refine done_ (done_of HT_.out (by kernel_rfl)) ?_
                  have q44 : (t121 : Int) ≤ ((x0_1.length : Int) : Int) := of_decide_eq_true (by first | (with_reducible assumption) | assumption)
                  obtain ⟨i044, hi044, _, hsz44, _⟩ := info_parts info5
                  have hroom44 : x0_1.length ≤ co34 := (Kd.V_reads' HO_0.out).2.1
                  have hC44 : Kd.F (Kd.int .u8) _ _ Ao34 x0_1.length x0_1 := (Kd.V_at (base := w.heap.size) HO_0.out).2.2
                  have q044 : (0 : Int) ≤ (t121 : Int) := of_decide_eq_true (by first | (with_reducible assumption) | assumption)
                  have hcut44 := cut_from (P := Try.prog) 22 5 .i64 Try.underlying22 hi044 1 hsz44 Ao34 x0_1.length co34 t121 q044 q44
                  have hr44 := Kd.F_cut (m := (t121 : Int).toNat) (c := co34) hC44 (by omega) hroom44
                  obtain ⟨A44, hA44⟩ : ∃ A1, A1 = (if co34 = (t121 : Int).toNat then Ao34 else (Ao34 : Option Addr).map (·.add ((t121 : Int).toNat * 1))) := ⟨_, rfl⟩
                  obtain ⟨c44, hc44⟩ : ∃ c1, c1 = co34 - (t121 : Int).toNat := ⟨_, rfl⟩
                  have hy44 : y161.length = x0_1.length - (t121 : Int).toNat := (by rw [Ny161.out, List.length_drop] <;> omega)
                  rw [show (x0_1).drop (t121 : Int).toNat = y161 from Ny161.out.symm] at hr44
                  replace hr44 : Kd.F (Kd.int .u8) _ _ A44 y161.length y161 := (by rw [hA44]; exact hr44)
                  rw [← hy44, ← hA44, ← hc44] at hcut44
                  have HO165 := Aside0.mk (show Kd.V (Kd.int .u8) 5 _ w.heap.size _ (.slice A44 y161.length c44) y161 from Kd.V_mk (by rw [hy44, hc44]; exact Nat.sub_le_sub_right hroom44 _) hr44)
                  have HC165 := Aside0.mk (show y161.length ≤ c44 from by rw [hy44, hc44]; exact Nat.sub_le_sub_right hroom44 _)
                  clear hr44 hC44 hroom44 hi044 hsz44 hc44
                  have KY44 := Aside0.mk hy44
                  have KA44 := Aside0.mk hA44
                  clear hy44 hA44
                  replace q44 := eq_true q44
                  try go_wp2
                  go_roundg k1
                  case measure => have := HK1.out; omega
                  case rel => exact ⟨(y161), (y158), H', ⟨by have := HK1.out; omega⟩, ⟨by (with_reducible repeat (first | apply Kd.V_alloc | apply Kd.V_drewN | apply Kd.V_drew)); exact Kd.V_mono HO165.out (fun _ hk => ⟨hk.1.1, hk.2⟩)⟩, ⟨by (with_reducible repeat (first | apply Kd.R_alloc | apply Kd.R_drewN | apply Kd.R_drew)); exact Kd.R_mono HO160.out (fun _ hk => hk.1)⟩, ⟨by repeat (first | (with_reducible first | exact HB.out | apply below_alloc | apply pw_below_drewN | apply below_drew1) | exact HB.out)⟩⟩
                · rw [if_neg c31] at H
                  exact absurd H (by simp)
              · rw [if_neg c30] at H
                exact absurd H (by simp)
            · rw [if_neg c29] at H
              exact absurd H (by simp)
          · rw [if_neg c28] at H
            exact absurd H (by simp)
      · rw [if_neg c2] at H
        have c2b0 : decide (0 < (x0_1.length : Int)) = false := decide_eq_false c2
        have c2b1 : decide (0 < x0_1.length) = false := decide_eq_false (by omega)
        clear c2
        obtain rfl := Option.some.inj H
        obtain ⟨Ao45, co45, eo45⟩ := Kd.V_slice HO_0.out
        subst eo45
        go_wp2
        go_ret
        exact ⟨_, by first | rfl | (simp [errW_none, errW_some] <;> rfl) | (simp [*, errW_none, errW_some] <;> rfl), by (with_reducible repeat (first | apply Kd.R_alloc | apply Kd.R_drewN | apply Kd.R_drew)); exact HO_2.out, by repeat (first | (with_reducible first | exact HB.out | apply below_alloc | apply pw_below_drewN | apply below_drew1) | exact HB.out)⟩

end Go.Proofs.Ytcbalpchfcifeaa.HRunsTells
