/- Words and walks, shortened by a program: what this claim's functions answer, and that other memory stays. -/
import Derived.Test.YtecdklheppcihaaSTightTellsx0
namespace Go.Proofs.Ytecdklheppcihaa.HTightTells
open Go.RowKit Go.Proofs.YtecdklheppcihaaW.PrintWords Go.Proofs.YtecdklheppcihaaW.PrintWords.Kd Go.Proofs.YtecdklheppcihaaW.PrintLast Go.Proofs.YtecdklheppcihaaW.PrintMore Go.Proofs.YtecdklheppcihaaW.PrintMore.Kd
attribute [local go_sem] Xbp Xbn Xbu Xbt Xbg Xbf Xbo Xbm
set_option linter.unusedVariables false
set_option linter.unusedSimpArgs false
def deckleref10_Copy.l0 : Nat → List (S30) → List (S30) → Int → Option ((List (S30)))
 | 0, _, _, _ => none
 | k + 1, x0, x3, x4 => if x4 < (x0.length : Int) then (if 0 ≤ x4 then ((some (([] : List Int) : List Int)).bind fun y649 => (if y649.length + ((Xa x0 x4).f1).length < 17592186044416 then ((some (([] : List Int) : List Int)).bind fun y656 => (if y656.length + ((Xa x0 x4).f2).length < 17592186044416 then ((some (([] : List (S38)) : List (S38))).bind fun y663 => (if y663.length + ((Xa x0 x4).f3).length < 8796093022208 then (if x3.length < 1759218604441 then (deckleref10_Copy.l0 k x0 (x3 ++ [(⟨(Xa x0 x4).f0, (y649 ++ ((Xa x0 x4).f1)), (y656 ++ ((Xa x0 x4).f2)), (y663 ++ ((Xa x0 x4).f3))⟩ : S30)]) (wrap64 (x4 + 1))) else (none)) else (none))) else (none))) else (none))) else (none)) else (some x3)
def deckleref10_Copy.f (k : Nat) (l0 : List (S30)) : Option ((List (S30))) := deckleref10_Copy.l0 k l0 ([] : List (S30)) 0
def deckleref10_Copy.T5 : Bool × List (List Nat × List Nat) := (true, [([], []), ([], []), ([], []), ([1, 2], [1, 2]), ([3], [3]), ([4], [4]), ([], []), ([], []), ([], []), ([7, 8], [7, 8]), ([9], [9]), ([10], [10]), ([6, 11], [6, 11]), ([], []), ([], []), ([], []), ([14, 15], [14, 15]), ([16], [16]), ([17], [17]), ([13, 18, 12], [13, 18]), ([], []), ([], []), ([], []), ([21, 22], [21, 22]), ([23], [23]), ([24], [24]), ([20, 25, 19], [20, 25]), ([5, 12, 19, 26], [5, 12, 19, 26]), ([27], [27]), ([0, 28, 26], [0, 28]), ([29, 29, 0, 1, 2, 3, 4, 5, 6, 7, 8, 9, 10, 11, 12, 13, 14, 15, 16, 17, 18, 19, 20, 21, 22, 23, 24, 25, 26, 27, 28, 29], [0, 29])])
def deckleref10_Copy.B5 : List Nat := [0, 0, 0, 6, 14, 30, 0, 0, 0, 384, 896, 1920, 4032, 0, 0, 0, 49152, 114688, 245760, 524224, 0, 0, 0, 6291456, 14680064, 31457280, 67108800, 134217726, 268435454, 536870911, 1073741823]
theorem deckleref10_Copy.tab5 : Xch .any (opsOf Try.f15 5) = deckleref10_Copy.T5 := J17
theorem deckleref10_Copy.bits5 : Xcf deckleref10_Copy.T5.2 deckleref10_Copy.B5 = true := J17
set_option maxHeartbeats 8000000 in
set_option maxRecDepth 100000 in
theorem deckleref10_Copy.calls (k : Nat) (A0 : Option Addr) (c0 : Nat) (l0 : List (S30)) (r : List (S30)) (w : World) (hr0 : Kd.C k30 w A0 l0.length l0) (hc0 : l0.length ≤ c0) (h : deckleref10_Copy.f k l0 = some r) :
  Calls Try.prog 15 #[.slice A0 l0.length c0] w fun e w' => ∃ v0_ : Value, e = .returned (v0_) ∧ Kd.S k30 30 w' w.heap.size (fun _ => True) v0_ r ∧ Below w.heap.size w w' := by
 have hu30 := Try.underlying30
 have HR0 := zq hr0
 have HC0 := zq hc0
 clear hr0 hc0
 have HB := zq (Below.refl w.heap.size w)
 unfold deckleref10_Copy.f at h
 have H := h
 clear h
 have H' := zq H
 clear H
 go_enter Try.func15, Try.ntmps15
 go_wp2
 go_loopg [3, 4] k (fun kq v3 v4 w' => ∃ (x3_1 : List (S30)) (x4_1 : Int), v4 = .int .i64 x4_1 ∧ Aside0 (deckleref10_Copy.l0 kq l0 x3_1 x4_1 = some r) ∧ Aside0 (kq ≤ k) ∧ Aside0 (Kd.S k30 30 w' w.heap.size (fun _ => True) v3 x3_1) ∧ Aside0 (Below w.heap.size w w'))
 case atStart => exact ⟨(([] : List (S30))), (0), J4, H', ⟨Nat.le_refl _⟩, ⟨J106⟩, ⟨J0⟩⟩
 case round =>
  clear H'
  obtain ⟨x3_1, x4_1, rfl, HA, HK1, HO_3, HB⟩ := hrel
  cases gk with
  | zero => exact absurd HA.out (by simp [deckleref10_Copy.l0])
  | succ k1 =>
   have H := HA.out
   clear HA
   simp only [deckleref10_Copy.l0] at H
   refine yd H ?_ ?_ <;> clear H <;> rintro c2b0 H
   ·obtain rfl := yo H
    go_wp2
    go_ret
    exact ⟨_, J1, by (with_reducible repeat (first | apply Kd.S_alloc | apply Kd.S_drewN | apply bh)); exact HO_3.out, J0⟩
   refine yj H ?_; clear H; intro c3b0 H
   refine yl H ?_; clear H; rintro y649 Ny649 H
   refine yi H ?_; clear H; intro c4 H
   have LMc4 := zq c4
   clear c4
   obtain ⟨y653, hy653⟩ : ∃ y_ : List Int, y_ = (y649 ++ ((Xa l0 x4_1).f1)) := ⟨_, rfl⟩
   replace H : ((some (([] : List Int) : List Int)).bind fun y656 => (if y656.length + ((Xa l0 x4_1).f2).length < 17592186044416 then ((some (([] : List (S38)) : List (S38))).bind fun y663 => (if y663.length + ((Xa l0 x4_1).f3).length < 8796093022208 then (if x3_1.length < 1759218604441 then (deckleref10_Copy.l0 k1 l0 (x3_1 ++ [(⟨(Xa l0 x4_1).f0, y653, (y656 ++ ((Xa l0 x4_1).f2)), (y663 ++ ((Xa l0 x4_1).f3))⟩ : S30)]) (wrap64 (x4_1 + 1))) else (none)) else (none))) else (none))) = some r := by first | (rw [hy653]; with_reducible exact H) | (have H2_ := (Option.bind_some _ _).symm.trans H; rw [hy653]; with_reducible exact H2_) | (have H2_ := (Option.bind_some _ _).symm.trans H; with_reducible exact H2_) | with_reducible exact H | (rw [hy653]; exact H) | exact H
   have Ny653 := zq hy653
   clear hy653
   refine yl H ?_; clear H; rintro y656 Ny656 H
   refine yi H ?_; clear H; intro c5 H
   have LMc5 := zq c5
   clear c5
   obtain ⟨y660, hy660⟩ : ∃ y_ : List Int, y_ = (y656 ++ ((Xa l0 x4_1).f2)) := ⟨_, rfl⟩
   replace H : ((some (([] : List (S38)) : List (S38))).bind fun y663 => (if y663.length + ((Xa l0 x4_1).f3).length < 8796093022208 then (if x3_1.length < 1759218604441 then (deckleref10_Copy.l0 k1 l0 (x3_1 ++ [(⟨(Xa l0 x4_1).f0, y653, y660, (y663 ++ ((Xa l0 x4_1).f3))⟩ : S30)]) (wrap64 (x4_1 + 1))) else (none)) else (none))) = some r := by first | (rw [hy660]; with_reducible exact H) | (have H2_ := (Option.bind_some _ _).symm.trans H; rw [hy660]; with_reducible exact H2_) | (have H2_ := (Option.bind_some _ _).symm.trans H; with_reducible exact H2_) | with_reducible exact H | (rw [hy660]; exact H) | exact H
   have Ny660 := zq hy660
   clear hy660
   refine yl H ?_; clear H; rintro y663 Ny663 H
   refine yi H ?_; clear H; intro c6 H
   have LMc6 := zq c6
   clear c6
   obtain ⟨y667, hy667⟩ : ∃ y_ : List (S38), y_ = (y663 ++ ((Xa l0 x4_1).f3)) := ⟨_, rfl⟩
   replace H : (if x3_1.length < 1759218604441 then (deckleref10_Copy.l0 k1 l0 (x3_1 ++ [(⟨(Xa l0 x4_1).f0, y653, y660, y667⟩ : S30)]) (wrap64 (x4_1 + 1))) else (none)) = some r := by first | (rw [hy667]; with_reducible exact H) | (have H2_ := (Option.bind_some _ _).symm.trans H; rw [hy667]; with_reducible exact H2_) | (have H2_ := (Option.bind_some _ _).symm.trans H; with_reducible exact H2_) | with_reducible exact H | (rw [hy667]; exact H) | exact H
   have Ny667 := zq hy667
   clear hy667
   refine yi H ?_; clear H; intro c7 H
   have LMc7 := zq c7
   clear c7
   obtain ⟨y670, hy670⟩ : ∃ y_ : List (S30), y_ = (x3_1 ++ [(⟨(Xa l0 x4_1).f0, y653, y660, y667⟩ : S30)]) := ⟨_, rfl⟩
   replace H : (deckleref10_Copy.l0 k1 l0 y670 (wrap64 (x4_1 + 1))) = some r := by first | (rw [hy670]; with_reducible exact H) | (have H2_ := (Option.bind_some _ _).symm.trans H; rw [hy670]; with_reducible exact H2_) | (have H2_ := (Option.bind_some _ _).symm.trans H; with_reducible exact H2_) | with_reducible exact H | (rw [hy670]; exact H) | exact H
   have Ny670 := zq hy670
   clear hy670
   have H' := zq H
   clear H
   obtain ⟨Ao8, co8, eo8⟩ := bX HO_3.out
   subst eo8
   try go_wp2
   replace HO_3 := zq (bh HO_3.out)
   replace HB := zq (X9 HB.out)
   have p648 : 0 ≤ (x4_1 : Int) := of_decide_eq_true J2
   have q648 : x4_1 < (l0.length : Int) := of_decide_eq_true J2
   obtain ⟨ad648, A648_1, c648_1, A648_2, c648_2, A648_3, c648_3, e648, hx648_0, hx648_1, hx648_2, hx648_3, hl648_1, hi648_1, hl648_2, hi648_2, hl648_3, hi648_3⟩ := Xb4 HR0.out x4_1 p648 q648
   have hw648_3 := hx648_3
   have hw648_2 := hx648_2
   have hw648_1 := hx648_1
   have hw648_0 := hx648_0
   cases e648
   replace hx648_0 := yh HB hx648_0
   replace hx648_1 := yh HB hx648_1
   replace hx648_2 := yh HB hx648_2
   replace hx648_3 := yh HB hx648_3
   have HR648_1 := zq hi648_1
   have HC648_1 := zq hl648_1
   clear hi648_1 hl648_1
   have HR648_2 := zq hi648_2
   have HC648_2 := zq hl648_2
   clear hi648_2 hl648_2
   have HR648_3 := zq hi648_3
   have HC648_3 := zq hl648_3
   clear hi648_3 hl648_3
   replace p648 := eq_true p648
   replace q648 := eq_true q648
   refine Xdb (n := 31) (S := fun w' => hdEN w' (ad648.add ((x4_1).toNat * 4)) (Xa l0 x4_1) A648_1 c648_1 A648_2 c648_2 A648_3 c648_3) (ds := []) #[Z,Z,Z,Z,Z,Z,Z,Z,Z,Z,Z,Z,Z,Z,Z,Z,Z,Z,Z,Z,Z,Z,Z,Z,Z,Z,Z,Z,Z,Z,Z] J17 rfl rfl ⟨(yh HB hw648_0), (yh HB hw648_1), (yh HB hw648_2), (yh HB hw648_3)⟩ (fun hHeld => ?_); refine Xb9 deckleref10_Copy.tab5 deckleref10_Copy.bits5 (fun HT_ HW_ => ?_)
   generalize wr.drew = w9 at HO_3 HB HR648_1 HR648_2 HR648_3 hx648_0 hx648_1 hx648_2 hx648_3 hHeld ⊢
   refine Xax 0 11 #[Y,Z,Z,Z,Z,Z,Z,Z,Z,Z,Z,Z,Z,Z,Z,Z,Z,Z,Z,Z,Z,Z,Z,Z,Z,Z,Z,Z,Z,Z,Z] HT_ ?_
   refine Xax 1 12 #[Y,Y,Z,Z,Z,Z,Z,Z,Z,Z,Z,Z,Z,Z,Z,Z,Z,Z,Z,Z,Z,Z,Z,Z,Z,Z,Z,Z,Z,Z,Z] HT_ ?_
   refine Xax 2 13 #[Y,Y,Y,Z,Z,Z,Z,Z,Z,Z,Z,Z,Z,Z,Z,Z,Z,Z,Z,Z,Z,Z,Z,Z,Z,Z,Z,Z,Z,Z,Z] HT_ ?_
   refine Xax 3 14 #[Y,Y,Y,Y,Z,Z,Z,Z,Z,Z,Z,Z,Z,Z,Z,Z,Z,Z,Z,Z,Z,Z,Z,Z,Z,Z,Z,Z,Z,Z,Z] HT_ ?_
   refine Xax 4 15 #[Y,Y,Y,Y,Y,Z,Z,Z,Z,Z,Z,Z,Z,Z,Z,Z,Z,Z,Z,Z,Z,Z,Z,Z,Z,Z,Z,Z,Z,Z,Z] HT_ ?_
   refine Xax 7 18 #[Y,Y,Y,Y,Y,Z,Z,Y,Z,Z,Z,Z,Z,Z,Z,Z,Z,Z,Z,Z,Z,Z,Z,Z,Z,Z,Z,Z,Z,Z,Z] HT_ ?_
   refine Xax 8 19 #[Y,Y,Y,Y,Y,Z,Z,Y,Y,Z,Z,Z,Z,Z,Z,Z,Z,Z,Z,Z,Z,Z,Z,Z,Z,Z,Z,Z,Z,Z,Z] HT_ ?_
   refine Xax 9 20 #[Y,Y,Y,Y,Y,Z,Z,Y,Y,Y,Z,Z,Z,Z,Z,Z,Z,Z,Z,Z,Z,Z,Z,Z,Z,Z,Z,Z,Z,Z,Z] HT_ ?_
   refine Xax 10 21 #[Y,Y,Y,Y,Y,Z,Z,Y,Y,Y,Y,Z,Z,Z,Z,Z,Z,Z,Z,Z,Z,Z,Z,Z,Z,Z,Z,Z,Z,Z,Z] HT_ ?_
   refine Xax 14 25 #[Y,Y,Y,Y,Y,Z,Z,Y,Y,Y,Y,Z,Z,Z,Y,Z,Z,Z,Z,Z,Z,Z,Z,Z,Z,Z,Z,Z,Z,Z,Z] HT_ ?_
   refine Xax 15 26 #[Y,Y,Y,Y,Y,Z,Z,Y,Y,Y,Y,Z,Z,Z,Y,Y,Z,Z,Z,Z,Z,Z,Z,Z,Z,Z,Z,Z,Z,Z,Z] HT_ ?_
   refine Xax 16 27 #[Y,Y,Y,Y,Y,Z,Z,Y,Y,Y,Y,Z,Z,Z,Y,Y,Y,Z,Z,Z,Z,Z,Z,Z,Z,Z,Z,Z,Z,Z,Z] HT_ ?_
   refine Xax 17 28 #[Y,Y,Y,Y,Y,Z,Z,Y,Y,Y,Y,Z,Z,Z,Y,Y,Y,Y,Z,Z,Z,Z,Z,Z,Z,Z,Z,Z,Z,Z,Z] HT_ ?_
   refine Xax 21 32 #[Y,Y,Y,Y,Y,Z,Z,Y,Y,Y,Y,Z,Z,Z,Y,Y,Y,Y,Z,Z,Z,Y,Z,Z,Z,Z,Z,Z,Z,Z,Z] HT_ ?_
   refine Xax 22 33 #[Y,Y,Y,Y,Y,Z,Z,Y,Y,Y,Y,Z,Z,Z,Y,Y,Y,Y,Z,Z,Z,Y,Y,Z,Z,Z,Z,Z,Z,Z,Z] HT_ ?_
   refine Xax 23 34 #[Y,Y,Y,Y,Y,Z,Z,Y,Y,Y,Y,Z,Z,Z,Y,Y,Y,Y,Z,Z,Z,Y,Y,Y,Z,Z,Z,Z,Z,Z,Z] HT_ ?_
   refine Xax 24 35 #[Y,Y,Y,Y,Y,Z,Z,Y,Y,Y,Y,Z,Z,Z,Y,Y,Y,Y,Z,Z,Z,Y,Y,Y,Y,Z,Z,Z,Z,Z,Z] HT_ ?_
   refine Xcq (i := 5) (N := some 16) (v := ?_) (a' := ?_) #[Y,Y,Y,Y,Y,Y,Z,Y,Y,Y,Y,Z,Z,Z,Y,Y,Y,Y,Z,Z,Z,Y,Y,Y,Y,Z,Z,Z,Z,Z,Z] rfl rfl (Xbw HT_.out HW_.out J17) (fun _ _ _ h => h) (Or.inl ⟨J63, ?_⟩) hHeld ?_ ?_
   rotate_left
   ·rintro w' ⟨s0, s1, s2, s3⟩
    go_simp
    with_reducible rfl
   rotate_left
   ·exact pz1
   refine Xcq (i := 11) (N := some 22) (v := ?_) (a' := ?_) #[Y,Y,Y,Y,Y,Y,Z,Y,Y,Y,Y,Y,Z,Z,Y,Y,Y,Y,Z,Z,Z,Y,Y,Y,Y,Z,Z,Z,Z,Z,Z] rfl rfl (Xbw HT_.out HW_.out J17) (fun _ _ _ h => h) (Or.inl ⟨J63, ?_⟩) hHeld ?_ ?_
   rotate_left
   ·rintro w' ⟨s0, s1, s2, s3⟩
    go_simp
    with_reducible rfl
   rotate_left
   ·exact pz1
   refine Xcq (i := 18) (N := some 29) (v := ?_) (a' := ?_) #[Y,Y,Y,Y,Y,Y,Z,Y,Y,Y,Y,Y,Z,Z,Y,Y,Y,Y,Y,Z,Z,Y,Y,Y,Y,Z,Z,Z,Z,Z,Z] rfl rfl (Xbw HT_.out HW_.out J17) (fun _ _ _ h => h) (Or.inl ⟨J63, ?_⟩) hHeld ?_ ?_
   rotate_left
   ·rintro w' ⟨s0, s1, s2, s3⟩
    go_simp
    with_reducible rfl
   rotate_left
   ·exact pz1
   refine Xcq (i := 25) (N := some 36) (v := ?_) (a' := ?_) #[Y,Y,Y,Y,Y,Y,Z,Y,Y,Y,Y,Y,Z,Z,Y,Y,Y,Y,Y,Z,Z,Y,Y,Y,Y,Y,Z,Z,Z,Z,Z] rfl rfl (Xbw HT_.out HW_.out J17) (fun _ _ _ h => h) (Or.inl ⟨J63, ?_⟩) hHeld ?_ ?_
   rotate_left
   ·rintro w' ⟨s0, s1, s2, s3⟩
    go_simp
    with_reducible rfl
   rotate_left
   ·exact pz1
   refine Xc2 (σ := Value × Value × Value × Value × Value) 5 #[Y,Y,Y,Y,Y,Y,Y,Y,Y,Y,Y,Y,Y,Y,Y,Y,Y,Y,Y,Y,Y,Y,Y,Y,Y,Y,Z,Z,Z,Z,Z] (fun s_ => [(17, s_.1), (23, s_.2.1), (24, s_.2.2.1), (30, s_.2.2.2.1), (31, s_.2.2.2.2)]) (fun s_ w' => (hdEN w' (ad648.add ((x4_1).toNat * 4)) (Xa l0 x4_1) A648_1 c648_1 A648_2 c648_2 A648_3 c648_3) ∧ (Kd.R (Kd.int .i64) 3 w' w.heap.size (fun k_ => some k_ ≠ (s_.2.2.2.1 : Value).ownBlock) s_.2.1 y653) ∧ (Kd.R (Kd.int .i64) 3 w' w.heap.size (fun k_ => some k_ ≠ (s_.2.1 : Value).ownBlock) s_.2.2.2.1 y660) ∧ (Kd.R k38 38 w' w.heap.size (fun _ => True) s_.2.2.2.2 y663) ∧ (Kd.S k30 30 w' w.heap.size (fun k_ => some k_ ≠ (s_.2.1 : Value).ownBlock ∧ some k_ ≠ (s_.2.2.2.1 : Value).ownBlock ∧ some k_ ≠ (s_.2.2.2.2 : Value).ownBlock) (.slice Ao8 x3_1.length co8) x3_1) ∧ (Below w.heap.size w w')) ?_ ?_
   rotate_left
   ·intro hJ6_12_13_19_20
    refine Xc2 (σ := Value × Value × Value × Value) 6 #[Y,Y,Y,Y,Y,Y,Y,Y,Y,Y,Y,Y,Y,Y,Y,Y,Y,Y,Y,Y,Z,Y,Y,Y,Y,Y,Z,Z,Z,Z,Z] (fun s_ => [(17, s_.1), (23, s_.2.1), (24, s_.2.2.1), (30, s_.2.2.2)]) (fun s_ w' => (hdEN w' (ad648.add ((x4_1).toNat * 4)) (Xa l0 x4_1) A648_1 c648_1 A648_2 c648_2 A648_3 c648_3) ∧ (Kd.R (Kd.int .i64) 3 w' w.heap.size (fun k_ => some k_ ≠ (s_.2.2.2 : Value).ownBlock) s_.2.1 y653) ∧ (Kd.R (Kd.int .i64) 3 w' w.heap.size (fun k_ => some k_ ≠ (s_.2.1 : Value).ownBlock) s_.2.2.2 y660) ∧ (Kd.S k30 30 w' w.heap.size (fun k_ => some k_ ≠ (s_.2.1 : Value).ownBlock ∧ some k_ ≠ (s_.2.2.2 : Value).ownBlock) (.slice Ao8 x3_1.length co8) x3_1) ∧ (Below w.heap.size w w')) ?_ ?_
    rotate_left
    ·intro hJ6_12_13_19
     refine Xc2 (σ := Value × Value × Value × Value) 6 #[Y,Y,Y,Y,Y,Y,Y,Y,Y,Y,Y,Y,Y,Y,Y,Y,Y,Y,Y,Z,Y,Y,Y,Y,Y,Y,Z,Z,Z,Z,Z] (fun s_ => [(17, s_.1), (23, s_.2.1), (24, s_.2.2.1), (31, s_.2.2.2)]) (fun s_ w' => (hdEN w' (ad648.add ((x4_1).toNat * 4)) (Xa l0 x4_1) A648_1 c648_1 A648_2 c648_2 A648_3 c648_3) ∧ (Kd.R (Kd.int .i64) 3 w' w.heap.size (fun k_ => some k_ ≠ (s_.2.2.1 : Value).ownBlock) s_.2.1 y653) ∧ (Kd.R (Kd.int .i64) 3 w' w.heap.size (fun k_ => some k_ ≠ (s_.2.1 : Value).ownBlock) s_.2.2.1 y656) ∧ (Kd.R k38 38 w' w.heap.size (fun _ => True) s_.2.2.2 y663) ∧ (Kd.S k30 30 w' w.heap.size (fun k_ => some k_ ≠ (s_.2.1 : Value).ownBlock ∧ some k_ ≠ (s_.2.2.1 : Value).ownBlock ∧ some k_ ≠ (s_.2.2.2 : Value).ownBlock) (.slice Ao8 x3_1.length co8) x3_1) ∧ (Below w.heap.size w w')) ?_ ?_
     rotate_left
     ·intro hJ6_12_13_20
      refine Xc2 (σ := Value × Value × Value) 7 #[Y,Y,Y,Y,Y,Y,Y,Y,Y,Y,Y,Y,Y,Y,Y,Y,Y,Y,Y,Z,Z,Y,Y,Y,Y,Y,Z,Z,Z,Z,Z] (fun s_ => [(17, s_.1), (23, s_.2.1), (24, s_.2.2)]) (fun s_ w' => (hdEN w' (ad648.add ((x4_1).toNat * 4)) (Xa l0 x4_1) A648_1 c648_1 A648_2 c648_2 A648_3 c648_3) ∧ (Kd.R (Kd.int .i64) 3 w' w.heap.size (fun k_ => some k_ ≠ (s_.2.2 : Value).ownBlock) s_.2.1 y653) ∧ (Kd.R (Kd.int .i64) 3 w' w.heap.size (fun k_ => some k_ ≠ (s_.2.1 : Value).ownBlock) s_.2.2 y656) ∧ (Kd.S k30 30 w' w.heap.size (fun k_ => some k_ ≠ (s_.2.1 : Value).ownBlock ∧ some k_ ≠ (s_.2.2 : Value).ownBlock) (.slice Ao8 x3_1.length co8) x3_1) ∧ (Below w.heap.size w w')) ?_ ?_
      rotate_left
      ·intro hJ6_12_13
       refine Xc2 (σ := Value × Value × Value) 7 #[Y,Y,Y,Y,Y,Y,Y,Y,Y,Y,Y,Y,Y,Z,Y,Y,Y,Y,Y,Z,Y,Y,Y,Y,Y,Y,Z,Z,Z,Z,Z] (fun s_ => [(17, s_.1), (23, s_.2.1), (31, s_.2.2)]) (fun s_ w' => (hdEN w' (ad648.add ((x4_1).toNat * 4)) (Xa l0 x4_1) A648_1 c648_1 A648_2 c648_2 A648_3 c648_3) ∧ (Kd.R (Kd.int .i64) 3 w' w.heap.size (fun _ => True) s_.2.1 y653) ∧ (Kd.R k38 38 w' w.heap.size (fun _ => True) s_.2.2 y663) ∧ (Kd.S k30 30 w' w.heap.size (fun k_ => some k_ ≠ (s_.2.1 : Value).ownBlock ∧ some k_ ≠ (s_.2.2 : Value).ownBlock) (.slice Ao8 x3_1.length co8) x3_1) ∧ (Below w.heap.size w w')) ?_ ?_
       rotate_left
       ·intro hJ6_12_20
        refine Xc2 (σ := Value × Value × Value) 7 #[Y,Y,Y,Y,Y,Y,Y,Y,Y,Y,Y,Y,Z,Y,Y,Y,Y,Y,Y,Z,Y,Y,Y,Y,Y,Y,Z,Z,Z,Z,Z] (fun s_ => [(17, s_.1), (24, s_.2.1), (31, s_.2.2)]) (fun s_ w' => (hdEN w' (ad648.add ((x4_1).toNat * 4)) (Xa l0 x4_1) A648_1 c648_1 A648_2 c648_2 A648_3 c648_3) ∧ (Kd.R (Kd.int .i64) 3 w' w.heap.size (fun k_ => some k_ ≠ (s_.2.1 : Value).ownBlock) s_.1 y649) ∧ (Kd.R (Kd.int .i64) 3 w' w.heap.size (fun k_ => some k_ ≠ (s_.1 : Value).ownBlock) s_.2.1 y656) ∧ (Kd.R k38 38 w' w.heap.size (fun _ => True) s_.2.2 y663) ∧ (Kd.S k30 30 w' w.heap.size (fun k_ => some k_ ≠ (s_.1 : Value).ownBlock ∧ some k_ ≠ (s_.2.1 : Value).ownBlock ∧ some k_ ≠ (s_.2.2 : Value).ownBlock) (.slice Ao8 x3_1.length co8) x3_1) ∧ (Below w.heap.size w w')) ?_ ?_
        rotate_left
        ·intro hJ6_13_20
         refine Xc2 (σ := Value × Value) 8 #[Y,Y,Y,Y,Y,Y,Y,Y,Y,Y,Y,Y,Y,Z,Y,Y,Y,Y,Y,Z,Z,Y,Y,Y,Y,Y,Z,Z,Z,Z,Z] (fun s_ => [(17, s_.1), (23, s_.2)]) (fun s_ w' => (hdEN w' (ad648.add ((x4_1).toNat * 4)) (Xa l0 x4_1) A648_1 c648_1 A648_2 c648_2 A648_3 c648_3) ∧ (Kd.R (Kd.int .i64) 3 w' w.heap.size (fun _ => True) s_.2 y653) ∧ (Kd.S k30 30 w' w.heap.size (fun k_ => some k_ ≠ (s_.2 : Value).ownBlock) (.slice Ao8 x3_1.length co8) x3_1) ∧ (Below w.heap.size w w')) ?_ ?_
         rotate_left
         ·intro hJ6_12
          refine Xc2 (σ := Value × Value) 8 #[Y,Y,Y,Y,Y,Y,Y,Y,Y,Y,Y,Y,Z,Y,Y,Y,Y,Y,Y,Z,Z,Y,Y,Y,Y,Y,Z,Z,Z,Z,Z] (fun s_ => [(17, s_.1), (24, s_.2)]) (fun s_ w' => (hdEN w' (ad648.add ((x4_1).toNat * 4)) (Xa l0 x4_1) A648_1 c648_1 A648_2 c648_2 A648_3 c648_3) ∧ (Kd.R (Kd.int .i64) 3 w' w.heap.size (fun k_ => some k_ ≠ (s_.2 : Value).ownBlock) s_.1 y649) ∧ (Kd.R (Kd.int .i64) 3 w' w.heap.size (fun k_ => some k_ ≠ (s_.1 : Value).ownBlock) s_.2 y656) ∧ (Kd.S k30 30 w' w.heap.size (fun k_ => some k_ ≠ (s_.1 : Value).ownBlock ∧ some k_ ≠ (s_.2 : Value).ownBlock) (.slice Ao8 x3_1.length co8) x3_1) ∧ (Below w.heap.size w w')) ?_ ?_
          rotate_left
          ·intro hJ6_13
           refine Xc2 (σ := Value × Value) 8 #[Y,Y,Y,Y,Y,Y,Y,Y,Y,Y,Y,Y,Z,Z,Y,Y,Y,Y,Y,Z,Y,Y,Y,Y,Y,Y,Z,Z,Z,Z,Z] (fun s_ => [(17, s_.1), (31, s_.2)]) (fun s_ w' => (hdEN w' (ad648.add ((x4_1).toNat * 4)) (Xa l0 x4_1) A648_1 c648_1 A648_2 c648_2 A648_3 c648_3) ∧ (Kd.R (Kd.int .i64) 3 w' w.heap.size (fun _ => True) s_.1 y649) ∧ (Kd.R k38 38 w' w.heap.size (fun _ => True) s_.2 y663) ∧ (Kd.S k30 30 w' w.heap.size (fun k_ => some k_ ≠ (s_.1 : Value).ownBlock ∧ some k_ ≠ (s_.2 : Value).ownBlock) (.slice Ao8 x3_1.length co8) x3_1) ∧ (Below w.heap.size w w')) ?_ ?_
           rotate_left
           ·intro hJ6_20
            refine Xc2 (σ := Value × Value) 8 #[Y,Y,Y,Y,Y,Y,Z,Y,Y,Y,Y,Y,Z,Y,Y,Y,Y,Y,Y,Z,Y,Y,Y,Y,Y,Y,Z,Z,Z,Z,Z] (fun s_ => [(24, s_.1), (31, s_.2)]) (fun s_ w' => (hdEN w' (ad648.add ((x4_1).toNat * 4)) (Xa l0 x4_1) A648_1 c648_1 A648_2 c648_2 A648_3 c648_3) ∧ (Kd.R (Kd.int .i64) 3 w' w.heap.size (fun _ => True) s_.1 y656) ∧ (Kd.R k38 38 w' w.heap.size (fun _ => True) s_.2 y663) ∧ (Kd.S k30 30 w' w.heap.size (fun k_ => some k_ ≠ (s_.1 : Value).ownBlock ∧ some k_ ≠ (s_.2 : Value).ownBlock) (.slice Ao8 x3_1.length co8) x3_1) ∧ (Below w.heap.size w w')) ?_ ?_
            rotate_left
            ·intro hJ13_20
             refine Xc2 (σ := Value) 9 #[Y,Y,Y,Y,Y,Y,Y,Y,Y,Y,Y,Y,Z,Z,Y,Y,Y,Y,Y,Z,Z,Y,Y,Y,Y,Y,Z,Z,Z,Z,Z] (fun s_ => [(17, s_)]) (fun s_ w' => (hdEN w' (ad648.add ((x4_1).toNat * 4)) (Xa l0 x4_1) A648_1 c648_1 A648_2 c648_2 A648_3 c648_3) ∧ (Kd.R (Kd.int .i64) 3 w' w.heap.size (fun _ => True) s_ y649) ∧ (Kd.S k30 30 w' w.heap.size (fun k_ => some k_ ≠ (s_ : Value).ownBlock) (.slice Ao8 x3_1.length co8) x3_1) ∧ (Below w.heap.size w w')) ?_ ?_
             rotate_left
             ·intro hJ6
              refine Xc2 (σ := Value) 9 #[Y,Y,Y,Y,Y,Y,Z,Y,Y,Y,Y,Y,Z,Y,Y,Y,Y,Y,Y,Z,Z,Y,Y,Y,Y,Y,Z,Z,Z,Z,Z] (fun s_ => [(24, s_)]) (fun s_ w' => (hdEN w' (ad648.add ((x4_1).toNat * 4)) (Xa l0 x4_1) A648_1 c648_1 A648_2 c648_2 A648_3 c648_3) ∧ (Kd.R (Kd.int .i64) 3 w' w.heap.size (fun _ => True) s_ y656) ∧ (Kd.S k30 30 w' w.heap.size (fun k_ => some k_ ≠ (s_ : Value).ownBlock) (.slice Ao8 x3_1.length co8) x3_1) ∧ (Below w.heap.size w w')) ?_ ?_
              rotate_left
              ·intro hJ13
               refine Xc2 (σ := Value) 9 #[Y,Y,Y,Y,Y,Y,Z,Y,Y,Y,Y,Y,Z,Z,Y,Y,Y,Y,Y,Z,Y,Y,Y,Y,Y,Y,Z,Z,Z,Z,Z] (fun s_ => [(31, s_)]) (fun s_ w' => (hdEN w' (ad648.add ((x4_1).toNat * 4)) (Xa l0 x4_1) A648_1 c648_1 A648_2 c648_2 A648_3 c648_3) ∧ (Kd.R k38 38 w' w.heap.size (fun _ => True) s_ y663) ∧ (Kd.S k30 30 w' w.heap.size (fun k_ => some k_ ≠ (s_ : Value).ownBlock) (.slice Ao8 x3_1.length co8) x3_1) ∧ (Below w.heap.size w w')) ?_ ?_
               rotate_left
               ·intro hJ20
                refine three_ (i := 6) (j := 13) (k := 20) (Ni := some 17) (Nj := some 24) (Nk := some 31) #[Y,Y,Y,Y,Y,Y,Y,Y,Y,Y,Y,Y,Z,Z,Y,Y,Y,Y,Y,Z,Z,Y,Y,Y,Y,Y,Z,Z,Z,Z,Z] #[Y,Y,Y,Y,Y,Y,Z,Y,Y,Y,Y,Y,Z,Y,Y,Y,Y,Y,Y,Z,Z,Y,Y,Y,Y,Y,Z,Z,Z,Z,Z] #[Y,Y,Y,Y,Y,Y,Z,Y,Y,Y,Y,Y,Z,Z,Y,Y,Y,Y,Y,Z,Y,Y,Y,Y,Y,Y,Z,Z,Z,Z,Z] rfl rfl rfl rfl rfl rfl (three_of HT_.out J17) J14 J14 J14 (fun K hK => ?_) (fun K hK => ?_) (fun K hK => ?_)
                ·skip
                 refine aM (Kd.int .i64) _ 3 ?hg (N := 17) ?hd (xs := ([] : List Int)) (inner := []) (ok := fun _ => True) (okp := fun _ => True) ?hr ?hp (fun _ hk => hk) trivial (Below.refl _ _) (Nat.le_refl _) J83 ?_; (case hd => rfl); (case hg => rfl); (case hr => first | (go_simp; done) | (go_simp; rfl)); (case hp => exact (Reps.none _ _))
                 intro v650 w10 ho11 hb hg_ hnew_
                 clear hg_ hnew_
                 (first | rw [← Ny649.out] at ho11 | (simp only [Int.reduceToNat] at ho11; rw [← Ny649.out] at ho11))
                 replace HO_3 := zq (a8 (zs HO_3.out) (aa ho11) hb)
                 have HO651 := zq (ag ho11 (Xc J0))
                 replace HB := zq (Xe J0 hb)
                 clear hb ho11
                 refine hK.out _ _ ⟨(yh HB hw648_0), (yh HB hw648_1), (yh HB hw648_2), (yh HB hw648_3)⟩ (fun hHeld => ?_)
                 clear hK K
                 refine Xap (a' := ?_) ?_ ?_
                 rotate_left
                 ·show Act.put _ (some 17) _ = _
                  simp only [Act.put, List.setIfInBounds_toArray, List.set_cons_zero, List.set_cons_succ, Xan, Xaq]
                  rfl
                 exact Xap J7 (hJ6 (v650) _ ⟨hHeld, (zr HO651.out), J88, J0⟩)
                ·skip
                 refine aM (Kd.int .i64) _ 3 ?hg (N := 24) ?hd (xs := ([] : List Int)) (inner := []) (ok := fun _ => True) (okp := fun _ => True) ?hr ?hp (fun _ hk => hk) trivial (Below.refl _ _) (Nat.le_refl _) J83 ?_; (case hd => rfl); (case hg => rfl); (case hr => first | (go_simp; done) | (go_simp; rfl)); (case hp => exact (Reps.none _ _))
                 intro v657 w10 ho11 hb hg_ hnew_
                 clear hg_ hnew_
                 (first | rw [← Ny656.out] at ho11 | (simp only [Int.reduceToNat] at ho11; rw [← Ny656.out] at ho11))
                 replace HO_3 := zq (a8 (zs HO_3.out) (aa ho11) hb)
                 have HO658 := zq (ag ho11 (Xc J0))
                 replace HB := zq (Xe J0 hb)
                 clear hb ho11
                 refine hK.out _ _ ⟨(yh HB hw648_0), (yh HB hw648_1), (yh HB hw648_2), (yh HB hw648_3)⟩ (fun hHeld => ?_)
                 clear hK K
                 refine Xap (a' := ?_) ?_ ?_
                 rotate_left
                 ·show Act.put _ (some 24) _ = _
                  simp only [Act.put, List.setIfInBounds_toArray, List.set_cons_zero, List.set_cons_succ, Xan, Xaq]
                  rfl
                 exact Xap J7 (hJ13 (v657) _ ⟨hHeld, (zr HO658.out), J88, J0⟩)
                ·skip
                 refine aM k38 _ 38 ?hg (N := 31) ?hd (xs := ([] : List (S38))) (inner := []) (ok := fun _ => True) (okp := fun _ => True) ?hr ?hp (fun _ hk => hk) trivial (Below.refl _ _) (Nat.le_refl _) J83 ?_; (case hd => rfl); (case hg => rfl); (case hr => first | (go_simp; done) | (go_simp; rfl)); (case hp => exact (Reps.none _ _))
                 intro v664 w10 ho11 hb hg_ hnew_
                 clear hg_ hnew_
                 (first | rw [← Ny663.out] at ho11 | (simp only [Int.reduceToNat] at ho11; rw [← Ny663.out] at ho11))
                 replace HO_3 := zq (a8 (zs HO_3.out) (aa ho11) hb)
                 have HO665 := zq (ag ho11 (Xc J0))
                 replace HB := zq (Xe J0 hb)
                 clear hb ho11
                 refine hK.out _ _ ⟨(yh HB hw648_0), (yh HB hw648_1), (yh HB hw648_2), (yh HB hw648_3)⟩ (fun hHeld => ?_)
                 clear hK K
                 refine Xap (a' := ?_) ?_ ?_
                 rotate_left
                 ·show Act.put _ (some 31) _ = _
                  simp only [Act.put, List.setIfInBounds_toArray, List.set_cons_zero, List.set_cons_succ, Xan, Xaq]
                  rfl
                 exact Xap J7 (hJ20 (v664) _ ⟨hHeld, (zr HO665.out), J88, J0⟩)
               ·skip
                clear HO_3 HB
                rintro v664 w12 ⟨hHeld, HO665, HO_3, HB⟩
                try dsimp only at hHeld HO665 HO_3 HB
                replace HO665 := zq HO665
                replace HO_3 := zq HO_3
                replace HB := zq HB
                refine Xap (a' := ?_) ?_ ?_
                rotate_left
                ·simp only [Xb6, Act.put, List.setIfInBounds_toArray, List.set_cons_zero, List.set_cons_succ]
                 rfl
                refine two_ (i := 6) (j := 13) (Ni := some 17) (Nj := some 24) #[Y,Y,Y,Y,Y,Y,Y,Y,Y,Y,Y,Y,Z,Z,Y,Y,Y,Y,Y,Z,Y,Y,Y,Y,Y,Y,Z,Z,Z,Z,Z] #[Y,Y,Y,Y,Y,Y,Z,Y,Y,Y,Y,Y,Z,Y,Y,Y,Y,Y,Y,Z,Y,Y,Y,Y,Y,Y,Z,Z,Z,Z,Z] rfl rfl rfl rfl (Xda HT_.out J17) J14 J14 (fun K hK => ?_) (fun K hK => ?_)
                ·skip
                 refine aM (Kd.int .i64) _ 3 ?hg (N := 17) ?hd (xs := ([] : List Int)) (inner := []) (ok := fun _ => True) (okp := fun _ => True) ?hr ?hp (fun _ hk => hk) trivial (Below.refl _ _) (Nat.le_refl _) J83 ?_; (case hd => rfl); (case hg => rfl); (case hr => first | (go_simp; done) | (go_simp; rfl)); (case hp => exact (Reps.none _ _))
                 intro v650 w13 ho14 hb hg_ hnew_
                 clear hg_ hnew_
                 (first | rw [← Ny649.out] at ho14 | (simp only [Int.reduceToNat] at ho14; rw [← Ny649.out] at ho14))
                 replace HO_3 := zq (a8 (zs HO_3.out) (aa ho14) hb)
                 replace HO665 := zq (ab (zr HO665.out) hb)
                 have HO651 := zq (ag ho14 (Xc J0))
                 replace HB := zq (Xe J0 hb)
                 clear hb ho14
                 refine hK.out _ _ ⟨(yh HB hw648_0), (yh HB hw648_1), (yh HB hw648_2), (yh HB hw648_3)⟩ (fun hHeld => ?_)
                 clear hK K
                 refine Xap (a' := ?_) ?_ ?_
                 rotate_left
                 ·show Act.put _ (some 17) _ = _
                  simp only [Act.put, List.setIfInBounds_toArray, List.set_cons_zero, List.set_cons_succ, Xan, Xaq]
                  rfl
                 exact Xap J7 (hJ6_20 (v650, v664) _ ⟨hHeld, (zr HO651.out), (zr HO665.out), J40, J0⟩)
                ·skip
                 refine aM (Kd.int .i64) _ 3 ?hg (N := 24) ?hd (xs := ([] : List Int)) (inner := []) (ok := fun _ => True) (okp := fun _ => True) ?hr ?hp (fun _ hk => hk) trivial (Below.refl _ _) (Nat.le_refl _) J83 ?_; (case hd => rfl); (case hg => rfl); (case hr => first | (go_simp; done) | (go_simp; rfl)); (case hp => exact (Reps.none _ _))
                 intro v657 w13 ho14 hb hg_ hnew_
                 clear hg_ hnew_
                 (first | rw [← Ny656.out] at ho14 | (simp only [Int.reduceToNat] at ho14; rw [← Ny656.out] at ho14))
                 replace HO_3 := zq (a8 (zs HO_3.out) (aa ho14) hb)
                 replace HO665 := zq (ab (zr HO665.out) hb)
                 have HO658 := zq (ag ho14 (Xc J0))
                 replace HB := zq (Xe J0 hb)
                 clear hb ho14
                 refine hK.out _ _ ⟨(yh HB hw648_0), (yh HB hw648_1), (yh HB hw648_2), (yh HB hw648_3)⟩ (fun hHeld => ?_)
                 clear hK K
                 refine Xap (a' := ?_) ?_ ?_
                 rotate_left
                 ·show Act.put _ (some 24) _ = _
                  simp only [Act.put, List.setIfInBounds_toArray, List.set_cons_zero, List.set_cons_succ, Xan, Xaq]
                  rfl
                 exact Xap J7 (hJ13_20 (v657, v664) _ ⟨hHeld, (zr HO658.out), (zr HO665.out), J40, J0⟩)
              ·skip
               clear HO_3 HB
               rintro v657 w12 ⟨hHeld, HO658, HO_3, HB⟩
               try dsimp only at hHeld HO658 HO_3 HB
               replace HO658 := zq HO658
               replace HO_3 := zq HO_3
               replace HB := zq HB
               refine Xap (a' := ?_) ?_ ?_
               rotate_left
               ·simp only [Xb6, Act.put, List.setIfInBounds_toArray, List.set_cons_zero, List.set_cons_succ]
                rfl
               refine two_ (i := 6) (j := 20) (Ni := some 17) (Nj := some 31) #[Y,Y,Y,Y,Y,Y,Y,Y,Y,Y,Y,Y,Z,Y,Y,Y,Y,Y,Y,Z,Z,Y,Y,Y,Y,Y,Z,Z,Z,Z,Z] #[Y,Y,Y,Y,Y,Y,Z,Y,Y,Y,Y,Y,Z,Y,Y,Y,Y,Y,Y,Z,Y,Y,Y,Y,Y,Y,Z,Z,Z,Z,Z] rfl rfl rfl rfl (Xda HT_.out J17) J14 J14 (fun K hK => ?_) (fun K hK => ?_)
               ·skip
                refine aM (Kd.int .i64) _ 3 ?hg (N := 17) ?hd (xs := ([] : List Int)) (inner := []) (ok := fun _ => True) (okp := fun _ => True) ?hr ?hp (fun _ hk => hk) trivial (Below.refl _ _) (Nat.le_refl _) J83 ?_; (case hd => rfl); (case hg => rfl); (case hr => first | (go_simp; done) | (go_simp; rfl)); (case hp => exact (Reps.none _ _))
                intro v650 w13 ho14 hb hg_ hnew_
                clear hg_ hnew_
                (first | rw [← Ny649.out] at ho14 | (simp only [Int.reduceToNat] at ho14; rw [← Ny649.out] at ho14))
                replace HO_3 := zq (a8 (zs HO_3.out) (aa ho14) hb)
                have HO651 := zq (ag (aW ho14 (aY (zr HO658.out))) (Xc J0))
                replace HO658 := zq (ay (zr HO658.out) (aa ho14) hb)
                replace HB := zq (Xe J0 hb)
                clear hb ho14
                refine hK.out _ _ ⟨(yh HB hw648_0), (yh HB hw648_1), (yh HB hw648_2), (yh HB hw648_3)⟩ (fun hHeld => ?_)
                clear hK K
                refine Xap (a' := ?_) ?_ ?_
                rotate_left
                ·show Act.put _ (some 17) _ = _
                 simp only [Act.put, List.setIfInBounds_toArray, List.set_cons_zero, List.set_cons_succ, Xan, Xaq]
                 rfl
                exact Xap J7 (hJ6_13 (v650, v657) _ ⟨hHeld, J86, J37, J40, J0⟩)
               ·skip
                refine aM k38 _ 38 ?hg (N := 31) ?hd (xs := ([] : List (S38))) (inner := []) (ok := fun _ => True) (okp := fun _ => True) ?hr ?hp (fun _ hk => hk) trivial (Below.refl _ _) (Nat.le_refl _) J83 ?_; (case hd => rfl); (case hg => rfl); (case hr => first | (go_simp; done) | (go_simp; rfl)); (case hp => exact (Reps.none _ _))
                intro v664 w13 ho14 hb hg_ hnew_
                clear hg_ hnew_
                (first | rw [← Ny663.out] at ho14 | (simp only [Int.reduceToNat] at ho14; rw [← Ny663.out] at ho14))
                replace HO_3 := zq (a8 (zs HO_3.out) (aa ho14) hb)
                replace HO658 := zq (ab (zr HO658.out) hb)
                have HO665 := zq (ag ho14 (Xc J0))
                replace HB := zq (Xe J0 hb)
                clear hb ho14
                refine hK.out _ _ ⟨(yh HB hw648_0), (yh HB hw648_1), (yh HB hw648_2), (yh HB hw648_3)⟩ (fun hHeld => ?_)
                clear hK K
                refine Xap (a' := ?_) ?_ ?_
                rotate_left
                ·show Act.put _ (some 31) _ = _
                 simp only [Act.put, List.setIfInBounds_toArray, List.set_cons_zero, List.set_cons_succ, Xan, Xaq]
                 rfl
                exact Xap J7 (hJ13_20 (v657, v664) _ ⟨hHeld, (zr HO658.out), (zr HO665.out), (zs HO_3.out), J0⟩)
             ·skip
              clear HO_3 HB
              rintro v650 w12 ⟨hHeld, HO651, HO_3, HB⟩
              try dsimp only at hHeld HO651 HO_3 HB
              replace HO651 := zq HO651
              replace HO_3 := zq HO_3
              replace HB := zq HB
              refine Xap (a' := ?_) ?_ ?_
              rotate_left
              ·simp only [Xb6, Act.put, List.setIfInBounds_toArray, List.set_cons_zero, List.set_cons_succ]
               rfl
              refine three_ (i := 12) (j := 13) (k := 20) (Ni := some 23) (Nj := some 24) (Nk := some 31) #[Y,Y,Y,Y,Y,Y,Y,Y,Y,Y,Y,Y,Y,Z,Y,Y,Y,Y,Y,Z,Z,Y,Y,Y,Y,Y,Z,Z,Z,Z,Z] #[Y,Y,Y,Y,Y,Y,Y,Y,Y,Y,Y,Y,Z,Y,Y,Y,Y,Y,Y,Z,Z,Y,Y,Y,Y,Y,Z,Z,Z,Z,Z] #[Y,Y,Y,Y,Y,Y,Y,Y,Y,Y,Y,Y,Z,Z,Y,Y,Y,Y,Y,Z,Y,Y,Y,Y,Y,Y,Z,Z,Z,Z,Z] rfl rfl rfl rfl rfl rfl (three_of HT_.out J17) J14 J14 J14 (fun K hK => ?_) (fun K hK => ?_) (fun K hK => ?_)
              ·skip
               refine aV (Kd.int .i64) (w0 := w) w.heap.size J63 (.tmp 17) (.tmp 22) 23 3 (.int .i64 0) 8 rfl Try.underlying23 Xcm rfl J14 J29 v650 y649 ((Xa l0 x4_1).f1) _ _ _ (fun _ => True) (fun _ => False) rfl rfl ?aO ?aR (fun _ _ h => h) (fun _ h => h.elim) ?aF ?aB ?aS ?aL ?_
               (case aR => repeat (first | exact (ac HR648_1.out HB.out) | (with_reducible refine Kd.C_alloc ?_ _) | (with_reducible refine au ?_ _) | (with_reducible refine Kd.C_drew ?_)))
               (case aB => exact J0)
               (case aF => exact (fun _ _ => trivial))
               (case aO => exact (zr HO651.out))
               (case aS => exact (Xc J0))
               (case aL => have := LMc4.out; omega)
               intro v654 w13 ho hb hg hat
               rw [← Ny653.out] at ho
               replace HO_3 := zq (bs (ok := (fun _ => True)) (by (with_reducible repeat (first | apply Kd.S_alloc | apply Kd.S_drewN | apply bh)); exact bl HO_3.out (fun _ hk => ⟨trivial, hk⟩)) hg hat)
               replace HB := zq (hb)
               have HO655 := zq (ho)
               clear HO651
               clear ho hb hg hat
               refine hK.out _ _ ⟨(yh HB hw648_0), (yh HB hw648_1), (yh HB hw648_2), (yh HB hw648_3)⟩ (fun hHeld => ?_)
               clear hK K
               refine Xap (a' := ?_) ?_ ?_
               rotate_left
               ·show Act.put _ (some 23) _ = _
                simp only [Act.put, List.setIfInBounds_toArray, List.set_cons_zero, List.set_cons_succ, Xan, Xaq]
                rfl
               exact Xap J7 (hJ6_12 (v650, v654) _ ⟨hHeld, (zr HO655.out), J88, J0⟩)
              ·skip
               refine aM (Kd.int .i64) _ 3 ?hg (N := 24) ?hd (xs := ([] : List Int)) (inner := []) (ok := fun _ => True) (okp := fun _ => True) ?hr ?hp (fun _ hk => hk) trivial (Below.refl _ _) (Nat.le_refl _) J83 ?_; (case hd => rfl); (case hg => rfl); (case hr => first | (go_simp; done) | (go_simp; rfl)); (case hp => exact (Reps.none _ _))
               intro v657 w13 ho14 hb hg_ hnew_
               clear hg_ hnew_
               (first | rw [← Ny656.out] at ho14 | (simp only [Int.reduceToNat] at ho14; rw [← Ny656.out] at ho14))
               replace HO_3 := zq (a8 (zs HO_3.out) (aa ho14) hb)
               have HO658 := zq (ag (aW ho14 (aY (zr HO651.out))) (Xc J0))
               replace HO651 := zq (ay (zr HO651.out) (aa ho14) hb)
               replace HB := zq (Xe J0 hb)
               clear hb ho14
               refine hK.out _ _ ⟨(yh HB hw648_0), (yh HB hw648_1), (yh HB hw648_2), (yh HB hw648_3)⟩ (fun hHeld => ?_)
               clear hK K
               refine Xap (a' := ?_) ?_ ?_
               rotate_left
               ·show Act.put _ (some 24) _ = _
                simp only [Act.put, List.setIfInBounds_toArray, List.set_cons_zero, List.set_cons_succ, Xan, Xaq]
                rfl
               exact Xap J7 (hJ6_13 (v650, v657) _ ⟨hHeld, J86, J37, (zs HO_3.out), J0⟩)
              ·skip
               refine aM k38 _ 38 ?hg (N := 31) ?hd (xs := ([] : List (S38))) (inner := []) (ok := fun _ => True) (okp := fun _ => True) ?hr ?hp (fun _ hk => hk) trivial (Below.refl _ _) (Nat.le_refl _) J83 ?_; (case hd => rfl); (case hg => rfl); (case hr => first | (go_simp; done) | (go_simp; rfl)); (case hp => exact (Reps.none _ _))
               intro v664 w13 ho14 hb hg_ hnew_
               clear hg_ hnew_
               (first | rw [← Ny663.out] at ho14 | (simp only [Int.reduceToNat] at ho14; rw [← Ny663.out] at ho14))
               replace HO_3 := zq (a8 (zs HO_3.out) (aa ho14) hb)
               replace HO651 := zq (ab (zr HO651.out) hb)
               have HO665 := zq (ag ho14 (Xc J0))
               replace HB := zq (Xe J0 hb)
               clear hb ho14
               refine hK.out _ _ ⟨(yh HB hw648_0), (yh HB hw648_1), (yh HB hw648_2), (yh HB hw648_3)⟩ (fun hHeld => ?_)
               clear hK K
               refine Xap (a' := ?_) ?_ ?_
               rotate_left
               ·show Act.put _ (some 31) _ = _
                simp only [Act.put, List.setIfInBounds_toArray, List.set_cons_zero, List.set_cons_succ, Xan, Xaq]
                rfl
               exact Xap J7 (hJ6_20 (v650, v664) _ ⟨hHeld, (zr HO651.out), (zr HO665.out), (zs HO_3.out), J0⟩)
            ·skip
             clear HO_3 HB
             rintro ⟨v657, v664⟩ w14 ⟨hHeld, HO658, HO665, HO_3, HB⟩
             try dsimp only at hHeld HO658 HO665 HO_3 HB
             replace HO658 := zq HO658
             replace HO665 := zq HO665
             replace HO_3 := zq HO_3
             replace HB := zq HB
             refine Xap (a' := ?_) ?_ ?_
             rotate_left
             ·simp only [Xb6, Act.put, List.setIfInBounds_toArray, List.set_cons_zero, List.set_cons_succ]
              rfl
             refine Xcb (i := 6) (N := some 17) #[Y,Y,Y,Y,Y,Y,Y,Y,Y,Y,Y,Y,Z,Y,Y,Y,Y,Y,Y,Z,Y,Y,Y,Y,Y,Y,Z,Z,Z,Z,Z] rfl rfl (Xbl HT_.out J17) J14 (fun K hK => ?_)
             refine aM (Kd.int .i64) _ 3 ?hg (N := 17) ?hd (xs := ([] : List Int)) (inner := []) (ok := fun _ => True) (okp := fun _ => True) ?hr ?hp (fun _ hk => hk) trivial (Below.refl _ _) (Nat.le_refl _) J83 ?_; (case hd => rfl); (case hg => rfl); (case hr => first | (go_simp; done) | (go_simp; rfl)); (case hp => exact (Reps.none _ _))
             intro v650 w15 ho16 hb hg_ hnew_
             clear hg_ hnew_
             (first | rw [← Ny649.out] at ho16 | (simp only [Int.reduceToNat] at ho16; rw [← Ny649.out] at ho16))
             replace HO_3 := zq (a8 (zs HO_3.out) (aa ho16) hb)
             replace HO665 := zq (ab (zr HO665.out) hb)
             have HO651 := zq (ag (aW ho16 (aY (zr HO658.out))) (Xc J0))
             replace HO658 := zq (ay (zr HO658.out) (aa ho16) hb)
             replace HB := zq (Xe J0 hb)
             clear hb ho16
             refine hK.out _ _ ⟨(yh HB hw648_0), (yh HB hw648_1), (yh HB hw648_2), (yh HB hw648_3)⟩ (fun hHeld => ?_)
             clear hK K
             refine Xap (a' := ?_) ?_ ?_
             rotate_left
             ·show Act.put _ (some 17) _ = _
              simp only [Act.put, List.setIfInBounds_toArray, List.set_cons_zero, List.set_cons_succ, Xan, Xaq]
              rfl
             exact Xap J7 (hJ6_13_20 (v650, v657, v664) _ ⟨hHeld, J86, J37, (zr HO665.out), J140, J0⟩)
           ·skip
            clear HO_3 HB
            rintro ⟨v650, v664⟩ w14 ⟨hHeld, HO651, HO665, HO_3, HB⟩
            try dsimp only at hHeld HO651 HO665 HO_3 HB
            replace HO651 := zq HO651
            replace HO665 := zq HO665
            replace HO_3 := zq HO_3
            replace HB := zq HB
            refine Xap (a' := ?_) ?_ ?_
            rotate_left
            ·simp only [Xb6, Act.put, List.setIfInBounds_toArray, List.set_cons_zero, List.set_cons_succ]
             rfl
            refine two_ (i := 12) (j := 13) (Ni := some 23) (Nj := some 24) #[Y,Y,Y,Y,Y,Y,Y,Y,Y,Y,Y,Y,Y,Z,Y,Y,Y,Y,Y,Z,Y,Y,Y,Y,Y,Y,Z,Z,Z,Z,Z] #[Y,Y,Y,Y,Y,Y,Y,Y,Y,Y,Y,Y,Z,Y,Y,Y,Y,Y,Y,Z,Y,Y,Y,Y,Y,Y,Z,Z,Z,Z,Z] rfl rfl rfl rfl (Xda HT_.out J17) J14 J14 (fun K hK => ?_) (fun K hK => ?_)
            ·skip
             refine aV (Kd.int .i64) (w0 := w) w.heap.size J63 (.tmp 17) (.tmp 22) 23 3 (.int .i64 0) 8 rfl Try.underlying23 Xcm rfl J14 J29 v650 y649 ((Xa l0 x4_1).f1) _ _ _ (fun _ => True) (fun _ => False) rfl rfl ?aO ?aR (fun _ _ h => h) (fun _ h => h.elim) ?aF ?aB ?aS ?aL ?_
             (case aR => repeat (first | exact (ac HR648_1.out HB.out) | (with_reducible refine Kd.C_alloc ?_ _) | (with_reducible refine au ?_ _) | (with_reducible refine Kd.C_drew ?_)))
             (case aB => exact J0)
             (case aF => exact (fun _ _ => trivial))
             (case aO => exact (zr HO651.out))
             (case aS => exact (Xc J0))
             (case aL => have := LMc4.out; omega)
             intro v654 w15 ho hb hg hat
             rw [← Ny653.out] at ho
             replace HO_3 := zq (bs (ok := (fun k_ => some k_ ≠ (v664 : Value).ownBlock)) J40 hg hat)
             replace HO665 := zq (a9 (zr HO665.out) (aK (zr HO651.out)) J14 hg)
             replace HB := zq (hb)
             have HO655 := zq (ho)
             clear HO651
             clear ho hb hg hat
             refine hK.out _ _ ⟨(yh HB hw648_0), (yh HB hw648_1), (yh HB hw648_2), (yh HB hw648_3)⟩ (fun hHeld => ?_)
             clear hK K
             refine Xap (a' := ?_) ?_ ?_
             rotate_left
             ·show Act.put _ (some 23) _ = _
              simp only [Act.put, List.setIfInBounds_toArray, List.set_cons_zero, List.set_cons_succ, Xan, Xaq]
              rfl
             exact Xap J7 (hJ6_12_20 (v650, v654, v664) _ ⟨hHeld, (zr HO655.out), (zr HO665.out), J40, J0⟩)
            ·skip
             refine aM (Kd.int .i64) _ 3 ?hg (N := 24) ?hd (xs := ([] : List Int)) (inner := []) (ok := fun _ => True) (okp := fun _ => True) ?hr ?hp (fun _ hk => hk) trivial (Below.refl _ _) (Nat.le_refl _) J83 ?_; (case hd => rfl); (case hg => rfl); (case hr => first | (go_simp; done) | (go_simp; rfl)); (case hp => exact (Reps.none _ _))
             intro v657 w15 ho16 hb hg_ hnew_
             clear hg_ hnew_
             (first | rw [← Ny656.out] at ho16 | (simp only [Int.reduceToNat] at ho16; rw [← Ny656.out] at ho16))
             replace HO_3 := zq (a8 (zs HO_3.out) (aa ho16) hb)
             replace HO665 := zq (ab (zr HO665.out) hb)
             have HO658 := zq (ag (aW ho16 (aY (zr HO651.out))) (Xc J0))
             replace HO651 := zq (ay (zr HO651.out) (aa ho16) hb)
             replace HB := zq (Xe J0 hb)
             clear hb ho16
             refine hK.out _ _ ⟨(yh HB hw648_0), (yh HB hw648_1), (yh HB hw648_2), (yh HB hw648_3)⟩ (fun hHeld => ?_)
             clear hK K
             refine Xap (a' := ?_) ?_ ?_
             rotate_left
             ·show Act.put _ (some 24) _ = _
              simp only [Act.put, List.setIfInBounds_toArray, List.set_cons_zero, List.set_cons_succ, Xan, Xaq]
              rfl
             exact Xap J7 (hJ6_13_20 (v650, v657, v664) _ ⟨hHeld, J86, J37, (zr HO665.out), J99, J0⟩)
          ·skip
           clear HO_3 HB
           rintro ⟨v650, v657⟩ w14 ⟨hHeld, HO651, HO658, HO_3, HB⟩
           try dsimp only at hHeld HO651 HO658 HO_3 HB
           replace HO651 := zq HO651
           replace HO658 := zq HO658
           replace HO_3 := zq HO_3
           replace HB := zq HB
           refine Xap (a' := ?_) ?_ ?_
           rotate_left
           ·simp only [Xb6, Act.put, List.setIfInBounds_toArray, List.set_cons_zero, List.set_cons_succ]
            rfl
           refine two_ (i := 12) (j := 20) (Ni := some 23) (Nj := some 31) #[Y,Y,Y,Y,Y,Y,Y,Y,Y,Y,Y,Y,Y,Y,Y,Y,Y,Y,Y,Z,Z,Y,Y,Y,Y,Y,Z,Z,Z,Z,Z] #[Y,Y,Y,Y,Y,Y,Y,Y,Y,Y,Y,Y,Z,Y,Y,Y,Y,Y,Y,Z,Y,Y,Y,Y,Y,Y,Z,Z,Z,Z,Z] rfl rfl rfl rfl (Xda HT_.out J17) J14 J14 (fun K hK => ?_) (fun K hK => ?_)
           ·skip
            refine aV (Kd.int .i64) (w0 := w) w.heap.size J63 (.tmp 17) (.tmp 22) 23 3 (.int .i64 0) 8 rfl Try.underlying23 Xcm rfl J14 J29 v650 y649 ((Xa l0 x4_1).f1) _ _ _ (fun k_ => some k_ ≠ (v657 : Value).ownBlock) (fun _ => False) rfl rfl ?aO ?aR (fun _ _ h => h) (fun _ h => h.elim) ?aF ?aB ?aS ?aL ?_
            (case aR => repeat (first | exact (ac HR648_1.out HB.out) | (with_reducible refine Kd.C_alloc ?_ _) | (with_reducible refine au ?_ _) | (with_reducible refine Kd.C_drew ?_)))
            (case aB => exact J0)
            (case aF => exact (fun k_ hk => Kd.fresh' (aY (zr HO658.out)) k_ hk))
            (case aO => exact (zr HO651.out))
            (case aS => exact (Xc J0))
            (case aL => have := LMc4.out; omega)
            intro v654 w15 ho hb hg hat
            rw [← Ny653.out] at ho
            replace HO_3 := zq (bs (ok := (fun k_ => some k_ ≠ (v657 : Value).ownBlock)) J40 hg hat)
            replace HO658 := zq (bo (ok := (fun _ => True)) J145 hg hat)
            replace HB := zq (hb)
            have HO655 := zq (ho)
            clear HO651
            clear ho hb hg hat
            refine hK.out _ _ ⟨(yh HB hw648_0), (yh HB hw648_1), (yh HB hw648_2), (yh HB hw648_3)⟩ (fun hHeld => ?_)
            clear hK K
            refine Xap (a' := ?_) ?_ ?_
            rotate_left
            ·show Act.put _ (some 23) _ = _
             simp only [Act.put, List.setIfInBounds_toArray, List.set_cons_zero, List.set_cons_succ, Xan, Xaq]
             rfl
            exact Xap J7 (hJ6_12_13 (v650, v654, v657) _ ⟨hHeld, (zr HO655.out), J37, J40, J0⟩)
           ·skip
            refine aM k38 _ 38 ?hg (N := 31) ?hd (xs := ([] : List (S38))) (inner := []) (ok := fun _ => True) (okp := fun _ => True) ?hr ?hp (fun _ hk => hk) trivial (Below.refl _ _) (Nat.le_refl _) J83 ?_; (case hd => rfl); (case hg => rfl); (case hr => first | (go_simp; done) | (go_simp; rfl)); (case hp => exact (Reps.none _ _))
            intro v664 w15 ho16 hb hg_ hnew_
            clear hg_ hnew_
            (first | rw [← Ny663.out] at ho16 | (simp only [Int.reduceToNat] at ho16; rw [← Ny663.out] at ho16))
            replace HO_3 := zq (a8 (zs HO_3.out) (aa ho16) hb)
            replace HO651 := zq (ab (zr HO651.out) hb)
            replace HO658 := zq (ab (zr HO658.out) hb)
            have HO665 := zq (ag ho16 (Xc J0))
            replace HB := zq (Xe J0 hb)
            clear hb ho16
            refine hK.out _ _ ⟨(yh HB hw648_0), (yh HB hw648_1), (yh HB hw648_2), (yh HB hw648_3)⟩ (fun hHeld => ?_)
            clear hK K
            refine Xap (a' := ?_) ?_ ?_
            rotate_left
            ·show Act.put _ (some 31) _ = _
             simp only [Act.put, List.setIfInBounds_toArray, List.set_cons_zero, List.set_cons_succ, Xan, Xaq]
             rfl
            exact Xap J7 (hJ6_13_20 (v650, v657, v664) _ ⟨hHeld, (zr HO651.out), (zr HO658.out), (zr HO665.out), J100, J0⟩)
         ·skip
          clear HO_3 HB
          rintro ⟨v650, v654⟩ w13 ⟨hHeld, HO655, HO_3, HB⟩
          try dsimp only at hHeld HO655 HO_3 HB
          replace HO655 := zq HO655
          replace HO_3 := zq HO_3
          replace HB := zq HB
          refine Xap (a' := ?_) ?_ ?_
          rotate_left
          ·simp only [Xb6, Act.put, List.setIfInBounds_toArray, List.set_cons_zero, List.set_cons_succ]
           rfl
          refine two_ (i := 13) (j := 20) (Ni := some 24) (Nj := some 31) #[Y,Y,Y,Y,Y,Y,Y,Y,Y,Y,Y,Y,Y,Y,Y,Y,Y,Y,Y,Z,Z,Y,Y,Y,Y,Y,Z,Z,Z,Z,Z] #[Y,Y,Y,Y,Y,Y,Y,Y,Y,Y,Y,Y,Y,Z,Y,Y,Y,Y,Y,Z,Y,Y,Y,Y,Y,Y,Z,Z,Z,Z,Z] rfl rfl rfl rfl (Xda HT_.out J17) J14 J14 (fun K hK => ?_) (fun K hK => ?_)
          ·skip
           refine aM (Kd.int .i64) _ 3 ?hg (N := 24) ?hd (xs := ([] : List Int)) (inner := []) (ok := fun _ => True) (okp := fun _ => True) ?hr ?hp (fun _ hk => hk) trivial (Below.refl _ _) (Nat.le_refl _) J83 ?_; (case hd => rfl); (case hg => rfl); (case hr => first | (go_simp; done) | (go_simp; rfl)); (case hp => exact (Reps.none _ _))
           intro v657 w14 ho15 hb hg_ hnew_
           clear hg_ hnew_
           (first | rw [← Ny656.out] at ho15 | (simp only [Int.reduceToNat] at ho15; rw [← Ny656.out] at ho15))
           replace HO_3 := zq (a8 (zs HO_3.out) (aa ho15) hb)
           have HO658 := zq (ag (aW ho15 (aY (zr HO655.out))) (Xc J0))
           replace HO655 := zq (ay (zr HO655.out) (aa ho15) hb)
           replace HB := zq (Xe J0 hb)
           clear hb ho15
           refine hK.out _ _ ⟨(yh HB hw648_0), (yh HB hw648_1), (yh HB hw648_2), (yh HB hw648_3)⟩ (fun hHeld => ?_)
           clear hK K
           refine Xap (a' := ?_) ?_ ?_
           rotate_left
           ·show Act.put _ (some 24) _ = _
            simp only [Act.put, List.setIfInBounds_toArray, List.set_cons_zero, List.set_cons_succ, Xan, Xaq]
            rfl
           exact Xap J7 (hJ6_12_13 (v650, v654, v657) _ ⟨hHeld, J87, J37, (zs HO_3.out), J0⟩)
          ·skip
           refine aM k38 _ 38 ?hg (N := 31) ?hd (xs := ([] : List (S38))) (inner := []) (ok := fun _ => True) (okp := fun _ => True) ?hr ?hp (fun _ hk => hk) trivial (Below.refl _ _) (Nat.le_refl _) J83 ?_; (case hd => rfl); (case hg => rfl); (case hr => first | (go_simp; done) | (go_simp; rfl)); (case hp => exact (Reps.none _ _))
           intro v664 w14 ho15 hb hg_ hnew_
           clear hg_ hnew_
           (first | rw [← Ny663.out] at ho15 | (simp only [Int.reduceToNat] at ho15; rw [← Ny663.out] at ho15))
           replace HO_3 := zq (a8 (zs HO_3.out) (aa ho15) hb)
           replace HO655 := zq (ab (zr HO655.out) hb)
           have HO665 := zq (ag ho15 (Xc J0))
           replace HB := zq (Xe J0 hb)
           clear hb ho15
           refine hK.out _ _ ⟨(yh HB hw648_0), (yh HB hw648_1), (yh HB hw648_2), (yh HB hw648_3)⟩ (fun hHeld => ?_)
           clear hK K
           refine Xap (a' := ?_) ?_ ?_
           rotate_left
           ·show Act.put _ (some 31) _ = _
            simp only [Act.put, List.setIfInBounds_toArray, List.set_cons_zero, List.set_cons_succ, Xan, Xaq]
            rfl
           exact Xap J7 (hJ6_12_20 (v650, v654, v664) _ ⟨hHeld, (zr HO655.out), (zr HO665.out), (zs HO_3.out), J0⟩)
        ·skip
         clear HO_3 HB
         rintro ⟨v650, v657, v664⟩ w16 ⟨hHeld, HO651, HO658, HO665, HO_3, HB⟩
         try dsimp only at hHeld HO651 HO658 HO665 HO_3 HB
         replace HO651 := zq HO651
         replace HO658 := zq HO658
         replace HO665 := zq HO665
         replace HO_3 := zq HO_3
         replace HB := zq HB
         refine Xap (a' := ?_) ?_ ?_
         rotate_left
         ·simp only [Xb6, Act.put, List.setIfInBounds_toArray, List.set_cons_zero, List.set_cons_succ]
          rfl
         refine Xcb (i := 12) (N := some 23) #[Y,Y,Y,Y,Y,Y,Y,Y,Y,Y,Y,Y,Y,Y,Y,Y,Y,Y,Y,Z,Y,Y,Y,Y,Y,Y,Z,Z,Z,Z,Z] rfl rfl (Xbl HT_.out J17) J14 (fun K hK => ?_)
         refine aV (Kd.int .i64) (w0 := w) w.heap.size J63 (.tmp 17) (.tmp 22) 23 3 (.int .i64 0) 8 rfl Try.underlying23 Xcm rfl J14 J29 v650 y649 ((Xa l0 x4_1).f1) _ _ _ (fun k_ => some k_ ≠ (v657 : Value).ownBlock) (fun _ => False) rfl rfl ?aO ?aR (fun _ _ h => h) (fun _ h => h.elim) ?aF ?aB ?aS ?aL ?_
         (case aR => repeat (first | exact (ac HR648_1.out HB.out) | (with_reducible refine Kd.C_alloc ?_ _) | (with_reducible refine au ?_ _) | (with_reducible refine Kd.C_drew ?_)))
         (case aB => exact J0)
         (case aF => exact (fun k_ hk => Kd.fresh' (aY (zr HO658.out)) k_ hk))
         (case aO => exact (zr HO651.out))
         (case aS => exact (Xc J0))
         (case aL => have := LMc4.out; omega)
         intro v654 w17 ho hb hg hat
         rw [← Ny653.out] at ho
         replace HO_3 := zq (bs (ok := (fun k_ => some k_ ≠ (v657 : Value).ownBlock ∧ some k_ ≠ (v664 : Value).ownBlock)) (by (with_reducible repeat (first | apply Kd.S_alloc | apply Kd.S_drewN | apply bh)); exact bl HO_3.out (fun _ hk => ⟨⟨hk.2.1, hk.2.2⟩, hk.1⟩)) hg hat)
         replace HO658 := zq (bo (ok := (fun _ => True)) J145 hg hat)
         replace HO665 := zq (a9 (zr HO665.out) (aK (zr HO651.out)) J14 hg)
         replace HB := zq (hb)
         have HO655 := zq (ho)
         clear HO651
         clear ho hb hg hat
         refine hK.out _ _ ⟨(yh HB hw648_0), (yh HB hw648_1), (yh HB hw648_2), (yh HB hw648_3)⟩ (fun hHeld => ?_)
         clear hK K
         refine Xap (a' := ?_) ?_ ?_
         rotate_left
         ·show Act.put _ (some 23) _ = _
          simp only [Act.put, List.setIfInBounds_toArray, List.set_cons_zero, List.set_cons_succ, Xan, Xaq]
          rfl
         exact Xap J7 (hJ6_12_13_20 (v650, v654, v657, v664) _ ⟨hHeld, (zr HO655.out), J37, (zr HO665.out), J140, J0⟩)
       ·skip
        clear HO_3 HB
        rintro ⟨v650, v654, v664⟩ w15 ⟨hHeld, HO655, HO665, HO_3, HB⟩
        try dsimp only at hHeld HO655 HO665 HO_3 HB
        replace HO655 := zq HO655
        replace HO665 := zq HO665
        replace HO_3 := zq HO_3
        replace HB := zq HB
        refine Xap (a' := ?_) ?_ ?_
        rotate_left
        ·simp only [Xb6, Act.put, List.setIfInBounds_toArray, List.set_cons_zero, List.set_cons_succ]
         rfl
        refine Xcb (i := 13) (N := some 24) #[Y,Y,Y,Y,Y,Y,Y,Y,Y,Y,Y,Y,Y,Y,Y,Y,Y,Y,Y,Z,Y,Y,Y,Y,Y,Y,Z,Z,Z,Z,Z] rfl rfl (Xbl HT_.out J17) J14 (fun K hK => ?_)
        refine aM (Kd.int .i64) _ 3 ?hg (N := 24) ?hd (xs := ([] : List Int)) (inner := []) (ok := fun _ => True) (okp := fun _ => True) ?hr ?hp (fun _ hk => hk) trivial (Below.refl _ _) (Nat.le_refl _) J83 ?_; (case hd => rfl); (case hg => rfl); (case hr => first | (go_simp; done) | (go_simp; rfl)); (case hp => exact (Reps.none _ _))
        intro v657 w16 ho17 hb hg_ hnew_
        clear hg_ hnew_
        (first | rw [← Ny656.out] at ho17 | (simp only [Int.reduceToNat] at ho17; rw [← Ny656.out] at ho17))
        replace HO_3 := zq (a8 (zs HO_3.out) (aa ho17) hb)
        replace HO665 := zq (ab (zr HO665.out) hb)
        have HO658 := zq (ag (aW ho17 (aY (zr HO655.out))) (Xc J0))
        replace HO655 := zq (ay (zr HO655.out) (aa ho17) hb)
        replace HB := zq (Xe J0 hb)
        clear hb ho17
        refine hK.out _ _ ⟨(yh HB hw648_0), (yh HB hw648_1), (yh HB hw648_2), (yh HB hw648_3)⟩ (fun hHeld => ?_)
        clear hK K
        refine Xap (a' := ?_) ?_ ?_
        rotate_left
        ·show Act.put _ (some 24) _ = _
         simp only [Act.put, List.setIfInBounds_toArray, List.set_cons_zero, List.set_cons_succ, Xan, Xaq]
         rfl
        exact Xap J7 (hJ6_12_13_20 (v650, v654, v657, v664) _ ⟨hHeld, J87, J37, (zr HO665.out), J99, J0⟩)
      ·skip
       clear HO_3 HB
       rintro ⟨v650, v654, v657⟩ w15 ⟨hHeld, HO655, HO658, HO_3, HB⟩
       try dsimp only at hHeld HO655 HO658 HO_3 HB
       replace HO655 := zq HO655
       replace HO658 := zq HO658
       replace HO_3 := zq HO_3
       replace HB := zq HB
       refine Xap (a' := ?_) ?_ ?_
       rotate_left
       ·simp only [Xb6, Act.put, List.setIfInBounds_toArray, List.set_cons_zero, List.set_cons_succ]
        rfl
       refine two_ (i := 19) (j := 20) (Ni := some 30) (Nj := some 31) #[Y,Y,Y,Y,Y,Y,Y,Y,Y,Y,Y,Y,Y,Y,Y,Y,Y,Y,Y,Y,Z,Y,Y,Y,Y,Y,Z,Z,Z,Z,Z] #[Y,Y,Y,Y,Y,Y,Y,Y,Y,Y,Y,Y,Y,Y,Y,Y,Y,Y,Y,Z,Y,Y,Y,Y,Y,Y,Z,Z,Z,Z,Z] rfl rfl rfl rfl (Xda HT_.out J17) J14 J14 (fun K hK => ?_) (fun K hK => ?_)
       ·skip
        refine aV (Kd.int .i64) (w0 := w) w.heap.size J63 (.tmp 24) (.tmp 29) 23 3 (.int .i64 0) 8 rfl Try.underlying23 Xcm rfl J14 J29 v657 y656 ((Xa l0 x4_1).f2) _ _ _ (fun k_ => some k_ ≠ (v654 : Value).ownBlock) (fun _ => False) rfl rfl ?aO ?aR (fun _ _ h => h) (fun _ h => h.elim) ?aF ?aB ?aS ?aL ?_
        (case aR => repeat (first | exact (ac HR648_2.out HB.out) | (with_reducible refine Kd.C_alloc ?_ _) | (with_reducible refine au ?_ _) | (with_reducible refine Kd.C_drew ?_)))
        (case aB => exact J0)
        (case aF => exact (fun k_ hk => Kd.fresh' (aY (zr HO655.out)) k_ hk))
        (case aO => exact (zr HO658.out))
        (case aS => exact (Xc J0))
        (case aL => have := LMc5.out; omega)
        intro v661 w16 ho hb hg hat
        rw [← Ny660.out] at ho
        replace HO_3 := zq (bs (ok := (fun k_ => some k_ ≠ (v654 : Value).ownBlock)) (zs HO_3.out) hg hat)
        replace HO655 := zq (bo (ok := (fun _ => True)) J146 hg hat)
        replace HB := zq (hb)
        have HO662 := zq (ho)
        clear HO658
        clear ho hb hg hat
        refine hK.out _ _ ⟨(yh HB hw648_0), (yh HB hw648_1), (yh HB hw648_2), (yh HB hw648_3)⟩ (fun hHeld => ?_)
        clear hK K
        refine Xap (a' := ?_) ?_ ?_
        rotate_left
        ·show Act.put _ (some 30) _ = _
         simp only [Act.put, List.setIfInBounds_toArray, List.set_cons_zero, List.set_cons_succ, Xan, Xaq]
         rfl
        exact Xap J7 (hJ6_12_13_19 (v650, v654, v657, v661) _ ⟨hHeld, J87, (zr HO662.out), (zs HO_3.out), J0⟩)
       ·skip
        refine aM k38 _ 38 ?hg (N := 31) ?hd (xs := ([] : List (S38))) (inner := []) (ok := fun _ => True) (okp := fun _ => True) ?hr ?hp (fun _ hk => hk) trivial (Below.refl _ _) (Nat.le_refl _) J83 ?_; (case hd => rfl); (case hg => rfl); (case hr => first | (go_simp; done) | (go_simp; rfl)); (case hp => exact (Reps.none _ _))
        intro v664 w16 ho17 hb hg_ hnew_
        clear hg_ hnew_
        (first | rw [← Ny663.out] at ho17 | (simp only [Int.reduceToNat] at ho17; rw [← Ny663.out] at ho17))
        replace HO_3 := zq (a8 (zs HO_3.out) (aa ho17) hb)
        replace HO655 := zq (ab (zr HO655.out) hb)
        replace HO658 := zq (ab (zr HO658.out) hb)
        have HO665 := zq (ag ho17 (Xc J0))
        replace HB := zq (Xe J0 hb)
        clear hb ho17
        refine hK.out _ _ ⟨(yh HB hw648_0), (yh HB hw648_1), (yh HB hw648_2), (yh HB hw648_3)⟩ (fun hHeld => ?_)
        clear hK K
        refine Xap (a' := ?_) ?_ ?_
        rotate_left
        ·show Act.put _ (some 31) _ = _
         simp only [Act.put, List.setIfInBounds_toArray, List.set_cons_zero, List.set_cons_succ, Xan, Xaq]
         rfl
        exact Xap J7 (hJ6_12_13_20 (v650, v654, v657, v664) _ ⟨hHeld, (zr HO655.out), (zr HO658.out), (zr HO665.out), J100, J0⟩)
     ·skip
      clear HO_3 HB
      rintro ⟨v650, v654, v657, v664⟩ w17 ⟨hHeld, HO655, HO658, HO665, HO_3, HB⟩
      try dsimp only at hHeld HO655 HO658 HO665 HO_3 HB
      replace HO655 := zq HO655
      replace HO658 := zq HO658
      replace HO665 := zq HO665
      replace HO_3 := zq HO_3
      replace HB := zq HB
      refine Xap (a' := ?_) ?_ ?_
      rotate_left
      ·simp only [Xb6, Act.put, List.setIfInBounds_toArray, List.set_cons_zero, List.set_cons_succ]
       rfl
      refine Xcb (i := 19) (N := some 30) #[Y,Y,Y,Y,Y,Y,Y,Y,Y,Y,Y,Y,Y,Y,Y,Y,Y,Y,Y,Y,Y,Y,Y,Y,Y,Y,Z,Z,Z,Z,Z] rfl rfl (Xbl HT_.out J17) J14 (fun K hK => ?_)
      refine aV (Kd.int .i64) (w0 := w) w.heap.size J63 (.tmp 24) (.tmp 29) 23 3 (.int .i64 0) 8 rfl Try.underlying23 Xcm rfl J14 J29 v657 y656 ((Xa l0 x4_1).f2) _ _ _ (fun k_ => some k_ ≠ (v654 : Value).ownBlock) (fun _ => False) rfl rfl ?aO ?aR (fun _ _ h => h) (fun _ h => h.elim) ?aF ?aB ?aS ?aL ?_
      (case aR => repeat (first | exact (ac HR648_2.out HB.out) | (with_reducible refine Kd.C_alloc ?_ _) | (with_reducible refine au ?_ _) | (with_reducible refine Kd.C_drew ?_)))
      (case aB => exact J0)
      (case aF => exact (fun k_ hk => Kd.fresh' (aY (zr HO655.out)) k_ hk))
      (case aO => exact (zr HO658.out))
      (case aS => exact (Xc J0))
      (case aL => have := LMc5.out; omega)
      intro v661 w18 ho hb hg hat
      rw [← Ny660.out] at ho
      replace HO_3 := zq (bs (ok := (fun k_ => some k_ ≠ (v654 : Value).ownBlock ∧ some k_ ≠ (v664 : Value).ownBlock)) (by (with_reducible repeat (first | apply Kd.S_alloc | apply Kd.S_drewN | apply bh)); exact bl HO_3.out (fun _ hk => ⟨⟨hk.1, hk.2.2⟩, hk.2.1⟩)) hg hat)
      replace HO655 := zq (bo (ok := (fun _ => True)) J146 hg hat)
      replace HO665 := zq (a9 (zr HO665.out) (aK (zr HO658.out)) J14 hg)
      replace HB := zq (hb)
      have HO662 := zq (ho)
      clear HO658
      clear ho hb hg hat
      refine hK.out _ _ ⟨(yh HB hw648_0), (yh HB hw648_1), (yh HB hw648_2), (yh HB hw648_3)⟩ (fun hHeld => ?_)
      clear hK K
      refine Xap (a' := ?_) ?_ ?_
      rotate_left
      ·show Act.put _ (some 30) _ = _
       simp only [Act.put, List.setIfInBounds_toArray, List.set_cons_zero, List.set_cons_succ, Xan, Xaq]
       rfl
      exact Xap J7 (hJ6_12_13_19_20 (v650, v654, v657, v661, v664) _ ⟨hHeld, J87, (zr HO662.out), (zr HO665.out), J99, J0⟩)
    ·skip
     clear HO_3 HB
     rintro ⟨v650, v654, v657, v661⟩ w16 ⟨hHeld, HO655, HO662, HO_3, HB⟩
     try dsimp only at hHeld HO655 HO662 HO_3 HB
     replace HO655 := zq HO655
     replace HO662 := zq HO662
     replace HO_3 := zq HO_3
     replace HB := zq HB
     refine Xap (a' := ?_) ?_ ?_
     rotate_left
     ·simp only [Xb6, Act.put, List.setIfInBounds_toArray, List.set_cons_zero, List.set_cons_succ]
      rfl
     refine Xcb (i := 20) (N := some 31) #[Y,Y,Y,Y,Y,Y,Y,Y,Y,Y,Y,Y,Y,Y,Y,Y,Y,Y,Y,Y,Y,Y,Y,Y,Y,Y,Z,Z,Z,Z,Z] rfl rfl (Xbl HT_.out J17) J14 (fun K hK => ?_)
     refine aM k38 _ 38 ?hg (N := 31) ?hd (xs := ([] : List (S38))) (inner := []) (ok := fun _ => True) (okp := fun _ => True) ?hr ?hp (fun _ hk => hk) trivial (Below.refl _ _) (Nat.le_refl _) J83 ?_; (case hd => rfl); (case hg => rfl); (case hr => first | (go_simp; done) | (go_simp; rfl)); (case hp => exact (Reps.none _ _))
     intro v664 w17 ho18 hb hg_ hnew_
     clear hg_ hnew_
     (first | rw [← Ny663.out] at ho18 | (simp only [Int.reduceToNat] at ho18; rw [← Ny663.out] at ho18))
     replace HO_3 := zq (a8 (zs HO_3.out) (aa ho18) hb)
     replace HO655 := zq (ab (zr HO655.out) hb)
     replace HO662 := zq (ab (zr HO662.out) hb)
     have HO665 := zq (ag ho18 (Xc J0))
     replace HB := zq (Xe J0 hb)
     clear hb ho18
     refine hK.out _ _ ⟨(yh HB hw648_0), (yh HB hw648_1), (yh HB hw648_2), (yh HB hw648_3)⟩ (fun hHeld => ?_)
     clear hK K
     refine Xap (a' := ?_) ?_ ?_
     rotate_left
     ·show Act.put _ (some 31) _ = _
      simp only [Act.put, List.setIfInBounds_toArray, List.set_cons_zero, List.set_cons_succ, Xan, Xaq]
      rfl
     exact Xap J7 (hJ6_12_13_19_20 (v650, v654, v657, v661, v664) _ ⟨hHeld, (zr HO655.out), (zr HO662.out), (zr HO665.out), J100, J0⟩)
   clear HO_3 HB
   rintro ⟨v650, v654, v657, v661, v664⟩ w18 ⟨hHeld, HO655, HO662, HO665, HO_3, HB⟩
   try dsimp only at hHeld HO655 HO662 HO665 HO_3 HB
   replace HO655 := zq HO655
   replace HO662 := zq HO662
   replace HO665 := zq HO665
   replace HO_3 := zq HO_3
   replace HB := zq HB
   refine Xap (a' := ?_) ?_ ?_
   rotate_left
   ·simp only [Xb6, Act.put, List.setIfInBounds_toArray, List.set_cons_zero, List.set_cons_succ]
    rfl
   refine Xcb (i := 26) (N := some 37) #[Y,Y,Y,Y,Y,Y,Y,Y,Y,Y,Y,Y,Y,Y,Y,Y,Y,Y,Y,Y,Y,Y,Y,Y,Y,Y,Y,Z,Z,Z,Z] rfl rfl (Xbl HT_.out J17) J14 (fun K hK => ?_)
   refine aV k38 (w0 := w) w.heap.size J63 (.tmp 31) (.tmp 36) 24 38 (.agg #[(.int .i64 0), (.int .i64 0)]) 16 rfl Try.underlying24 Xdo rfl J14 J29 v664 y663 ((Xa l0 x4_1).f3) _ _ _ (fun _ => True) (fun _ => False) rfl rfl ?aO ?aR (fun _ _ h => h) (fun _ h => h.elim) ?aF ?aB ?aS ?aL ?_
   (case aR => repeat (first | exact (ac HR648_3.out HB.out) | (with_reducible refine Kd.C_alloc ?_ _) | (with_reducible refine au ?_ _) | (with_reducible refine Kd.C_drew ?_)))
   (case aB => exact J0)
   (case aF => exact (fun _ _ => trivial))
   (case aO => exact (zr HO665.out))
   (case aS => exact (Xc J0))
   (case aL => have := LMc6.out; omega)
   intro v668 w19 ho hb hg hat
   rw [← Ny667.out] at ho
   replace HO_3 := zq (bs (ok := (fun k_ => some k_ ≠ (v654 : Value).ownBlock ∧ some k_ ≠ (v661 : Value).ownBlock)) (by (with_reducible repeat (first | apply Kd.S_alloc | apply Kd.S_drewN | apply bh)); exact bl HO_3.out (fun _ hk => ⟨⟨hk.1, hk.2.1⟩, hk.2.2⟩)) hg hat)
   replace HO655 := zq (a9 (zr HO655.out) (aK (zr HO665.out)) J14 hg)
   replace HO662 := zq (a9 (zr HO662.out) (aK (zr HO665.out)) J14 hg)
   replace HB := zq (hb)
   have HO669 := zq (ho)
   clear HO665
   clear ho hb hg hat
   obtain ⟨Ao20, co20, eo20⟩ := ah HO669.out
   (first | subst eo20 | (injection eo20 with f1_ f2_ f3_; have f4_ := f1_.symm; have f5_ := f3_.symm; clear f1_ f2_ f3_; subst f4_; subst f5_))
   obtain ⟨Ao21, co21, eo21⟩ := ah HO662.out
   (first | subst eo21 | (injection eo21 with f1_ f2_ f3_; have f4_ := f1_.symm; have f5_ := f3_.symm; clear f1_ f2_ f3_; subst f4_; subst f5_))
   obtain ⟨Ao22, co22, eo22⟩ := ah HO655.out
   (first | subst eo22 | (injection eo22 with f1_ f2_ f3_; have f4_ := f1_.symm; have f5_ := f3_.symm; clear f1_ f2_ f3_; subst f4_; subst f5_))
   refine hK.out _ _ ⟨(yh HB hw648_0), (yh HB hw648_1), (yh HB hw648_2), (yh HB hw648_3)⟩ (fun hHeld => ?_)
   clear hK K
   refine Xap (a' := ?_) ?_ ?_
   rotate_left
   ·show Act.put _ (some 37) _ = _
    simp only [Act.put, List.setIfInBounds_toArray, List.set_cons_zero, List.set_cons_succ, Xan, Xaq]
    rfl
   refine Xax 27 38 #[Y,Y,Y,Y,Y,Y,Y,Y,Y,Y,Y,Y,Y,Y,Y,Y,Y,Y,Y,Y,Y,Y,Y,Y,Y,Y,Y,Y,Z,Z,Z] HT_ ?_
   refine Xcb (i := 28) (N := some 39) #[Y,Y,Y,Y,Y,Y,Y,Y,Y,Y,Y,Y,Y,Y,Y,Y,Y,Y,Y,Y,Y,Y,Y,Y,Y,Y,Y,Y,Y,Z,Z] rfl rfl (Xbl HT_.out J17) J14 (fun K hK => ?_)
   refine value_ (w1 := ?_) (v := ?_) J63 rfl ?_ ?_
   rotate_left 2
   ·go_simp
    constructor
    ·rfl
    ·rfl
   refine hK.out _ _ ⟨(World.cell?_alloc_lt _ _ _ (World.block_lt_of_cell? _ _ ((yh HB hw648_0)))).trans ((yh HB hw648_0)), (World.cell?_alloc_lt _ _ _ (World.block_lt_of_cell? _ _ ((yh HB hw648_1)))).trans ((yh HB hw648_1)), (World.cell?_alloc_lt _ _ _ (World.block_lt_of_cell? _ _ ((yh HB hw648_2)))).trans ((yh HB hw648_2)), (World.cell?_alloc_lt _ _ _ (World.block_lt_of_cell? _ _ ((yh HB hw648_3)))).trans ((yh HB hw648_3))⟩ (fun hHeld => ?_)
   clear hK K
   refine Xap (a' := ?_) ?_ ?_
   rotate_left
   ·show Act.put _ (some 39) _ = _
    simp only [Act.put, List.setIfInBounds_toArray, List.set_cons_zero, List.set_cons_succ, Xan, Xaq]
    rfl
   refine Xcb (i := 29) (N := some 40) #[Y,Y,Y,Y,Y,Y,Y,Y,Y,Y,Y,Y,Y,Y,Y,Y,Y,Y,Y,Y,Y,Y,Y,Y,Y,Y,Y,Y,Y,Y,Z] rfl rfl (Xbl HT_.out J17) J14 (fun K hK => ?_)
   refine bV k30 (w0 := w) w.heap.size J63 (.tmp 11) (.tmp 39) 22 30 (.agg #[(.int .i64 0), (.slice none 0 0), (.slice none 0 0), (.slice none 0 0)]) 80 rfl Try.underlying22 Xck rfl J14 J29 (.slice Ao8 x3_1.length co8) x3_1 (⟨(Xa l0 x4_1).f0, y653, y660, y667⟩ : S30) [.int .i64 ((Xa l0 x4_1).f0), .slice Ao22 y653.length co22, .slice Ao21 y660.length co21, .slice Ao20 y667.length co20] (fun _ => True) (fun k_ => some k_ = (.slice Ao22 y653.length co22 : Value).ownBlock ∨ some k_ = (.slice Ao21 y660.length co21 : Value).ownBlock ∨ some k_ = (.slice Ao20 y667.length co20 : Value).ownBlock) rfl rfl ?aP (fun k_ hk_ => hk_.elim (fun h_ => ((af (ok' := fun k_ => ((fun _ => True)) k_ ∧ some k_ ≠ (.slice Ao8 x3_1.length co8 : Value).ownBlock) (aG (HO655.out) (bx HO_3.out) J14) (fun k_ hk => ⟨trivial, hk.2⟩))).1 k_ h_.symm) (fun h_ => h_.elim (fun h_ => ((af (ok' := fun k_ => ((fun _ => True)) k_ ∧ some k_ ≠ (.slice Ao8 x3_1.length co8 : Value).ownBlock) (aG (HO662.out) (bx HO_3.out) J14) (fun k_ hk => ⟨trivial, hk.2⟩))).1 k_ h_.symm) (fun h_ => ((af (ok' := fun k_ => ((fun _ => True)) k_ ∧ some k_ ≠ (.slice Ao8 x3_1.length co8 : Value).ownBlock) (aG (HO669.out) (bx HO_3.out) J14) (fun k_ hk => ⟨trivial, hk.2⟩))).1 k_ h_.symm))) ?aF ?aO ?aB ?aS ?aL ?_
   (case aP => exact k30_mkM _ _ _ (⟨(Xa l0 x4_1).f0, y653, y660, y667⟩ : S30) (af (bO rfl (af (ok' := fun k_ => ((fun _ => True)) k_ ∧ some k_ ≠ (.slice Ao8 x3_1.length co8 : Value).ownBlock) (aG (HO655.out) (bx HO_3.out) J14) (fun k_ hk => ⟨trivial, hk.2⟩))) (fun _ h_ => Or.inl h_)) (af (bO rfl (af (ok' := fun k_ => ((fun _ => True)) k_ ∧ some k_ ≠ (.slice Ao8 x3_1.length co8 : Value).ownBlock) (aG (HO662.out) (bx HO_3.out) J14) (fun k_ hk => ⟨trivial, hk.2⟩))) (fun _ h_ => Or.inr (Or.inl h_))) (af (bO rfl (af (ok' := fun k_ => ((fun _ => True)) k_ ∧ some k_ ≠ (.slice Ao8 x3_1.length co8 : Value).ownBlock) (aG (HO669.out) (bx HO_3.out) J14) (fun k_ hk => ⟨trivial, hk.2⟩))) (fun _ h_ => Or.inr (Or.inr (h_)))))
   (case aB => exact J0)
   (case aF => exact (fun _ _ => trivial))
   (case aO => exact (by (with_reducible repeat (first | apply Kd.S_alloc | apply Kd.S_drewN | apply bh)); exact bl HO_3.out (fun k_ hk => ⟨trivial, fun e_ => e_.elim (fun h_ => hk.1.1 h_) (fun h_ => h_.elim (fun h_ => hk.1.2 h_) (fun h_ => hk.2 h_))⟩)))
   (case aS => exact (Xc J0))
   (case aL => have := LMc7.out; omega)
   intro v671 w23 ho hb hg hat
   rw [← Ny670.out] at ho
   replace HB := zq (hb)
   have HO672 := zq (ho)
   clear HO_3 HO655 HO662 HO669
   clear ho hb hg hat
   refine hK.out _ _ ⟨(yh HB hw648_0), (yh HB hw648_1), (yh HB hw648_2), (yh HB hw648_3)⟩ (fun hHeld => ?_)
   clear hK K
   refine Xap (a' := ?_) ?_ ?_
   rotate_left
   ·show Act.put _ (some 40) _ = _
    simp only [Act.put, List.setIfInBounds_toArray, List.set_cons_zero, List.set_cons_succ, Xan, Xaq]
    rfl
   refine Xax 30 3 #[Y,Y,Y,Y,Y,Y,Y,Y,Y,Y,Y,Y,Y,Y,Y,Y,Y,Y,Y,Y,Y,Y,Y,Y,Y,Y,Y,Y,Y,Y,Y] HT_ ?_
   refine Xd3 (Xcw HT_.out J17) ?_
   try go_wp2
   go_roundg k1
   case measure => have := HK1.out; omega
   case rel => exact ⟨(y670), (wrap64 (x4_1 + 1)), J4, H', ⟨J84⟩, ⟨by (with_reducible repeat (first | apply Kd.S_alloc | apply Kd.S_drewN | apply bh)); exact HO672.out⟩, ⟨J0⟩⟩
end Go.Proofs.Ytecdklheppcihaa.HTightTells
