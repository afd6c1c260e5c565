-- Written by the session's program hy.py.
import Derived.Test.YtcbalpchfcifeaaHRunsTellsx0
import Derived.Test.YtcbalpchfcifeaaHRunsTellsx3
import Derived.Test.YtcbalpchfcifeaaHRunsTellsx5
namespace Go.Proofs.Ytcbalpchfcifeaa.HRunsTells
open Go.RowKit Go.Proofs.YtcbalpchfcifeaaW.PrintWords Go.Proofs.YtcbalpchfcifeaaW.PrintLast Go.Proofs.YtcbalpchfcifeaaW.PrintMore
attribute [local go_sem] max2_int min2_int max_two min_two max_three min_three max_four min_four   -- for this text's walks alone
set_option linter.unusedVariables false
set_option linter.unusedSimpArgs false

/-! ### deckleref03_one: function 36 -/
def deckleref03_one.f : Nat → Int → Option (List Int)
  | 0, _ => none
  | k + 1, a0 => if a0 < 128 then (some (([(a0) % 256] : List Int))) else ((some (([(IntKind.u64.wrap ((Int.tmod a0 128) + 128)) % 256] : List Int) : List Int)).bind fun y345 => ((deckleref03_one.f k (IntKind.u64.wrap (Int.tdiv a0 128))).bind fun t348 => (if y345.length + t348.length < 140737488355328 then (some (y345 ++ t348)) else (none))))
theorem deckleref03_one.mono_l : ∀ k, (∀ y0, LeO (deckleref03_one.f k y0) (deckleref03_one.f (k + 1) y0))
  | 0 => fun _ r h => by simp [deckleref03_one.f] at h
  | k + 1 => by
    have ih0 := deckleref03_one.mono_l k
    · intro y0
      unfold deckleref03_one.f
      repeat' first
      | (with_reducible exact ih0 _)
      | (with_reducible exact LeO.refl _)
      | (with_reducible exact LeO.none _)
      | (with_reducible refine LeO.ite ?_ ?_)
      | (with_reducible refine LeO.bind ?_ (fun _ => ?_))
      | exact ih0 _
      | exact LeO.none _
      | refine LeO.ite ?_ ?_
      | refine LeO.bind ?_ (fun _ => ?_)
theorem deckleref03_one.mono : ∀ a0 k, LeO (deckleref03_one.f k a0) (deckleref03_one.f (k + 1) a0) := by
  intro a0 k
  have ih0 := deckleref03_one.mono_l k
  exact ih0 a0
set_option maxHeartbeats 8000000 in
set_option maxRecDepth 100000 in
theorem deckleref03_one.calls (k : Nat) : ∀ (a0 : Int) (r : List Int) (w : World) (h : deckleref03_one.f k a0 = some r),
    Calls Try.prog 36 #[.int .u64 a0] w fun e w' => ∃ v0_ : Value, e = .returned (v0_) ∧ Kd.R (Kd.int .u8) 5 w' w.heap.size (fun _ => True) v0_ r ∧ Below w.heap.size w w' := by
  induction k using Nat.strongRecOn with
  | _ k ih =>
  intro a0 r w h
  cases k with
  | zero => exact absurd h (by simp [deckleref03_one.f])
  | succ k =>
  simp only [deckleref03_one.f] at h
  have HB := Aside0.mk (Below.refl w.heap.size w)
  have H : (if a0 < 128 then (some (([(a0) % 256] : List Int))) else ((some (([(IntKind.u64.wrap ((Int.tmod a0 128) + 128)) % 256] : List Int) : List Int)).bind fun y345 => ((deckleref03_one.f k (IntKind.u64.wrap (Int.tdiv a0 128))).bind fun t348 => (if y345.length + t348.length < 140737488355328 then (some (y345 ++ t348)) else (none))))) = some r := h
  clear h
  by_cases c2 : a0 < 128
  · rw [if_pos c2] at H
    have c2b0 : decide (a0 < 128) = true := decide_eq_true c2
    clear c2
    obtain ⟨y342, hy342⟩ : ∃ y_ : List Int, y_ = (([(a0) % 256] : List Int)) := ⟨_, rfl⟩
    replace H : (some y342) = some r := by first | (rw [hy342]; with_reducible exact H) | (have H2_ := (Option.bind_some _ _).symm.trans H; rw [hy342]; with_reducible exact H2_) | (have H2_ := (Option.bind_some _ _).symm.trans H; with_reducible exact H2_) | with_reducible exact H | (rw [hy342]; exact H) | exact H
    have Ny342 := Aside0.mk hy342
    clear hy342
    obtain rfl := Option.some.inj H
    go_enter Try.func36, Try.ntmps36
    go_wp2_with (first | ((with_reducible refine gate_dst (N := 7) rfl ?_); refine Kd.R_lit (Kd.int .u8) _ 5 ?hg (N := 7) ?hd (xs := ([(a0) % 256] : List Int)) (inner := [.int .u8 ((a0) % 256)]) (ok := fun _ => True) (okp := fun _ => True) ?hr ?hp (fun _ hk => hk) trivial (Below.refl _ _) (Nat.le_refl _) (by simp) ?_; (case hd => rfl); (case hg => rfl); (case hr => first | (go_simp; done) | (go_simp; rfl)); (case hp => exact (Reps.one (show Kd.M (Kd.int .u8) _ _ _ ((a0) % 256) [.int .u8 ((a0) % 256)] from rfl) (Reps.none _ _))); intro v343 w3 ho4 hb hg_ hnew_; clear hg_ hnew_; (first | rw [← Ny342.out] at ho4 | (simp only [Int.reduceToNat] at ho4; rw [← Ny342.out] at ho4)); have n0_ := Aside0.mk (Kd.R_lower ho4 (below_size (by repeat (first | (with_reducible first | exact HB.out | apply below_alloc | apply pw_below_drewN | apply below_drew1) | exact HB.out)))); have n1_ := Aside0.mk (below_step (by repeat (first | (with_reducible first | exact HB.out | apply below_alloc | apply pw_below_drewN | apply below_drew1) | exact HB.out)) hb); clear HB; have HO344 := n0_; have HB := n1_; clear n0_ n1_; clear hb ho4))
    go_ret
    exact ⟨_, by first | rfl | (simp [errW_none, errW_some] <;> rfl) | (simp [*, errW_none, errW_some] <;> rfl), by (with_reducible repeat (first | apply Kd.R_alloc | apply Kd.R_drewN | apply Kd.R_drew)); exact HO344.out, by repeat (first | (with_reducible first | exact HB.out | apply below_alloc | apply pw_below_drewN | apply below_drew1) | exact HB.out)⟩
  · rw [if_neg c2] at H
    have c2b0 : decide (a0 < 128) = false := decide_eq_false c2
    clear c2
    obtain ⟨y345, hy345⟩ : ∃ y_ : List Int, y_ = (([(IntKind.u64.wrap ((Int.tmod a0 128) + 128)) % 256] : List Int)) := ⟨_, rfl⟩
    replace H : ((deckleref03_one.f k (IntKind.u64.wrap (Int.tdiv a0 128))).bind fun t348 => (if y345.length + t348.length < 140737488355328 then (some (y345 ++ t348)) else (none))) = some r := by first | (rw [hy345]; with_reducible exact H) | (have H2_ := (Option.bind_some _ _).symm.trans H; rw [hy345]; with_reducible exact H2_) | (have H2_ := (Option.bind_some _ _).symm.trans H; with_reducible exact H2_) | with_reducible exact H | (rw [hy345]; exact H) | exact H
    have Ny345 := Aside0.mk hy345
    clear hy345
    replace H := Option.bind_eq_some_iff.mp H
    obtain ⟨t348, A50, H⟩ := H
    replace H : (if y345.length + t348.length < 140737488355328 then (some (y345 ++ t348)) else (none)) = some r := H
    have A5 := Aside0.mk A50
    clear A50
    by_cases c6 : y345.length + t348.length < 140737488355328
    · rw [if_pos c6] at H
      have LMc6 := Aside0.mk c6
      clear c6
      obtain ⟨y351, hy351⟩ : ∃ y_ : List Int, y_ = (y345 ++ t348) := ⟨_, rfl⟩
      replace H : (some y351) = some r := by first | (rw [hy351]; with_reducible exact H) | (have H2_ := (Option.bind_some _ _).symm.trans H; rw [hy351]; with_reducible exact H2_) | (have H2_ := (Option.bind_some _ _).symm.trans H; with_reducible exact H2_) | with_reducible exact H | (rw [hy351]; exact H) | exact H
      have Ny351 := Aside0.mk hy351
      clear hy351
      obtain rfl := Option.some.inj H
      go_enter Try.func36, Try.ntmps36
      go_wp2_with (first | ((with_reducible refine gate_dst (N := 12) rfl ?_); refine Kd.R_lit (Kd.int .u8) _ 5 ?hg (N := 12) ?hd (xs := ([(IntKind.u64.wrap ((Int.tmod a0 128) + 128)) % 256] : List Int)) (inner := [.int .u8 ((IntKind.u64.wrap ((Int.tmod a0 128) + 128)) % 256)]) (ok := fun _ => True) (okp := fun _ => True) ?hr ?hp (fun _ hk => hk) trivial (Below.refl _ _) (Nat.le_refl _) (by simp) ?_; (case hd => rfl); (case hg => rfl); (case hr => first | (go_simp; done) | (go_simp; rfl)); (case hp => exact (Reps.one (show Kd.M (Kd.int .u8) _ _ _ ((IntKind.u64.wrap ((Int.tmod a0 128) + 128)) % 256) [.int .u8 ((IntKind.u64.wrap ((Int.tmod a0 128) + 128)) % 256)] from rfl) (Reps.none _ _))); intro v346 w7 ho8 hb hg_ hnew_; clear hg_ hnew_; (first | rw [← Ny345.out] at ho8 | (simp only [Int.reduceToNat] at ho8; rw [← Ny345.out] at ho8)); have n0_ := Aside0.mk (Kd.R_lower ho8 (below_size (by repeat (first | (with_reducible first | exact HB.out | apply below_alloc | apply pw_below_drewN | apply below_drew1) | exact HB.out)))); have n1_ := Aside0.mk (below_step (by repeat (first | (with_reducible first | exact HB.out | apply below_alloc | apply pw_below_drewN | apply below_drew1) | exact HB.out)) hb); clear HB; have HO347 := n0_; have HB := n1_; clear n0_ n1_; clear hb ho8) | ((with_reducible refine gate_callee (f := 36) rfl ?_); refine goesL_ (some 15) rfl rfl Try.func36 (by kernel_rfl) rfl #[.int .u64 (IntKind.u64.wrap (Int.tdiv a0 128))] rfl (by (try simp only [List.map_toArray, List.map_cons, List.map_nil]); first | done | rfl | (simp only [List.length_drop, List.length_take]; rfl)) ?_; (with_reducible refine (ih k (by omega) (IntKind.u64.wrap (Int.tdiv a0 128)) t348 _ A5.out).mono ?_); rintro e w9 ⟨v349, rfl, ho0, hb⟩; refine ⟨_, rfl, ?_⟩; have n0_ := Aside0.mk (Kd.R_elder' (by (with_reducible repeat (first | apply Kd.R_alloc | apply Kd.R_drewN | apply Kd.R_drew)); exact HO347.out) (Kd.R_base ho0) hb); have n1_ := Aside0.mk (Kd.R_lower (Kd.R_new' ho0 (Kd.R_lt (by (with_reducible repeat (first | apply Kd.R_alloc | apply Kd.R_drewN | apply Kd.R_drew)); exact HO347.out))) (below_size (by repeat (first | (with_reducible first | exact HB.out | apply below_alloc | apply pw_below_drewN | apply below_drew1) | exact HB.out)))); have n2_ := Aside0.mk (below_step (by repeat (first | (with_reducible first | exact HB.out | apply below_alloc | apply pw_below_drewN | apply below_drew1) | exact HB.out)) hb); clear HO347; clear HB; have HO347 := n0_; have HO350 := n1_; have HB := n2_; clear n0_ n1_ n2_; (try clear hb); (try clear hb2); (try clear hk); (try clear hi); (try clear ho0); obtain ⟨Ao11, co11, eo11⟩ := Kd.R_slice HO350.out; subst eo11) | ((with_reducible refine gate_builtin (b := .append) (xs := #[.tmp 12, .tmp 15]) rfl ?_); at_builtin; refine Kd.R_append_rows (Kd.int .u8) (w0 := w) w.heap.size rfl (.tmp 12) (.tmp 15) 22 5 (.int .u8 0) 1 rfl Try.underlying22 info5 rfl (by decide) (by omega) v346 y345 t348 _ _ _ (fun k_ => some k_ ≠ (.slice Ao11 t348.length co11 : Value).ownBlock) (fun _ => False) rfl rfl ?aO ?aR (fun _ _ h => h) (fun _ h => h.elim) ?aF ?aB ?aS ?aL ?_; (case aR => repeat (first | exact (Kd.R_reads' HO350.out).2.2 | (with_reducible refine Kd.C_alloc ?_ _) | (with_reducible refine Kd.C_drewN ?_ _) | (with_reducible refine Kd.C_drew ?_))); (case aB => exact (by repeat (first | (with_reducible first | exact HB.out | apply below_alloc | apply pw_below_drewN | apply below_drew1) | exact HB.out))); (case aF => exact (fun k_ hk => Kd.fresh' (Kd.R_lt (by (with_reducible repeat (first | apply Kd.R_alloc | apply Kd.R_drewN | apply Kd.R_drew)); exact HO350.out)) k_ hk)); (case aO => exact (by (with_reducible repeat (first | apply Kd.R_alloc | apply Kd.R_drewN | apply Kd.R_drew)); exact Kd.R_mono HO347.out (fun _ hk => hk.2))); (case aS => exact (below_size (by repeat (first | (with_reducible first | exact HB.out | apply below_alloc | apply pw_below_drewN | apply below_drew1) | exact HB.out)))); (case aL => have := LMc6.out; omega); intro v352 w10 ho hb hg hat; rw [← Ny351.out] at ho; have n0_ := Aside0.mk (Kd.R_after (ok := (fun _ => True)) (by (with_reducible repeat (first | apply Kd.R_alloc | apply Kd.R_drewN | apply Kd.R_drew)); exact HO350.out) hg hat); have n1_ := Aside0.mk (hb); have n2_ := Aside0.mk (ho); clear HO350; clear HB; clear HO347; have HO350 := n0_; have HB := n1_; have HO353 := n2_; clear n0_ n1_ n2_; clear ho hb hg hat))
      go_ret
      exact ⟨_, by first | rfl | (simp [errW_none, errW_some] <;> rfl) | (simp [*, errW_none, errW_some] <;> rfl), by (with_reducible repeat (first | apply Kd.R_alloc | apply Kd.R_drewN | apply Kd.R_drew)); exact Kd.R_mono HO353.out (fun _ hk => trivial), by repeat (first | (with_reducible first | exact HB.out | apply below_alloc | apply pw_below_drewN | apply below_drew1) | exact HB.out)⟩
    · rw [if_neg c6] at H
      exact absurd H (by simp)

/-! ### deckleref03_Put: function 23 -/
def deckleref03_Put.l0 : Nat → List Int → List Int → Int → Option (List Int)
  | 0, _, _, _ => none
  | k + 1, x1, x5, x6 => if x6 < (x1.length : Int) then (if 0 ≤ x6 then ((deckleref03_one.f k (rd x1 x6)).bind fun t361 => (if x5.length + t361.length < 140737488355328 then (deckleref03_Put.l0 k x1 (x5 ++ t361) (wrap64 (x6 + 1))) else (none))) else (none)) else (some x5)
def deckleref03_Put.f (k : Nat) (l0 : List Int) (l1 : List Int) : Option (List Int) := (some (([] : List Int) : List Int)).bind fun y354 => (if y354.length + l0.length < 140737488355328 then (deckleref03_Put.l0 k l1 (y354 ++ l0) 0) else (none))
theorem deckleref03_Put.mono_l : ∀ k, (∀ y0 y1 y2, LeO (deckleref03_Put.l0 k y0 y1 y2) (deckleref03_Put.l0 (k + 1) y0 y1 y2))
  | 0 => fun _ _ _ r h => by simp [deckleref03_Put.l0] at h
  | k + 1 => by
    have ih0 := deckleref03_Put.mono_l k
    · intro y0 y1 y2
      unfold deckleref03_Put.l0
      repeat' first
      | (with_reducible exact ih0 _ _ _)
      | (with_reducible exact deckleref03_one.mono _ _)
      | (with_reducible exact LeO.refl _)
      | (with_reducible exact LeO.none _)
      | (with_reducible refine LeO.ite ?_ ?_)
      | (with_reducible refine LeO.bind ?_ (fun _ => ?_))
      | exact ih0 _ _ _
      | exact deckleref03_one.mono _ _
      | exact LeO.none _
      | refine LeO.ite ?_ ?_
      | refine LeO.bind ?_ (fun _ => ?_)
theorem deckleref03_Put.mono : ∀ a0 a1 k, LeO (deckleref03_Put.f k a0 a1) (deckleref03_Put.f (k + 1) a0 a1) := by
  intro a0 a1 k
  have ih0 := deckleref03_Put.mono_l k
  unfold deckleref03_Put.f
  repeat' first
      | (with_reducible exact ih0 _ _ _)
      | (with_reducible exact deckleref03_one.mono _ _)
      | (with_reducible exact LeO.refl _)
      | (with_reducible exact LeO.none _)
      | (with_reducible refine LeO.ite ?_ ?_)
      | (with_reducible refine LeO.bind ?_ (fun _ => ?_))
      | exact ih0 _ _ _
      | exact deckleref03_one.mono _ _
      | exact LeO.none _
      | refine LeO.ite ?_ ?_
      | refine LeO.bind ?_ (fun _ => ?_)
set_option maxHeartbeats 8000000 in
set_option maxRecDepth 100000 in
theorem deckleref03_Put.calls (k : Nat) (A0 : Option Addr) (c0 : Nat) (l0 : List Int) (A1 : Option Addr) (c1 : Nat) (l1 : List Int) (r : List Int) (w : World) (hr0 : Kd.C (Kd.int .u8) w A0 l0.length l0) (hc0 : l0.length ≤ c0) (hr1 : Kd.C (Kd.int .u64) w A1 l1.length l1) (hc1 : l1.length ≤ c1) (h : deckleref03_Put.f k l0 l1 = some r) :
    Calls Try.prog 23 #[.slice A0 l0.length c0, .slice A1 l1.length c1] w fun e w' => ∃ v0_ : Value, e = .returned (v0_) ∧ Kd.R (Kd.int .u8) 5 w' w.heap.size (fun _ => True) v0_ r ∧ Below w.heap.size w w' := by
  have HR0 := Aside0.mk hr0
  have HC0 := Aside0.mk hc0
  clear hr0 hc0
  have HR1 := Aside0.mk hr1
  have HC1 := Aside0.mk hc1
  clear hr1 hc1
  have HB := Aside0.mk (Below.refl w.heap.size w)
  have H : ((some (([] : List Int) : List Int)).bind fun y354 => (if y354.length + l0.length < 140737488355328 then (deckleref03_Put.l0 k l1 (y354 ++ l0) 0) else (none))) = some r := h
  clear h
  obtain ⟨y354, hy354⟩ : ∃ y_ : List Int, y_ = (([] : List Int)) := ⟨_, rfl⟩
  replace H : (if y354.length + l0.length < 140737488355328 then (deckleref03_Put.l0 k l1 (y354 ++ l0) 0) else (none)) = some r := by first | (rw [hy354]; with_reducible exact H) | (have H2_ := (Option.bind_some _ _).symm.trans H; rw [hy354]; with_reducible exact H2_) | (have H2_ := (Option.bind_some _ _).symm.trans H; with_reducible exact H2_) | with_reducible exact H | (rw [hy354]; exact H) | exact H
  have Ny354 := Aside0.mk hy354
  clear hy354
  by_cases c3 : y354.length + l0.length < 140737488355328
  · rw [if_pos c3] at H
    have LMc3 := Aside0.mk c3
    clear c3
    obtain ⟨y357, hy357⟩ : ∃ y_ : List Int, y_ = (y354 ++ l0) := ⟨_, rfl⟩
    replace H : (deckleref03_Put.l0 k l1 y357 0) = some r := by first | (rw [hy357]; with_reducible exact H) | (have H2_ := (Option.bind_some _ _).symm.trans H; rw [hy357]; with_reducible exact H2_) | (have H2_ := (Option.bind_some _ _).symm.trans H; with_reducible exact H2_) | with_reducible exact H | (rw [hy357]; exact H) | exact H
    have Ny357 := Aside0.mk hy357
    clear hy357
    have H' := Aside0.mk H
    clear H
    go_enter Try.func23, Try.ntmps23
    go_wp2_with (first | ((with_reducible refine gate_dst (N := 7) rfl ?_); refine Kd.R_lit (Kd.int .u8) _ 5 ?hg (N := 7) ?hd (xs := ([] : List Int)) (inner := []) (ok := fun _ => True) (okp := fun _ => True) ?hr ?hp (fun _ hk => hk) trivial (Below.refl _ _) (Nat.le_refl _) (by simp) ?_; (case hd => rfl); (case hg => rfl); (case hr => first | (go_simp; done) | (go_simp; rfl)); (case hp => exact (Reps.none _ _)); intro v355 w4 ho5 hb hg_ hnew_; clear hg_ hnew_; (first | rw [← Ny354.out] at ho5 | (simp only [Int.reduceToNat] at ho5; rw [← Ny354.out] at ho5)); have n0_ := Aside0.mk (Kd.R_lower ho5 (below_size (by repeat (first | (with_reducible first | exact HB.out | apply below_alloc | apply pw_below_drewN | apply below_drew1) | exact HB.out)))); have n1_ := Aside0.mk (below_step (by repeat (first | (with_reducible first | exact HB.out | apply below_alloc | apply pw_below_drewN | apply below_drew1) | exact HB.out)) hb); clear HB; have HO356 := n0_; have HB := n1_; clear n0_ n1_; clear hb ho5) | ((with_reducible refine gate_builtin (b := .append) (xs := #[.tmp 7, .tmp 8]) rfl ?_); at_builtin; refine Kd.R_append_rows (Kd.int .u8) (w0 := w) w.heap.size rfl (.tmp 7) (.tmp 8) 22 5 (.int .u8 0) 1 rfl Try.underlying22 info5 rfl (by decide) (by omega) v355 y354 l0 _ _ _ (fun _ => True) (fun _ => False) rfl rfl ?aO ?aR (fun _ _ h => h) (fun _ h => h.elim) ?aF ?aB ?aS ?aL ?_; (case aR => repeat (first | exact (Kd.C_below HR0.out HB.out) | (with_reducible refine Kd.C_alloc ?_ _) | (with_reducible refine Kd.C_drewN ?_ _) | (with_reducible refine Kd.C_drew ?_))); (case aB => exact (by repeat (first | (with_reducible first | exact HB.out | apply below_alloc | apply pw_below_drewN | apply below_drew1) | exact HB.out))); (case aF => exact (fun _ _ => trivial)); (case aO => exact (by (with_reducible repeat (first | apply Kd.R_alloc | apply Kd.R_drewN | apply Kd.R_drew)); exact HO356.out)); (case aS => exact (below_size (by repeat (first | (with_reducible first | exact HB.out | apply below_alloc | apply pw_below_drewN | apply below_drew1) | exact HB.out)))); (case aL => have := LMc3.out; omega); intro v358 w6 ho hb hg hat; rw [← Ny357.out] at ho; have n0_ := Aside0.mk (hb); have n1_ := Aside0.mk (ho); clear HB; clear HO356; have HB := n0_; have HO359 := n1_; clear n0_ n1_; clear ho hb hg hat))
    go_loopg [5, 6] k (fun kq v5 v6 w' => ∃ (x5_1 : List Int) (x6_1 : Int), v6 = .int .i64 x6_1 ∧ Aside0 (deckleref03_Put.l0 kq l1 x5_1 x6_1 = some r) ∧ Aside0 (kq ≤ k) ∧ Aside0 (Kd.R (Kd.int .u8) 5 w' w.heap.size (fun _ => True) v5 x5_1) ∧ Aside0 (Below w.heap.size w w'))
    case atStart => exact ⟨(y357), (0), (by first | rfl | (simp; done) | (simp [*]; done)), H', ⟨Nat.le_refl _⟩, ⟨by (with_reducible repeat (first | apply Kd.R_alloc | apply Kd.R_drewN | apply Kd.R_drew)); exact HO359.out⟩, ⟨by repeat (first | (with_reducible first | exact HB.out | apply below_alloc | apply pw_below_drewN | apply below_drew1) | exact HB.out)⟩⟩
    case round =>
      clear H'
      try clear c1
      try clear c2
      try clear p2
      try clear c3
      obtain ⟨x5_1, x6_1, rfl, HA, HK1, HO_5, HB⟩ := hrel
      cases gk with
      | zero => exact absurd HA.out (by simp [deckleref03_Put.l0])
      | succ k1 =>
        have H := HA.out
        clear HA
        simp only [deckleref03_Put.l0] at H
        by_cases c7 : x6_1 < (l1.length : Int)
        · rw [if_pos c7] at H
          have c7b0 : decide (x6_1 < (l1.length : Int)) = true := decide_eq_true c7
          clear c7
          by_cases c8 : 0 ≤ x6_1
          · rw [if_pos c8] at H
            have c8b0 : decide (0 ≤ x6_1) = true := decide_eq_true c8
            clear c8
            replace H := Option.bind_eq_some_iff.mp H
            obtain ⟨t361, A90, H⟩ := H
            replace H : (if x5_1.length + t361.length < 140737488355328 then (deckleref03_Put.l0 k1 l1 (x5_1 ++ t361) (wrap64 (x6_1 + 1))) else (none)) = some r := H
            have A9 := Aside0.mk A90
            clear A90
            by_cases c10 : x5_1.length + t361.length < 140737488355328
            · rw [if_pos c10] at H
              have LMc10 := Aside0.mk c10
              clear c10
              obtain ⟨y364, hy364⟩ : ∃ y_ : List Int, y_ = (x5_1 ++ t361) := ⟨_, rfl⟩
              replace H : (deckleref03_Put.l0 k1 l1 y364 (wrap64 (x6_1 + 1))) = some r := by first | (rw [hy364]; with_reducible exact H) | (have H2_ := (Option.bind_some _ _).symm.trans H; rw [hy364]; with_reducible exact H2_) | (have H2_ := (Option.bind_some _ _).symm.trans H; with_reducible exact H2_) | with_reducible exact H | (rw [hy364]; exact H) | exact H
              have Ny364 := Aside0.mk hy364
              clear hy364
              have H' := Aside0.mk H
              clear H
              have p360 : 0 ≤ (x6_1 : Int) := of_decide_eq_true (by first | (with_reducible assumption) | assumption)
              have q360 : x6_1 < (l1.length : Int) := of_decide_eq_true (by first | (with_reducible assumption) | assumption)
              obtain ⟨ad360, e360, hx360_0⟩ := Kd.at_int HR1.out x6_1 p360 q360
              cases e360
              replace hx360_0 := (HB.out.cell (World.block_lt_of_cell? w _ hx360_0)).trans hx360_0
              replace p360 := eq_true p360
              replace q360 := eq_true q360
              go_wp2_with (first | ((with_reducible refine gate_callee (f := 36) rfl ?_); refine goesL_ (some 21) rfl rfl Try.func36 (by kernel_rfl) rfl #[.int .u64 (rd l1 x6_1)] rfl (by (try simp only [List.map_toArray, List.map_cons, List.map_nil]); first | done | rfl | (simp only [List.length_drop, List.length_take]; rfl)) ?_; (with_reducible refine (deckleref03_one.calls k1 (rd l1 x6_1) t361 _ A9.out).mono ?_); rintro e w11 ⟨v362, rfl, ho0, hb⟩; refine ⟨_, rfl, ?_⟩; have n0_ := Aside0.mk (Kd.R_elder' (by (with_reducible repeat (first | apply Kd.R_alloc | apply Kd.R_drewN | apply Kd.R_drew)); exact HO_5.out) (Kd.R_base ho0) hb); have n1_ := Aside0.mk (Kd.R_lower (Kd.R_new' ho0 (Kd.R_lt (by (with_reducible repeat (first | apply Kd.R_alloc | apply Kd.R_drewN | apply Kd.R_drew)); exact HO_5.out))) (below_size (by repeat (first | (with_reducible first | exact HB.out | apply below_alloc | apply pw_below_drewN | apply below_drew1) | exact HB.out)))); have n2_ := Aside0.mk (below_step (by repeat (first | (with_reducible first | exact HB.out | apply below_alloc | apply pw_below_drewN | apply below_drew1) | exact HB.out)) hb); clear HO_5; clear HB; have HO_5 := n0_; have HO363 := n1_; have HB := n2_; clear n0_ n1_ n2_; (try clear hb); (try clear hb2); (try clear hk); (try clear hi); (try clear ho0); obtain ⟨Ao13, co13, eo13⟩ := Kd.R_slice HO363.out; subst eo13) | ((with_reducible refine gate_builtin (b := .append) (xs := #[.tmp 16, .tmp 21]) rfl ?_); at_builtin; refine Kd.R_append_rows (Kd.int .u8) (w0 := w) w.heap.size rfl (.tmp 16) (.tmp 21) 22 5 (.int .u8 0) 1 rfl Try.underlying22 info5 rfl (by decide) (by omega) u5 x5_1 t361 _ _ _ (fun k_ => some k_ ≠ (.slice Ao13 t361.length co13 : Value).ownBlock) (fun _ => False) rfl rfl ?aO ?aR (fun _ _ h => h) (fun _ h => h.elim) ?aF ?aB ?aS ?aL ?_; (case aR => repeat (first | exact (Kd.R_reads' HO363.out).2.2 | (with_reducible refine Kd.C_alloc ?_ _) | (with_reducible refine Kd.C_drewN ?_ _) | (with_reducible refine Kd.C_drew ?_))); (case aB => exact (by repeat (first | (with_reducible first | exact HB.out | apply below_alloc | apply pw_below_drewN | apply below_drew1) | exact HB.out))); (case aF => exact (fun k_ hk => Kd.fresh' (Kd.R_lt (by (with_reducible repeat (first | apply Kd.R_alloc | apply Kd.R_drewN | apply Kd.R_drew)); exact HO363.out)) k_ hk)); (case aO => exact (by (with_reducible repeat (first | apply Kd.R_alloc | apply Kd.R_drewN | apply Kd.R_drew)); exact Kd.R_mono HO_5.out (fun _ hk => hk.2))); (case aS => exact (below_size (by repeat (first | (with_reducible first | exact HB.out | apply below_alloc | apply pw_below_drewN | apply below_drew1) | exact HB.out)))); (case aL => have := LMc10.out; omega); intro v365 w12 ho hb hg hat; rw [← Ny364.out] at ho; have n0_ := Aside0.mk (Kd.R_after (ok := (fun _ => True)) (by (with_reducible repeat (first | apply Kd.R_alloc | apply Kd.R_drewN | apply Kd.R_drew)); exact HO363.out) hg hat); have n1_ := Aside0.mk (hb); have n2_ := Aside0.mk (ho); clear HO363; clear HB; clear HO_5; have HO363 := n0_; have HB := n1_; have HO366 := n2_; clear n0_ n1_ n2_; clear ho hb hg hat))
              go_roundg k1
              case measure => have := HK1.out; omega
              case rel => exact ⟨(y364), (wrap64 (x6_1 + 1)), (by first | rfl | (simp; done) | (simp [*]; done)), H', ⟨by have := HK1.out; omega⟩, ⟨by (with_reducible repeat (first | apply Kd.R_alloc | apply Kd.R_drewN | apply Kd.R_drew)); exact Kd.R_mono HO366.out (fun _ hk => trivial)⟩, ⟨by repeat (first | (with_reducible first | exact HB.out | apply below_alloc | apply pw_below_drewN | apply below_drew1) | exact HB.out)⟩⟩
            · rw [if_neg c10] at H
              exact absurd H (by simp)
          · rw [if_neg c8] at H
            exact absurd H (by simp)
        · rw [if_neg c7] at H
          have c7b0 : decide (x6_1 < (l1.length : Int)) = false := decide_eq_false c7
          clear c7
          obtain rfl := Option.some.inj H
          go_wp2
          go_ret
          exact ⟨_, by first | rfl | (simp [errW_none, errW_some] <;> rfl) | (simp [*, errW_none, errW_some] <;> rfl), by (with_reducible repeat (first | apply Kd.R_alloc | apply Kd.R_drewN | apply Kd.R_drew)); exact HO_5.out, by repeat (first | (with_reducible first | exact HB.out | apply below_alloc | apply pw_below_drewN | apply below_drew1) | exact HB.out)⟩
  · rw [if_neg c3] at H
    exact absurd H (by simp)

/-! ### deckleref05_Encode: function 13 -/
mutual
def deckleref05_Encode.l0 : Nat → List Int → List Int → Int → Option (List Int)
  | 0, _, _, _ => none
  | k + 1, x0, x3, x4 => if x4 < (x0.length : Int) then ((deckleref05_alike.f k x0 x4).bind fun t367 => (if t367 ≥ 3 then ((deckleref03_Put.f k ([] : List Int) (([IntKind.u64.wrap ((IntKind.u64.wrap (2 * (IntKind.u64.wrap (wrap64 (t367 - 3))))) + 1)] : List Int))).bind fun t371 => (if x3.length + t371.length < 140737488355328 then ((some (x3 ++ t371 : List Int)).bind fun y374 => (if 0 ≤ x4 then (if y374.length < 140737488355328 then (deckleref05_Encode.l0 k x0 (y374 ++ [rd x0 x4]) (wrap64 (x4 + t367))) else (none)) else (none))) else (none))) else (deckleref05_Encode.l1 k x0 x3 x4 x4))) else (some x3)
def deckleref05_Encode.l1 : Nat → List Int → List Int → Int → Int → Option (List Int)
  | 0, _, _, _, _ => none
  | k + 1, x0, x3, x4, x6 => if x6 < (x0.length : Int) then ((deckleref05_alike.f k x0 x6).bind fun t381 => (if t381 < 3 then ((deckleref05_alike.f k x0 x6).bind fun t382 => (deckleref05_Encode.l1 k x0 x3 x4 (wrap64 (x6 + t382)))) else ((deckleref03_Put.f k ([] : List Int) (([IntKind.u64.wrap (2 * (IntKind.u64.wrap (wrap64 ((wrap64 (x6 - x4)) - 1))))] : List Int))).bind fun t386 => (if x3.length + t386.length < 140737488355328 then ((some (x3 ++ t386 : List Int)).bind fun y389 => (if 0 ≤ x4 then (if x4 ≤ x6 then (if x6 ≤ (x0.length : Int) then (if y389.length + ((x0.take (x6 : Int).toNat).drop (x4 : Int).toNat).length < 140737488355328 then (deckleref05_Encode.l0 k x0 (y389 ++ ((x0.take (x6 : Int).toNat).drop (x4 : Int).toNat)) x6) else (none)) else (none)) else (none)) else (none))) else (none))))) else ((deckleref03_Put.f k ([] : List Int) (([IntKind.u64.wrap (2 * (IntKind.u64.wrap (wrap64 ((wrap64 (x6 - x4)) - 1))))] : List Int))).bind fun t399 => (if x3.length + t399.length < 140737488355328 then ((some (x3 ++ t399 : List Int)).bind fun y402 => (if 0 ≤ x4 then (if x4 ≤ x6 then (if x6 ≤ (x0.length : Int) then (if y402.length + ((x0.take (x6 : Int).toNat).drop (x4 : Int).toNat).length < 140737488355328 then (deckleref05_Encode.l0 k x0 (y402 ++ ((x0.take (x6 : Int).toNat).drop (x4 : Int).toNat)) x6) else (none)) else (none)) else (none)) else (none))) else (none)))
end
def deckleref05_Encode.f (k : Nat) (l0 : List Int) : Option (List Int) := deckleref05_Encode.l0 k l0 ([] : List Int) 0
theorem deckleref05_Encode.mono_l : ∀ k, (∀ y0 y1 y2, LeO (deckleref05_Encode.l0 k y0 y1 y2) (deckleref05_Encode.l0 (k + 1) y0 y1 y2)) ∧ (∀ y0 y1 y2 y3, LeO (deckleref05_Encode.l1 k y0 y1 y2 y3) (deckleref05_Encode.l1 (k + 1) y0 y1 y2 y3))
  | 0 => ⟨fun _ _ _ r h => by simp [deckleref05_Encode.l0] at h, fun _ _ _ _ r h => by simp [deckleref05_Encode.l1] at h⟩
  | k + 1 => by
    obtain ⟨ih0, ih1⟩ := deckleref05_Encode.mono_l k
    refine ⟨?_, ?_⟩
    · intro y0 y1 y2
      unfold deckleref05_Encode.l0
      repeat' first
      | (with_reducible exact ih0 _ _ _)
      | (with_reducible exact ih1 _ _ _ _)
      | (with_reducible exact deckleref03_Put.mono _ _ _)
      | (with_reducible exact deckleref05_alike.mono _ _ _)
      | (with_reducible exact LeO.refl _)
      | (with_reducible exact LeO.none _)
      | (with_reducible refine LeO.ite ?_ ?_)
      | (with_reducible refine LeO.bind ?_ (fun _ => ?_))
      | exact ih0 _ _ _
      | exact ih1 _ _ _ _
      | exact deckleref03_Put.mono _ _ _
      | exact deckleref05_alike.mono _ _ _
      | exact LeO.none _
      | refine LeO.ite ?_ ?_
      | refine LeO.bind ?_ (fun _ => ?_)
    · intro y0 y1 y2 y3
      unfold deckleref05_Encode.l1
      repeat' first
      | (with_reducible exact ih0 _ _ _)
      | (with_reducible exact ih1 _ _ _ _)
      | (with_reducible exact deckleref03_Put.mono _ _ _)
      | (with_reducible exact deckleref05_alike.mono _ _ _)
      | (with_reducible exact LeO.refl _)
      | (with_reducible exact LeO.none _)
      | (with_reducible refine LeO.ite ?_ ?_)
      | (with_reducible refine LeO.bind ?_ (fun _ => ?_))
      | exact ih0 _ _ _
      | exact ih1 _ _ _ _
      | exact deckleref03_Put.mono _ _ _
      | exact deckleref05_alike.mono _ _ _
      | exact LeO.none _
      | refine LeO.ite ?_ ?_
      | refine LeO.bind ?_ (fun _ => ?_)
theorem deckleref05_Encode.mono : ∀ a0 k, LeO (deckleref05_Encode.f k a0) (deckleref05_Encode.f (k + 1) a0) := by
  intro a0 k
  obtain ⟨ih0, ih1⟩ := deckleref05_Encode.mono_l k
  unfold deckleref05_Encode.f
  repeat' first
      | (with_reducible exact ih0 _ _ _)
      | (with_reducible exact ih1 _ _ _ _)
      | (with_reducible exact deckleref03_Put.mono _ _ _)
      | (with_reducible exact deckleref05_alike.mono _ _ _)
      | (with_reducible exact LeO.refl _)
      | (with_reducible exact LeO.none _)
      | (with_reducible refine LeO.ite ?_ ?_)
      | (with_reducible refine LeO.bind ?_ (fun _ => ?_))
      | exact ih0 _ _ _
      | exact ih1 _ _ _ _
      | exact deckleref03_Put.mono _ _ _
      | exact deckleref05_alike.mono _ _ _
      | exact LeO.none _
      | refine LeO.ite ?_ ?_
      | refine LeO.bind ?_ (fun _ => ?_)
set_option maxHeartbeats 8000000 in
set_option maxRecDepth 100000 in
theorem deckleref05_Encode.calls (k : Nat) (A0 : Option Addr) (c0 : Nat) (l0 : List Int) (r : List Int) (w : World) (hr0 : Kd.C (Kd.int .u8) w A0 l0.length l0) (hc0 : l0.length ≤ c0) (h : deckleref05_Encode.f k l0 = some r) :
    Calls Try.prog 13 #[.slice A0 l0.length c0] w fun e w' => ∃ v0_ : Value, e = .returned (v0_) ∧ Kd.R (Kd.int .u8) 5 w' w.heap.size (fun _ => True) v0_ r ∧ Below w.heap.size w w' := by
  have HR0 := Aside0.mk hr0
  have HC0 := Aside0.mk hc0
  clear hr0 hc0
  have HB := Aside0.mk (Below.refl w.heap.size w)
  have H : (deckleref05_Encode.l0 k l0 ([] : List Int) 0) = some r := h
  clear h
  have H' := Aside0.mk H
  clear H
  go_enter Try.func13, Try.ntmps13
  go_wp2
  go_loopg [3, 4] k (fun kq v3 v4 w' => ∃ (x3_1 : List Int) (x4_1 : Int), v4 = .int .i64 x4_1 ∧ Aside0 (deckleref05_Encode.l0 kq l0 x3_1 x4_1 = some r) ∧ Aside0 (kq ≤ k) ∧ Aside0 (Kd.R (Kd.int .u8) 5 w' w.heap.size (fun _ => True) v3 x3_1) ∧ Aside0 (Below w.heap.size w w'))
  case atStart => exact ⟨(([] : List Int)), (0), (by first | rfl | (simp; done) | (simp [*]; done)), H', ⟨Nat.le_refl _⟩, ⟨by first | exact Kd.R_nil _ _ _ _ _ | exact Kd.N_nil _ _ _ _ _ | exact Kd.V_nil _ _ _ _ _ | exact Kd.Q_nil _ _ _ _ _ | exact Kd.S_nil _ _ _ _ _⟩, ⟨by repeat (first | (with_reducible first | exact HB.out | apply below_alloc | apply pw_below_drewN | apply below_drew1) | exact HB.out)⟩⟩
  case round =>
    clear H'
    try clear c1
    obtain ⟨x3_1, x4_1, rfl, HA, HK1, HO_3, HB⟩ := hrel
    cases gk with
    | zero => exact absurd HA.out (by simp [deckleref05_Encode.l0])
    | succ k1 =>
      have H := HA.out
      clear HA
      simp only [deckleref05_Encode.l0] at H
      by_cases c2 : x4_1 < (l0.length : Int)
      · rw [if_pos c2] at H
        have c2b0 : decide (x4_1 < (l0.length : Int)) = true := decide_eq_true c2
        clear c2
        replace H := Option.bind_eq_some_iff.mp H
        obtain ⟨t367, A30, H⟩ := H
        replace H : (if t367 ≥ 3 then ((deckleref03_Put.f k1 ([] : List Int) (([IntKind.u64.wrap ((IntKind.u64.wrap (2 * (IntKind.u64.wrap (wrap64 (t367 - 3))))) + 1)] : List Int))).bind fun t371 => (if x3_1.length + t371.length < 140737488355328 then ((some (x3_1 ++ t371 : List Int)).bind fun y374 => (if 0 ≤ x4_1 then (if y374.length < 140737488355328 then (deckleref05_Encode.l0 k1 l0 (y374 ++ [rd l0 x4_1]) (wrap64 (x4_1 + t367))) else (none)) else (none))) else (none))) else (deckleref05_Encode.l1 k1 l0 x3_1 x4_1 x4_1)) = some r := H
        have A3 := Aside0.mk A30
        clear A30
        by_cases c4 : t367 ≥ 3
        · rw [if_pos c4] at H
          have c4b0 : decide (3 ≤ t367) = true := decide_eq_true c4
          clear c4
          obtain ⟨y368, hy368⟩ : ∃ y_ : List Int, y_ = (([IntKind.u64.wrap ((IntKind.u64.wrap (2 * (IntKind.u64.wrap (wrap64 (t367 - 3))))) + 1)] : List Int)) := ⟨_, rfl⟩
          replace H : ((deckleref03_Put.f k1 ([] : List Int) y368).bind fun t371 => (if x3_1.length + t371.length < 140737488355328 then ((some (x3_1 ++ t371 : List Int)).bind fun y374 => (if 0 ≤ x4_1 then (if y374.length < 140737488355328 then (deckleref05_Encode.l0 k1 l0 (y374 ++ [rd l0 x4_1]) (wrap64 (x4_1 + t367))) else (none)) else (none))) else (none))) = some r := by first | (rw [hy368]; with_reducible exact H) | (have H2_ := (Option.bind_some _ _).symm.trans H; rw [hy368]; with_reducible exact H2_) | (have H2_ := (Option.bind_some _ _).symm.trans H; with_reducible exact H2_) | with_reducible exact H | (rw [hy368]; exact H) | exact H
          have Ny368 := Aside0.mk hy368
          clear hy368
          replace H := Option.bind_eq_some_iff.mp H
          obtain ⟨t371, A50, H⟩ := H
          replace H : (if x3_1.length + t371.length < 140737488355328 then ((some (x3_1 ++ t371 : List Int)).bind fun y374 => (if 0 ≤ x4_1 then (if y374.length < 140737488355328 then (deckleref05_Encode.l0 k1 l0 (y374 ++ [rd l0 x4_1]) (wrap64 (x4_1 + t367))) else (none)) else (none))) else (none)) = some r := H
          have A5 := Aside0.mk A50
          clear A50
          by_cases c6 : x3_1.length + t371.length < 140737488355328
          · rw [if_pos c6] at H
            have LMc6 := Aside0.mk c6
            clear c6
            obtain ⟨y374, hy374⟩ : ∃ y_ : List Int, y_ = (x3_1 ++ t371) := ⟨_, rfl⟩
            replace H : (if 0 ≤ x4_1 then (if y374.length < 140737488355328 then (deckleref05_Encode.l0 k1 l0 (y374 ++ [rd l0 x4_1]) (wrap64 (x4_1 + t367))) else (none)) else (none)) = some r := by first | (rw [hy374]; with_reducible exact H) | (have H2_ := (Option.bind_some _ _).symm.trans H; rw [hy374]; with_reducible exact H2_) | (have H2_ := (Option.bind_some _ _).symm.trans H; with_reducible exact H2_) | with_reducible exact H | (rw [hy374]; exact H) | exact H
            have Ny374 := Aside0.mk hy374
            clear hy374
            by_cases c7 : 0 ≤ x4_1
            · rw [if_pos c7] at H
              have c7b0 : decide (0 ≤ x4_1) = true := decide_eq_true c7
              clear c7
              by_cases c8 : y374.length < 140737488355328
              · rw [if_pos c8] at H
                have LMc8 := Aside0.mk c8
                clear c8
                obtain ⟨y378, hy378⟩ : ∃ y_ : List Int, y_ = (y374 ++ [rd l0 x4_1]) := ⟨_, rfl⟩
                replace H : (deckleref05_Encode.l0 k1 l0 y378 (wrap64 (x4_1 + t367))) = some r := by first | (rw [hy378]; with_reducible exact H) | (have H2_ := (Option.bind_some _ _).symm.trans H; rw [hy378]; with_reducible exact H2_) | (have H2_ := (Option.bind_some _ _).symm.trans H; with_reducible exact H2_) | with_reducible exact H | (rw [hy378]; exact H) | exact H
                have Ny378 := Aside0.mk hy378
                clear hy378
                have H' := Aside0.mk H
                clear H
                go_wp2_with (first | ((with_reducible refine gate_callee (f := 22) rfl ?_); refine goesL_ (some 13) rfl rfl Try.func22 (by kernel_rfl) rfl #[.slice A0 l0.length c0, .int .i64 x4_1] rfl (by (try simp only [List.map_toArray, List.map_cons, List.map_nil]); first | done | rfl | (simp only [List.length_drop, List.length_take]; rfl)) ?_; (with_reducible refine (deckleref05_alike.calls k1 _ _ l0 x4_1 t367 _ ?side1 ?side2 A3.out).mono ?_); (case side1 => repeat (first | exact (Kd.C_below HR0.out HB.out) | (with_reducible refine Kd.C_alloc ?_ _) | (with_reducible refine Kd.C_drewN ?_ _) | (with_reducible refine Kd.C_drew ?_))); (case side2 => exact HC0.out); rintro e w' ⟨rfl, ⟨nd, rfl⟩⟩; refine ⟨_, rfl, ?_⟩) | ((with_reducible refine gate_dst (N := 22) rfl ?_); refine Kd.R_lit (Kd.int .u64) _ 29 ?hg (N := 22) ?hd (xs := ([IntKind.u64.wrap ((IntKind.u64.wrap (2 * (IntKind.u64.wrap (wrap64 (t367 - 3))))) + 1)] : List Int)) (inner := [.int .u64 (IntKind.u64.wrap ((IntKind.u64.wrap (2 * (IntKind.u64.wrap (wrap64 (t367 - 3))))) + 1))]) (ok := fun _ => True) (okp := fun _ => True) ?hr ?hp (fun _ hk => hk) trivial (Below.refl _ _) (Nat.le_refl _) (by simp) ?_; (case hd => rfl); (case hg => rfl); (case hr => first | (go_simp; done) | (go_simp; rfl)); (case hp => exact (Reps.one (show Kd.M (Kd.int .u64) _ _ _ (IntKind.u64.wrap ((IntKind.u64.wrap (2 * (IntKind.u64.wrap (wrap64 (t367 - 3))))) + 1)) [.int .u64 (IntKind.u64.wrap ((IntKind.u64.wrap (2 * (IntKind.u64.wrap (wrap64 (t367 - 3))))) + 1))] from rfl) (Reps.none _ _))); intro v369 w9 ho10 hb hg_ hnew_; clear hg_ hnew_; (first | rw [← Ny368.out] at ho10 | (simp only [Int.reduceToNat] at ho10; rw [← Ny368.out] at ho10)); have n0_ := Aside0.mk (Kd.R_below (by (with_reducible repeat (first | apply Kd.R_alloc | apply Kd.R_drewN | apply Kd.R_drew)); exact HO_3.out) hb); have n1_ := Aside0.mk (Kd.R_lower ho10 (below_size (by repeat (first | (with_reducible first | exact HB.out | apply below_alloc | apply pw_below_drewN | apply below_drew1) | exact HB.out)))); have n2_ := Aside0.mk (below_step (by repeat (first | (with_reducible first | exact HB.out | apply below_alloc | apply pw_below_drewN | apply below_drew1) | exact HB.out)) hb); clear HO_3; clear HB; have HO_3 := n0_; have HO370 := n1_; have HB := n2_; clear n0_ n1_ n2_; clear hb ho10; obtain ⟨Ao11, co11, eo11⟩ := Kd.R_slice HO370.out; subst eo11) | ((with_reducible refine gate_callee (f := 23) rfl ?_); refine goesL_ (some 23) rfl rfl Try.func23 (by kernel_rfl) rfl #[.slice none 0 0, .slice Ao11 y368.length co11] rfl (by (try simp only [List.map_toArray, List.map_cons, List.map_nil]); first | done | rfl | (simp only [List.length_drop, List.length_take]; rfl)) ?_; (refine (deckleref03_Put.calls k1 _ _ ([] : List Int) _ _ y368 t371 _ ?side1 ?side2 ?side3 ?side4 A5.out).mono ?_); (case side1 => exact Kd.C_nil _ _); (case side2 => exact Nat.le_refl _); (case side3 => repeat (first | exact (Kd.R_reads' HO370.out).2.2 | (with_reducible refine Kd.C_alloc ?_ _) | (with_reducible refine Kd.C_drewN ?_ _) | (with_reducible refine Kd.C_drew ?_))); (case side4 => exact (Kd.R_reads' HO370.out).2.1); rintro e w12 ⟨v372, rfl, ho0, hb⟩; refine ⟨_, rfl, ?_⟩; have n0_ := Aside0.mk (Kd.R_elder' (by (with_reducible repeat (first | apply Kd.R_alloc | apply Kd.R_drewN | apply Kd.R_drew)); exact HO_3.out) (Kd.R_base ho0) hb); have n1_ := Aside0.mk (Kd.R_below (by (with_reducible repeat (first | apply Kd.R_alloc | apply Kd.R_drewN | apply Kd.R_drew)); exact HO370.out) hb); have n2_ := Aside0.mk (Kd.R_lower (Kd.R_new' ho0 (Kd.R_lt (by (with_reducible repeat (first | apply Kd.R_alloc | apply Kd.R_drewN | apply Kd.R_drew)); exact HO_3.out))) (below_size (by repeat (first | (with_reducible first | exact HB.out | apply below_alloc | apply pw_below_drewN | apply below_drew1) | exact HB.out)))); have n3_ := Aside0.mk (below_step (by repeat (first | (with_reducible first | exact HB.out | apply below_alloc | apply pw_below_drewN | apply below_drew1) | exact HB.out)) hb); clear HO_3; clear HO370; clear HB; have HO_3 := n0_; have HO370 := n1_; have HO373 := n2_; have HB := n3_; clear n0_ n1_ n2_ n3_; (try clear hb); (try clear hb2); (try clear hk); (try clear hi); (try clear ho0); obtain ⟨Ao14, co14, eo14⟩ := Kd.R_slice HO373.out; subst eo14) | ((with_reducible refine gate_builtin (b := .append) (xs := #[.tmp 16, .tmp 23]) rfl ?_); at_builtin; refine Kd.R_append_rows (Kd.int .u8) (w0 := w) w.heap.size rfl (.tmp 16) (.tmp 23) 22 5 (.int .u8 0) 1 rfl Try.underlying22 info5 rfl (by decide) (by omega) u3 x3_1 t371 _ _ _ (fun k_ => some k_ ≠ (.slice Ao14 t371.length co14 : Value).ownBlock) (fun _ => False) rfl rfl ?aO ?aR (fun _ _ h => h) (fun _ h => h.elim) ?aF ?aB ?aS ?aL ?_; (case aR => repeat (first | exact (Kd.R_reads' HO373.out).2.2 | (with_reducible refine Kd.C_alloc ?_ _) | (with_reducible refine Kd.C_drewN ?_ _) | (with_reducible refine Kd.C_drew ?_))); (case aB => exact (by repeat (first | (with_reducible first | exact HB.out | apply below_alloc | apply pw_below_drewN | apply below_drew1) | exact HB.out))); (case aF => exact (fun k_ hk => Kd.fresh' (Kd.R_lt (by (with_reducible repeat (first | apply Kd.R_alloc | apply Kd.R_drewN | apply Kd.R_drew)); exact HO373.out)) k_ hk)); (case aO => exact (by (with_reducible repeat (first | apply Kd.R_alloc | apply Kd.R_drewN | apply Kd.R_drew)); exact Kd.R_mono HO_3.out (fun _ hk => hk.2))); (case aS => exact (below_size (by repeat (first | (with_reducible first | exact HB.out | apply below_alloc | apply pw_below_drewN | apply below_drew1) | exact HB.out)))); (case aL => have := LMc6.out; omega); intro v375 w13 ho hb hg hat; rw [← Ny374.out] at ho; have n0_ := Aside0.mk (Kd.R_over' (by (with_reducible repeat (first | apply Kd.R_alloc | apply Kd.R_drewN | apply Kd.R_drew)); exact HO370.out) (Kd.R_typed (by (with_reducible repeat (first | apply Kd.R_alloc | apply Kd.R_drewN | apply Kd.R_drew)); exact HO_3.out)) (by decide) hg); have n1_ := Aside0.mk (Kd.R_after (ok := (fun _ => True)) (by (with_reducible repeat (first | apply Kd.R_alloc | apply Kd.R_drewN | apply Kd.R_drew)); exact HO373.out) hg hat); have n2_ := Aside0.mk (hb); have n3_ := Aside0.mk (ho); clear HO370; clear HO373; clear HB; clear HO_3; have HO370 := n0_; have HO373 := n1_; have HB := n2_; have HO376 := n3_; clear n0_ n1_ n2_ n3_; clear ho hb hg hat; have p377 : 0 ≤ (x4_1 : Int) := of_decide_eq_true (by first | (with_reducible assumption) | assumption); have q377 : x4_1 < (l0.length : Int) := of_decide_eq_true (by first | (with_reducible assumption) | assumption); obtain ⟨ad377, e377, hx377_0⟩ := Kd.at_int HR0.out x4_1 p377 q377; cases e377; replace hx377_0 := (HB.out.cell (World.block_lt_of_cell? w _ hx377_0)).trans hx377_0; replace p377 := eq_true p377; replace q377 := eq_true q377) | ((with_reducible refine gate_builtin (b := .append) (xs := #[.tmp 25, .tmp 30]) rfl ?_); at_builtin; refine Kd.R_append (Kd.int .u8) (w0 := w) w.heap.size rfl (.tmp 25) (.tmp 30) 22 5 (.int .u8 0) 1 rfl Try.underlying22 info5 rfl (by decide) (by omega) v375 y374 (rd l0 x4_1) [.int .u8 (rd l0 x4_1)] (fun k_ => some k_ ≠ (.slice Ao14 t371.length co14 : Value).ownBlock) (fun _ => False) rfl rfl ?aP (fun _ hk => hk.elim) ?aF ?aO ?aB ?aS ?aL ?_; (case aP => exact rfl); (case aB => exact (by repeat (first | (with_reducible first | exact HB.out | apply below_alloc | apply pw_below_drewN | apply below_drew1) | exact HB.out))); (case aF => exact (fun k_ hk => Kd.fresh' (Kd.R_lt (by (with_reducible repeat (first | apply Kd.R_alloc | apply Kd.R_drewN | apply Kd.R_drew)); exact HO373.out)) k_ hk)); (case aO => exact (by (with_reducible repeat (first | apply Kd.R_alloc | apply Kd.R_drewN | apply Kd.R_drew)); exact HO376.out)); (case aS => exact (below_size (by repeat (first | (with_reducible first | exact HB.out | apply below_alloc | apply pw_below_drewN | apply below_drew1) | exact HB.out)))); (case aL => have := LMc8.out; omega); intro v379 w15 ho hb hg hat; rw [← Ny378.out] at ho; have n0_ := Aside0.mk (Kd.R_over' (by (with_reducible repeat (first | apply Kd.R_alloc | apply Kd.R_drewN | apply Kd.R_drew)); exact HO370.out) (Kd.R_typed (by (with_reducible repeat (first | apply Kd.R_alloc | apply Kd.R_drewN | apply Kd.R_drew)); exact HO376.out)) (by decide) hg); have n1_ := Aside0.mk (Kd.R_after (ok := (fun _ => True)) (by (with_reducible repeat (first | apply Kd.R_alloc | apply Kd.R_drewN | apply Kd.R_drew)); exact HO373.out) hg hat); have n2_ := Aside0.mk (hb); have n3_ := Aside0.mk (ho); clear HO370; clear HO373; clear HB; clear HO376; have HO370 := n0_; have HO373 := n1_; have HB := n2_; have HO380 := n3_; clear n0_ n1_ n2_ n3_; clear ho hb hg hat))
                go_roundg k1
                case measure => have := HK1.out; omega
                case rel => exact ⟨(y378), (wrap64 (x4_1 + t367)), (by first | rfl | (simp; done) | (simp [*]; done)), H', ⟨by have := HK1.out; omega⟩, ⟨by (with_reducible repeat (first | apply Kd.R_alloc | apply Kd.R_drewN | apply Kd.R_drew)); exact Kd.R_mono HO380.out (fun _ hk => trivial)⟩, ⟨by repeat (first | (with_reducible first | exact HB.out | apply below_alloc | apply pw_below_drewN | apply below_drew1) | exact HB.out)⟩⟩
              · rw [if_neg c8] at H
                exact absurd H (by simp)
            · rw [if_neg c7] at H
              exact absurd H (by simp)
          · rw [if_neg c6] at H
            exact absurd H (by simp)
        · rw [if_neg c4] at H
          have c4b0 : decide (3 ≤ t367) = false := decide_eq_false c4
          clear c4
          have H' := Aside0.mk H
          clear H
          go_wp2_with (first | ((with_reducible refine gate_callee (f := 22) rfl ?_); refine goesL_ (some 13) rfl rfl Try.func22 (by kernel_rfl) rfl #[.slice A0 l0.length c0, .int .i64 x4_1] rfl (by (try simp only [List.map_toArray, List.map_cons, List.map_nil]); first | done | rfl | (simp only [List.length_drop, List.length_take]; rfl)) ?_; (with_reducible refine (deckleref05_alike.calls k1 _ _ l0 x4_1 t367 _ ?side1 ?side2 A3.out).mono ?_); (case side1 => repeat (first | exact (Kd.C_below HR0.out HB.out) | (with_reducible refine Kd.C_alloc ?_ _) | (with_reducible refine Kd.C_drewN ?_ _) | (with_reducible refine Kd.C_drew ?_))); (case side2 => exact HC0.out); rintro e w' ⟨rfl, ⟨nd, rfl⟩⟩; refine ⟨_, rfl, ?_⟩))
          go_loopg [6] k1 (fun kq v6 w' => ∃ (x6_2 : Int), v6 = .int .i64 x6_2 ∧ Aside0 (deckleref05_Encode.l1 kq l0 x3_1 x4_1 x6_2 = some r) ∧ Aside0 (kq ≤ k1) ∧ Aside0 (Kd.R (Kd.int .u8) 5 w' w.heap.size (fun _ => True) u3 x3_1) ∧ Aside0 (Below w.heap.size w w'))
          case atStart => exact ⟨(x4_1), (by first | rfl | (simp; done) | (simp [*]; done)), H', ⟨Nat.le_refl _⟩, ⟨by (with_reducible repeat (first | apply Kd.R_alloc | apply Kd.R_drewN | apply Kd.R_drew)); exact HO_3.out⟩, ⟨by repeat (first | (with_reducible first | exact HB.out | apply below_alloc | apply pw_below_drewN | apply below_drew1) | exact HB.out)⟩⟩
          case round =>
            clear H'
            try clear c1
            try clear c2
            try clear c2b0
            try clear p2
            try clear p3
            try clear q3
            try clear hx3
            try clear c4
            try clear c4b0
            try clear c6
            try clear p6
            try clear c7
            try clear c7b0
            try clear c8
            try clear c13
            try clear hx377_0
            try clear p377
            try clear q377
            obtain ⟨x6_2, rfl, HA, HK2, HO_3, HB⟩ := hrel
            cases gk with
            | zero => exact absurd HA.out (by simp [deckleref05_Encode.l1])
            | succ k2 =>
              have H := HA.out
              clear HA
              simp only [deckleref05_Encode.l1] at H
              by_cases c16 : x6_2 < (l0.length : Int)
              · rw [if_pos c16] at H
                have c16b0 : decide (x6_2 < (l0.length : Int)) = true := decide_eq_true c16
                clear c16
                replace H := Option.bind_eq_some_iff.mp H
                obtain ⟨t381, A170, H⟩ := H
                replace H : (if t381 < 3 then ((deckleref05_alike.f k2 l0 x6_2).bind fun t382 => (deckleref05_Encode.l1 k2 l0 x3_1 x4_1 (wrap64 (x6_2 + t382)))) else ((deckleref03_Put.f k2 ([] : List Int) (([IntKind.u64.wrap (2 * (IntKind.u64.wrap (wrap64 ((wrap64 (x6_2 - x4_1)) - 1))))] : List Int))).bind fun t386 => (if x3_1.length + t386.length < 140737488355328 then ((some (x3_1 ++ t386 : List Int)).bind fun y389 => (if 0 ≤ x4_1 then (if x4_1 ≤ x6_2 then (if x6_2 ≤ (l0.length : Int) then (if y389.length + ((l0.take (x6_2 : Int).toNat).drop (x4_1 : Int).toNat).length < 140737488355328 then (deckleref05_Encode.l0 k2 l0 (y389 ++ ((l0.take (x6_2 : Int).toNat).drop (x4_1 : Int).toNat)) x6_2) else (none)) else (none)) else (none)) else (none))) else (none)))) = some r := H
                have A17 := Aside0.mk A170
                clear A170
                by_cases c18 : t381 < 3
                · rw [if_pos c18] at H
                  have c18b0 : decide (t381 < 3) = true := decide_eq_true c18
                  clear c18
                  replace H := Option.bind_eq_some_iff.mp H
                  obtain ⟨t382, A190, H⟩ := H
                  replace H : (deckleref05_Encode.l1 k2 l0 x3_1 x4_1 (wrap64 (x6_2 + t382))) = some r := H
                  have A19 := Aside0.mk A190
                  clear A190
                  have H' := Aside0.mk H
                  clear H
                  go_wp2_with (first | (go_at_call 22; (with_reducible refine (deckleref05_alike.calls k2 _ _ l0 x6_2 t381 _ ?side1 ?side2 A17.out).mono ?_); (case side1 => repeat (first | exact (Kd.C_below HR0.out HB.out) | (with_reducible refine Kd.C_alloc ?_ _) | (with_reducible refine Kd.C_drewN ?_ _) | (with_reducible refine Kd.C_drew ?_))); (case side2 => exact HC0.out); rintro e w' ⟨rfl, ⟨nd, rfl⟩⟩) | ((with_reducible refine gate_callee (f := 22) rfl ?_); refine goesL_ (some 49) rfl rfl Try.func22 (by kernel_rfl) rfl #[.slice A0 l0.length c0, .int .i64 x6_2] rfl (by (try simp only [List.map_toArray, List.map_cons, List.map_nil]); first | done | rfl | (simp only [List.length_drop, List.length_take]; rfl)) ?_; (with_reducible refine (deckleref05_alike.calls k2 _ _ l0 x6_2 t382 _ ?side1 ?side2 A19.out).mono ?_); (case side1 => repeat (first | exact (Kd.C_below HR0.out (by repeat (first | (with_reducible first | exact HB.out | apply below_alloc | apply pw_below_drewN | apply below_drew1) | exact HB.out))) | (with_reducible refine Kd.C_alloc ?_ _) | (with_reducible refine Kd.C_drewN ?_ _) | (with_reducible refine Kd.C_drew ?_))); (case side2 => exact HC0.out); rintro e w' ⟨rfl, ⟨nd, rfl⟩⟩; refine ⟨_, rfl, ?_⟩))
                  go_roundg k2
                  case measure => have := HK1.out; have := HK2.out; omega
                  case rel => exact ⟨(wrap64 (x6_2 + t382)), (by first | rfl | (simp; done) | (simp [*]; done)), H', ⟨by have := HK1.out; have := HK2.out; omega⟩, ⟨by (with_reducible repeat (first | apply Kd.R_alloc | apply Kd.R_drewN | apply Kd.R_drew)); exact HO_3.out⟩, ⟨by repeat (first | (with_reducible first | exact HB.out | apply below_alloc | apply pw_below_drewN | apply below_drew1) | exact HB.out)⟩⟩
                · rw [if_neg c18] at H
                  have c18b0 : decide (t381 < 3) = false := decide_eq_false c18
                  clear c18
                  obtain ⟨y383, hy383⟩ : ∃ y_ : List Int, y_ = (([IntKind.u64.wrap (2 * (IntKind.u64.wrap (wrap64 ((wrap64 (x6_2 - x4_1)) - 1))))] : List Int)) := ⟨_, rfl⟩
                  replace H : ((deckleref03_Put.f k2 ([] : List Int) y383).bind fun t386 => (if x3_1.length + t386.length < 140737488355328 then ((some (x3_1 ++ t386 : List Int)).bind fun y389 => (if 0 ≤ x4_1 then (if x4_1 ≤ x6_2 then (if x6_2 ≤ (l0.length : Int) then (if y389.length + ((l0.take (x6_2 : Int).toNat).drop (x4_1 : Int).toNat).length < 140737488355328 then (deckleref05_Encode.l0 k2 l0 (y389 ++ ((l0.take (x6_2 : Int).toNat).drop (x4_1 : Int).toNat)) x6_2) else (none)) else (none)) else (none)) else (none))) else (none))) = some r := by first | (rw [hy383]; with_reducible exact H) | (have H2_ := (Option.bind_some _ _).symm.trans H; rw [hy383]; with_reducible exact H2_) | (have H2_ := (Option.bind_some _ _).symm.trans H; with_reducible exact H2_) | with_reducible exact H | (rw [hy383]; exact H) | exact H
                  have Ny383 := Aside0.mk hy383
                  clear hy383
                  replace H := Option.bind_eq_some_iff.mp H
                  obtain ⟨t386, A200, H⟩ := H
                  replace H : (if x3_1.length + t386.length < 140737488355328 then ((some (x3_1 ++ t386 : List Int)).bind fun y389 => (if 0 ≤ x4_1 then (if x4_1 ≤ x6_2 then (if x6_2 ≤ (l0.length : Int) then (if y389.length + ((l0.take (x6_2 : Int).toNat).drop (x4_1 : Int).toNat).length < 140737488355328 then (deckleref05_Encode.l0 k2 l0 (y389 ++ ((l0.take (x6_2 : Int).toNat).drop (x4_1 : Int).toNat)) x6_2) else (none)) else (none)) else (none)) else (none))) else (none)) = some r := H
                  have A20 := Aside0.mk A200
                  clear A200
                  by_cases c21 : x3_1.length + t386.length < 140737488355328
                  · rw [if_pos c21] at H
                    have LMc21 := Aside0.mk c21
                    clear c21
                    obtain ⟨y389, hy389⟩ : ∃ y_ : List Int, y_ = (x3_1 ++ t386) := ⟨_, rfl⟩
                    replace H : (if 0 ≤ x4_1 then (if x4_1 ≤ x6_2 then (if x6_2 ≤ (l0.length : Int) then (if y389.length + ((l0.take (x6_2 : Int).toNat).drop (x4_1 : Int).toNat).length < 140737488355328 then (deckleref05_Encode.l0 k2 l0 (y389 ++ ((l0.take (x6_2 : Int).toNat).drop (x4_1 : Int).toNat)) x6_2) else (none)) else (none)) else (none)) else (none)) = some r := by first | (rw [hy389]; with_reducible exact H) | (have H2_ := (Option.bind_some _ _).symm.trans H; rw [hy389]; with_reducible exact H2_) | (have H2_ := (Option.bind_some _ _).symm.trans H; with_reducible exact H2_) | with_reducible exact H | (rw [hy389]; exact H) | exact H
                    have Ny389 := Aside0.mk hy389
                    clear hy389
                    by_cases c22 : 0 ≤ x4_1
                    · rw [if_pos c22] at H
                      have c22b0 := eq_true c22
                      have c22b1 : decide (0 ≤ x4_1) = true := decide_eq_true c22
                      clear c22
                      by_cases c23 : x4_1 ≤ x6_2
                      · rw [if_pos c23] at H
                        have c23b0 := eq_true c23
                        have c23b1 : decide (x4_1 ≤ x6_2) = true := decide_eq_true c23
                        clear c23
                        by_cases c24 : x6_2 ≤ (l0.length : Int)
                        · rw [if_pos c24] at H
                          have c24b0 := eq_true c24
                          have c24b1 : decide (x6_2 ≤ (l0.length : Int)) = true := decide_eq_true c24
                          clear c24
                          by_cases c25 : y389.length + ((l0.take (x6_2 : Int).toNat).drop (x4_1 : Int).toNat).length < 140737488355328
                          · rw [if_pos c25] at H
                            have LMc25 := Aside0.mk c25
                            clear c25
                            obtain ⟨y393, hy393⟩ : ∃ y_ : List Int, y_ = (y389 ++ ((l0.take (x6_2 : Int).toNat).drop (x4_1 : Int).toNat)) := ⟨_, rfl⟩
                            replace H : (deckleref05_Encode.l0 k2 l0 y393 x6_2) = some r := by first | (rw [hy393]; with_reducible exact H) | (have H2_ := (Option.bind_some _ _).symm.trans H; rw [hy393]; with_reducible exact H2_) | (have H2_ := (Option.bind_some _ _).symm.trans H; with_reducible exact H2_) | with_reducible exact H | (rw [hy393]; exact H) | exact H
                            have Ny393 := Aside0.mk hy393
                            clear hy393
                            have H' := Aside0.mk H
                            clear H
                            go_wp2_with (first | (go_at_call 22; (with_reducible refine (deckleref05_alike.calls k2 _ _ l0 x6_2 t381 _ ?side1 ?side2 A17.out).mono ?_); (case side1 => repeat (first | exact (Kd.C_below HR0.out HB.out) | (with_reducible refine Kd.C_alloc ?_ _) | (with_reducible refine Kd.C_drewN ?_ _) | (with_reducible refine Kd.C_drew ?_))); (case side2 => exact HC0.out); rintro e w' ⟨rfl, ⟨nd, rfl⟩⟩) | ((with_reducible refine gate_dst (N := 58) rfl ?_); refine Kd.R_lit (Kd.int .u64) _ 29 ?hg (N := 58) ?hd (xs := ([IntKind.u64.wrap (2 * (IntKind.u64.wrap (wrap64 ((wrap64 (x6_2 - x4_1)) - 1))))] : List Int)) (inner := [.int .u64 (IntKind.u64.wrap (2 * (IntKind.u64.wrap (wrap64 ((wrap64 (x6_2 - x4_1)) - 1)))))]) (ok := fun _ => True) (okp := fun _ => True) ?hr ?hp (fun _ hk => hk) trivial (Below.refl _ _) (Nat.le_refl _) (by simp) ?_; (case hd => rfl); (case hg => rfl); (case hr => first | (go_simp; done) | (go_simp; rfl)); (case hp => exact (Reps.one (show Kd.M (Kd.int .u64) _ _ _ (IntKind.u64.wrap (2 * (IntKind.u64.wrap (wrap64 ((wrap64 (x6_2 - x4_1)) - 1))))) [.int .u64 (IntKind.u64.wrap (2 * (IntKind.u64.wrap (wrap64 ((wrap64 (x6_2 - x4_1)) - 1)))))] from rfl) (Reps.none _ _))); intro v384 w26 ho27 hb hg_ hnew_; clear hg_ hnew_; (first | rw [← Ny383.out] at ho27 | (simp only [Int.reduceToNat] at ho27; rw [← Ny383.out] at ho27)); have n0_ := Aside0.mk (Kd.R_below (by (with_reducible repeat (first | apply Kd.R_alloc | apply Kd.R_drewN | apply Kd.R_drew)); exact HO_3.out) hb); have n1_ := Aside0.mk (Kd.R_lower ho27 (below_size (by repeat (first | (with_reducible first | exact HB.out | apply below_alloc | apply pw_below_drewN | apply below_drew1) | exact HB.out)))); have n2_ := Aside0.mk (below_step (by repeat (first | (with_reducible first | exact HB.out | apply below_alloc | apply pw_below_drewN | apply below_drew1) | exact HB.out)) hb); clear HO_3; clear HB; have HO_3 := n0_; have HO385 := n1_; have HB := n2_; clear n0_ n1_ n2_; clear hb ho27; obtain ⟨Ao28, co28, eo28⟩ := Kd.R_slice HO385.out; subst eo28) | ((with_reducible refine gate_callee (f := 23) rfl ?_); refine goesL_ (some 59) rfl rfl Try.func23 (by kernel_rfl) rfl #[.slice none 0 0, .slice Ao28 y383.length co28] rfl (by (try simp only [List.map_toArray, List.map_cons, List.map_nil]); first | done | rfl | (simp only [List.length_drop, List.length_take]; rfl)) ?_; (refine (deckleref03_Put.calls k2 _ _ ([] : List Int) _ _ y383 t386 _ ?side1 ?side2 ?side3 ?side4 A20.out).mono ?_); (case side1 => exact Kd.C_nil _ _); (case side2 => exact Nat.le_refl _); (case side3 => repeat (first | exact (Kd.R_reads' HO385.out).2.2 | (with_reducible refine Kd.C_alloc ?_ _) | (with_reducible refine Kd.C_drewN ?_ _) | (with_reducible refine Kd.C_drew ?_))); (case side4 => exact (Kd.R_reads' HO385.out).2.1); rintro e w29 ⟨v387, rfl, ho0, hb⟩; refine ⟨_, rfl, ?_⟩; have n0_ := Aside0.mk (Kd.R_elder' (by (with_reducible repeat (first | apply Kd.R_alloc | apply Kd.R_drewN | apply Kd.R_drew)); exact HO_3.out) (Kd.R_base ho0) hb); have n1_ := Aside0.mk (Kd.R_below (by (with_reducible repeat (first | apply Kd.R_alloc | apply Kd.R_drewN | apply Kd.R_drew)); exact HO385.out) hb); have n2_ := Aside0.mk (Kd.R_lower (Kd.R_new' ho0 (Kd.R_lt (by (with_reducible repeat (first | apply Kd.R_alloc | apply Kd.R_drewN | apply Kd.R_drew)); exact HO_3.out))) (below_size (by repeat (first | (with_reducible first | exact HB.out | apply below_alloc | apply pw_below_drewN | apply below_drew1) | exact HB.out)))); have n3_ := Aside0.mk (below_step (by repeat (first | (with_reducible first | exact HB.out | apply below_alloc | apply pw_below_drewN | apply below_drew1) | exact HB.out)) hb); clear HO_3; clear HO385; clear HB; have HO_3 := n0_; have HO385 := n1_; have HO388 := n2_; have HB := n3_; clear n0_ n1_ n2_ n3_; (try clear hb); (try clear hb2); (try clear hk); (try clear hi); (try clear ho0); obtain ⟨Ao31, co31, eo31⟩ := Kd.R_slice HO388.out; subst eo31) | ((with_reducible refine gate_builtin (b := .append) (xs := #[.tmp 51, .tmp 59]) rfl ?_); at_builtin; refine Kd.R_append_rows (Kd.int .u8) (w0 := w) w.heap.size rfl (.tmp 51) (.tmp 59) 22 5 (.int .u8 0) 1 rfl Try.underlying22 info5 rfl (by decide) (by omega) u3 x3_1 t386 _ _ _ (fun k_ => some k_ ≠ (.slice Ao31 t386.length co31 : Value).ownBlock) (fun _ => False) rfl rfl ?aO ?aR (fun _ _ h => h) (fun _ h => h.elim) ?aF ?aB ?aS ?aL ?_; (case aR => repeat (first | exact (Kd.R_reads' HO388.out).2.2 | (with_reducible refine Kd.C_alloc ?_ _) | (with_reducible refine Kd.C_drewN ?_ _) | (with_reducible refine Kd.C_drew ?_))); (case aB => exact (by repeat (first | (with_reducible first | exact HB.out | apply below_alloc | apply pw_below_drewN | apply below_drew1) | exact HB.out))); (case aF => exact (fun k_ hk => Kd.fresh' (Kd.R_lt (by (with_reducible repeat (first | apply Kd.R_alloc | apply Kd.R_drewN | apply Kd.R_drew)); exact HO388.out)) k_ hk)); (case aO => exact (by (with_reducible repeat (first | apply Kd.R_alloc | apply Kd.R_drewN | apply Kd.R_drew)); exact Kd.R_mono HO_3.out (fun _ hk => hk.2))); (case aS => exact (below_size (by repeat (first | (with_reducible first | exact HB.out | apply below_alloc | apply pw_below_drewN | apply below_drew1) | exact HB.out)))); (case aL => have := LMc21.out; omega); intro v390 w30 ho hb hg hat; rw [← Ny389.out] at ho; have n0_ := Aside0.mk (Kd.R_over' (by (with_reducible repeat (first | apply Kd.R_alloc | apply Kd.R_drewN | apply Kd.R_drew)); exact HO385.out) (Kd.R_typed (by (with_reducible repeat (first | apply Kd.R_alloc | apply Kd.R_drewN | apply Kd.R_drew)); exact HO_3.out)) (by decide) hg); have n1_ := Aside0.mk (Kd.R_after (ok := (fun _ => True)) (by (with_reducible repeat (first | apply Kd.R_alloc | apply Kd.R_drewN | apply Kd.R_drew)); exact HO388.out) hg hat); have n2_ := Aside0.mk (hb); have n3_ := Aside0.mk (ho); clear HO385; clear HO388; clear HB; clear HO_3; have HO385 := n0_; have HO388 := n1_; have HB := n2_; have HO391 := n3_; clear n0_ n1_ n2_ n3_; clear ho hb hg hat; obtain ⟨i032, hi032, _, hsz32, _⟩ := info_parts info5; obtain ⟨A32, hcut32, hA32, hC32⟩ := print_mid_of (P := Try.prog) (Value.int .u8) 0 22 5 .i64 .i64 Try.underlying22 hi032 hsz32 A0 c0 l0 x4_1 x6_2 (of_decide_eq_true (by first | (with_reducible assumption) | assumption)) (by first | omega | exact of_decide_eq_true (by first | (with_reducible assumption) | assumption)) (of_decide_eq_true (by first | (with_reducible assumption) | assumption)) HC0.out; have HR392 := Aside0.mk (Kd.C_of_reads (h1 := fun _ => rfl) (hA32 _ (Kd.reads_of_C HR0.out))); have HC392 := Aside0.mk hC32; clear hA32 hC32 hi032 hsz32) | ((with_reducible refine gate_builtin (b := .append) (xs := #[.tmp 61, .tmp 65]) rfl ?_); at_builtin; refine Kd.R_append_rows (Kd.int .u8) (w0 := w) w.heap.size rfl (.tmp 61) (.tmp 65) 22 5 (.int .u8 0) 1 rfl Try.underlying22 info5 rfl (by decide) (by omega) v390 y389 ((l0.take (x6_2 : Int).toNat).drop (x4_1 : Int).toNat) _ _ _ (fun k_ => some k_ ≠ (.slice Ao31 t386.length co31 : Value).ownBlock) (fun _ => False) rfl rfl ?aO ?aR (fun _ _ h => h) (fun _ h => h.elim) ?aF ?aB ?aS ?aL ?_; (case aR => first | (rw [← show ((l0.take (x6_2 : Int).toNat).drop (x4_1 : Int).toNat).length = (x6_2.toNat - x4_1.toNat) from (by rw [List.length_drop, List.length_take]; have h_ : (x6_2 : Int) ≤ (l0.length : Int) := of_decide_eq_true (by first | (with_reducible assumption) | assumption); omega)]; repeat (first | exact (Kd.C_below HR392.out HB.out) | (with_reducible refine Kd.C_alloc ?_ _) | (with_reducible refine Kd.C_drewN ?_ _) | (with_reducible refine Kd.C_drew ?_))) | (repeat (first | exact (Kd.C_below HR392.out HB.out) | (with_reducible refine Kd.C_alloc ?_ _) | (with_reducible refine Kd.C_drewN ?_ _) | (with_reducible refine Kd.C_drew ?_)))); (case aB => exact (by repeat (first | (with_reducible first | exact HB.out | apply below_alloc | apply pw_below_drewN | apply below_drew1) | exact HB.out))); (case aF => exact (fun k_ hk => Kd.fresh' (Kd.R_lt (by (with_reducible repeat (first | apply Kd.R_alloc | apply Kd.R_drewN | apply Kd.R_drew)); exact HO388.out)) k_ hk)); (case aO => exact (by (with_reducible repeat (first | apply Kd.R_alloc | apply Kd.R_drewN | apply Kd.R_drew)); exact HO391.out)); (case aS => exact (below_size (by repeat (first | (with_reducible first | exact HB.out | apply below_alloc | apply pw_below_drewN | apply below_drew1) | exact HB.out)))); (case aL => have := LMc25.out; have hlx_ := (show ((l0.take (x6_2 : Int).toNat).drop (x4_1 : Int).toNat).length = (x6_2.toNat - x4_1.toNat) from (by rw [List.length_drop, List.length_take]; have h_ : (x6_2 : Int) ≤ (l0.length : Int) := of_decide_eq_true (by first | (with_reducible assumption) | assumption); omega)); omega); intro v394 w33 ho hb hg hat; rw [← Ny393.out] at ho; have n0_ := Aside0.mk (Kd.R_over' (by (with_reducible repeat (first | apply Kd.R_alloc | apply Kd.R_drewN | apply Kd.R_drew)); exact HO385.out) (Kd.R_typed (by (with_reducible repeat (first | apply Kd.R_alloc | apply Kd.R_drewN | apply Kd.R_drew)); exact HO391.out)) (by decide) hg); have n1_ := Aside0.mk (Kd.R_after (ok := (fun _ => True)) (by (with_reducible repeat (first | apply Kd.R_alloc | apply Kd.R_drewN | apply Kd.R_drew)); exact HO388.out) hg hat); have n2_ := Aside0.mk (hb); have n3_ := Aside0.mk (ho); clear HO385; clear HO388; clear HB; clear HO391; have HO385 := n0_; have HO388 := n1_; have HB := n2_; have HO395 := n3_; clear n0_ n1_ n2_ n3_; clear ho hb hg hat))
                            go_roundg k2
                            case measure => have := HK1.out; have := HK2.out; omega
                            case rel => exact ⟨(y393), (x6_2), (by first | rfl | (simp; done) | (simp [*]; done)), H', ⟨by have := HK1.out; have := HK2.out; omega⟩, ⟨by (with_reducible repeat (first | apply Kd.R_alloc | apply Kd.R_drewN | apply Kd.R_drew)); exact Kd.R_mono HO395.out (fun _ hk => trivial)⟩, ⟨by repeat (first | (with_reducible first | exact HB.out | apply below_alloc | apply pw_below_drewN | apply below_drew1) | exact HB.out)⟩⟩
                          · rw [if_neg c25] at H
                            exact absurd H (by simp)
                        · rw [if_neg c24] at H
                          exact absurd H (by simp)
                      · rw [if_neg c23] at H
                        exact absurd H (by simp)
                    · rw [if_neg c22] at H
                      exact absurd H (by simp)
                  · rw [if_neg c21] at H
                    exact absurd H (by simp)
              · rw [if_neg c16] at H
                have c16b0 : decide (x6_2 < (l0.length : Int)) = false := decide_eq_false c16
                clear c16
                obtain ⟨y396, hy396⟩ : ∃ y_ : List Int, y_ = (([IntKind.u64.wrap (2 * (IntKind.u64.wrap (wrap64 ((wrap64 (x6_2 - x4_1)) - 1))))] : List Int)) := ⟨_, rfl⟩
                replace H : ((deckleref03_Put.f k2 ([] : List Int) y396).bind fun t399 => (if x3_1.length + t399.length < 140737488355328 then ((some (x3_1 ++ t399 : List Int)).bind fun y402 => (if 0 ≤ x4_1 then (if x4_1 ≤ x6_2 then (if x6_2 ≤ (l0.length : Int) then (if y402.length + ((l0.take (x6_2 : Int).toNat).drop (x4_1 : Int).toNat).length < 140737488355328 then (deckleref05_Encode.l0 k2 l0 (y402 ++ ((l0.take (x6_2 : Int).toNat).drop (x4_1 : Int).toNat)) x6_2) else (none)) else (none)) else (none)) else (none))) else (none))) = some r := by first | (rw [hy396]; with_reducible exact H) | (have H2_ := (Option.bind_some _ _).symm.trans H; rw [hy396]; with_reducible exact H2_) | (have H2_ := (Option.bind_some _ _).symm.trans H; with_reducible exact H2_) | with_reducible exact H | (rw [hy396]; exact H) | exact H
                have Ny396 := Aside0.mk hy396
                clear hy396
                replace H := Option.bind_eq_some_iff.mp H
                obtain ⟨t399, A340, H⟩ := H
                replace H : (if x3_1.length + t399.length < 140737488355328 then ((some (x3_1 ++ t399 : List Int)).bind fun y402 => (if 0 ≤ x4_1 then (if x4_1 ≤ x6_2 then (if x6_2 ≤ (l0.length : Int) then (if y402.length + ((l0.take (x6_2 : Int).toNat).drop (x4_1 : Int).toNat).length < 140737488355328 then (deckleref05_Encode.l0 k2 l0 (y402 ++ ((l0.take (x6_2 : Int).toNat).drop (x4_1 : Int).toNat)) x6_2) else (none)) else (none)) else (none)) else (none))) else (none)) = some r := H
                have A34 := Aside0.mk A340
                clear A340
                by_cases c35 : x3_1.length + t399.length < 140737488355328
                · rw [if_pos c35] at H
                  have LMc35 := Aside0.mk c35
                  clear c35
                  obtain ⟨y402, hy402⟩ : ∃ y_ : List Int, y_ = (x3_1 ++ t399) := ⟨_, rfl⟩
                  replace H : (if 0 ≤ x4_1 then (if x4_1 ≤ x6_2 then (if x6_2 ≤ (l0.length : Int) then (if y402.length + ((l0.take (x6_2 : Int).toNat).drop (x4_1 : Int).toNat).length < 140737488355328 then (deckleref05_Encode.l0 k2 l0 (y402 ++ ((l0.take (x6_2 : Int).toNat).drop (x4_1 : Int).toNat)) x6_2) else (none)) else (none)) else (none)) else (none)) = some r := by first | (rw [hy402]; with_reducible exact H) | (have H2_ := (Option.bind_some _ _).symm.trans H; rw [hy402]; with_reducible exact H2_) | (have H2_ := (Option.bind_some _ _).symm.trans H; with_reducible exact H2_) | with_reducible exact H | (rw [hy402]; exact H) | exact H
                  have Ny402 := Aside0.mk hy402
                  clear hy402
                  by_cases c36 : 0 ≤ x4_1
                  · rw [if_pos c36] at H
                    have c36b0 := eq_true c36
                    have c36b1 : decide (0 ≤ x4_1) = true := decide_eq_true c36
                    clear c36
                    by_cases c37 : x4_1 ≤ x6_2
                    · rw [if_pos c37] at H
                      have c37b0 := eq_true c37
                      have c37b1 : decide (x4_1 ≤ x6_2) = true := decide_eq_true c37
                      clear c37
                      by_cases c38 : x6_2 ≤ (l0.length : Int)
                      · rw [if_pos c38] at H
                        have c38b0 := eq_true c38
                        have c38b1 : decide (x6_2 ≤ (l0.length : Int)) = true := decide_eq_true c38
                        clear c38
                        by_cases c39 : y402.length + ((l0.take (x6_2 : Int).toNat).drop (x4_1 : Int).toNat).length < 140737488355328
                        · rw [if_pos c39] at H
                          have LMc39 := Aside0.mk c39
                          clear c39
                          obtain ⟨y406, hy406⟩ : ∃ y_ : List Int, y_ = (y402 ++ ((l0.take (x6_2 : Int).toNat).drop (x4_1 : Int).toNat)) := ⟨_, rfl⟩
                          replace H : (deckleref05_Encode.l0 k2 l0 y406 x6_2) = some r := by first | (rw [hy406]; with_reducible exact H) | (have H2_ := (Option.bind_some _ _).symm.trans H; rw [hy406]; with_reducible exact H2_) | (have H2_ := (Option.bind_some _ _).symm.trans H; with_reducible exact H2_) | with_reducible exact H | (rw [hy406]; exact H) | exact H
                          have Ny406 := Aside0.mk hy406
                          clear hy406
                          have H' := Aside0.mk H
                          clear H
                          go_wp2_with (first | ((with_reducible refine gate_dst (N := 58) rfl ?_); refine Kd.R_lit (Kd.int .u64) _ 29 ?hg (N := 58) ?hd (xs := ([IntKind.u64.wrap (2 * (IntKind.u64.wrap (wrap64 ((wrap64 (x6_2 - x4_1)) - 1))))] : List Int)) (inner := [.int .u64 (IntKind.u64.wrap (2 * (IntKind.u64.wrap (wrap64 ((wrap64 (x6_2 - x4_1)) - 1)))))]) (ok := fun _ => True) (okp := fun _ => True) ?hr ?hp (fun _ hk => hk) trivial (Below.refl _ _) (Nat.le_refl _) (by simp) ?_; (case hd => rfl); (case hg => rfl); (case hr => first | (go_simp; done) | (go_simp; rfl)); (case hp => exact (Reps.one (show Kd.M (Kd.int .u64) _ _ _ (IntKind.u64.wrap (2 * (IntKind.u64.wrap (wrap64 ((wrap64 (x6_2 - x4_1)) - 1))))) [.int .u64 (IntKind.u64.wrap (2 * (IntKind.u64.wrap (wrap64 ((wrap64 (x6_2 - x4_1)) - 1)))))] from rfl) (Reps.none _ _))); intro v397 w40 ho41 hb hg_ hnew_; clear hg_ hnew_; (first | rw [← Ny396.out] at ho41 | (simp only [Int.reduceToNat] at ho41; rw [← Ny396.out] at ho41)); have n0_ := Aside0.mk (Kd.R_below (by (with_reducible repeat (first | apply Kd.R_alloc | apply Kd.R_drewN | apply Kd.R_drew)); exact HO_3.out) hb); have n1_ := Aside0.mk (Kd.R_lower ho41 (below_size (by repeat (first | (with_reducible first | exact HB.out | apply below_alloc | apply pw_below_drewN | apply below_drew1) | exact HB.out)))); have n2_ := Aside0.mk (below_step (by repeat (first | (with_reducible first | exact HB.out | apply below_alloc | apply pw_below_drewN | apply below_drew1) | exact HB.out)) hb); clear HO_3; clear HB; have HO_3 := n0_; have HO398 := n1_; have HB := n2_; clear n0_ n1_ n2_; clear hb ho41; obtain ⟨Ao42, co42, eo42⟩ := Kd.R_slice HO398.out; subst eo42) | ((with_reducible refine gate_callee (f := 23) rfl ?_); refine goesL_ (some 59) rfl rfl Try.func23 (by kernel_rfl) rfl #[.slice none 0 0, .slice Ao42 y396.length co42] rfl (by (try simp only [List.map_toArray, List.map_cons, List.map_nil]); first | done | rfl | (simp only [List.length_drop, List.length_take]; rfl)) ?_; (refine (deckleref03_Put.calls k2 _ _ ([] : List Int) _ _ y396 t399 _ ?side1 ?side2 ?side3 ?side4 A34.out).mono ?_); (case side1 => exact Kd.C_nil _ _); (case side2 => exact Nat.le_refl _); (case side3 => repeat (first | exact (Kd.R_reads' HO398.out).2.2 | (with_reducible refine Kd.C_alloc ?_ _) | (with_reducible refine Kd.C_drewN ?_ _) | (with_reducible refine Kd.C_drew ?_))); (case side4 => exact (Kd.R_reads' HO398.out).2.1); rintro e w43 ⟨v400, rfl, ho0, hb⟩; refine ⟨_, rfl, ?_⟩; have n0_ := Aside0.mk (Kd.R_elder' (by (with_reducible repeat (first | apply Kd.R_alloc | apply Kd.R_drewN | apply Kd.R_drew)); exact HO_3.out) (Kd.R_base ho0) hb); have n1_ := Aside0.mk (Kd.R_below (by (with_reducible repeat (first | apply Kd.R_alloc | apply Kd.R_drewN | apply Kd.R_drew)); exact HO398.out) hb); have n2_ := Aside0.mk (Kd.R_lower (Kd.R_new' ho0 (Kd.R_lt (by (with_reducible repeat (first | apply Kd.R_alloc | apply Kd.R_drewN | apply Kd.R_drew)); exact HO_3.out))) (below_size (by repeat (first | (with_reducible first | exact HB.out | apply below_alloc | apply pw_below_drewN | apply below_drew1) | exact HB.out)))); have n3_ := Aside0.mk (below_step (by repeat (first | (with_reducible first | exact HB.out | apply below_alloc | apply pw_below_drewN | apply below_drew1) | exact HB.out)) hb); clear HO_3; clear HO398; clear HB; have HO_3 := n0_; have HO398 := n1_; have HO401 := n2_; have HB := n3_; clear n0_ n1_ n2_ n3_; (try clear hb); (try clear hb2); (try clear hk); (try clear hi); (try clear ho0); obtain ⟨Ao45, co45, eo45⟩ := Kd.R_slice HO401.out; subst eo45) | ((with_reducible refine gate_builtin (b := .append) (xs := #[.tmp 51, .tmp 59]) rfl ?_); at_builtin; refine Kd.R_append_rows (Kd.int .u8) (w0 := w) w.heap.size rfl (.tmp 51) (.tmp 59) 22 5 (.int .u8 0) 1 rfl Try.underlying22 info5 rfl (by decide) (by omega) u3 x3_1 t399 _ _ _ (fun k_ => some k_ ≠ (.slice Ao45 t399.length co45 : Value).ownBlock) (fun _ => False) rfl rfl ?aO ?aR (fun _ _ h => h) (fun _ h => h.elim) ?aF ?aB ?aS ?aL ?_; (case aR => repeat (first | exact (Kd.R_reads' HO401.out).2.2 | (with_reducible refine Kd.C_alloc ?_ _) | (with_reducible refine Kd.C_drewN ?_ _) | (with_reducible refine Kd.C_drew ?_))); (case aB => exact (by repeat (first | (with_reducible first | exact HB.out | apply below_alloc | apply pw_below_drewN | apply below_drew1) | exact HB.out))); (case aF => exact (fun k_ hk => Kd.fresh' (Kd.R_lt (by (with_reducible repeat (first | apply Kd.R_alloc | apply Kd.R_drewN | apply Kd.R_drew)); exact HO401.out)) k_ hk)); (case aO => exact (by (with_reducible repeat (first | apply Kd.R_alloc | apply Kd.R_drewN | apply Kd.R_drew)); exact Kd.R_mono HO_3.out (fun _ hk => hk.2))); (case aS => exact (below_size (by repeat (first | (with_reducible first | exact HB.out | apply below_alloc | apply pw_below_drewN | apply below_drew1) | exact HB.out)))); (case aL => have := LMc35.out; omega); intro v403 w44 ho hb hg hat; rw [← Ny402.out] at ho; have n0_ := Aside0.mk (Kd.R_over' (by (with_reducible repeat (first | apply Kd.R_alloc | apply Kd.R_drewN | apply Kd.R_drew)); exact HO398.out) (Kd.R_typed (by (with_reducible repeat (first | apply Kd.R_alloc | apply Kd.R_drewN | apply Kd.R_drew)); exact HO_3.out)) (by decide) hg); have n1_ := Aside0.mk (Kd.R_after (ok := (fun _ => True)) (by (with_reducible repeat (first | apply Kd.R_alloc | apply Kd.R_drewN | apply Kd.R_drew)); exact HO401.out) hg hat); have n2_ := Aside0.mk (hb); have n3_ := Aside0.mk (ho); clear HO398; clear HO401; clear HB; clear HO_3; have HO398 := n0_; have HO401 := n1_; have HB := n2_; have HO404 := n3_; clear n0_ n1_ n2_ n3_; clear ho hb hg hat; obtain ⟨i046, hi046, _, hsz46, _⟩ := info_parts info5; obtain ⟨A46, hcut46, hA46, hC46⟩ := print_mid_of (P := Try.prog) (Value.int .u8) 0 22 5 .i64 .i64 Try.underlying22 hi046 hsz46 A0 c0 l0 x4_1 x6_2 (of_decide_eq_true (by first | (with_reducible assumption) | assumption)) (by first | omega | exact of_decide_eq_true (by first | (with_reducible assumption) | assumption)) (of_decide_eq_true (by first | (with_reducible assumption) | assumption)) HC0.out; have HR405 := Aside0.mk (Kd.C_of_reads (h1 := fun _ => rfl) (hA46 _ (Kd.reads_of_C HR0.out))); have HC405 := Aside0.mk hC46; clear hA46 hC46 hi046 hsz46) | ((with_reducible refine gate_builtin (b := .append) (xs := #[.tmp 61, .tmp 65]) rfl ?_); at_builtin; refine Kd.R_append_rows (Kd.int .u8) (w0 := w) w.heap.size rfl (.tmp 61) (.tmp 65) 22 5 (.int .u8 0) 1 rfl Try.underlying22 info5 rfl (by decide) (by omega) v403 y402 ((l0.take (x6_2 : Int).toNat).drop (x4_1 : Int).toNat) _ _ _ (fun k_ => some k_ ≠ (.slice Ao45 t399.length co45 : Value).ownBlock) (fun _ => False) rfl rfl ?aO ?aR (fun _ _ h => h) (fun _ h => h.elim) ?aF ?aB ?aS ?aL ?_; (case aR => first | (rw [← show ((l0.take (x6_2 : Int).toNat).drop (x4_1 : Int).toNat).length = (x6_2.toNat - x4_1.toNat) from (by rw [List.length_drop, List.length_take]; have h_ : (x6_2 : Int) ≤ (l0.length : Int) := of_decide_eq_true (by first | (with_reducible assumption) | assumption); omega)]; repeat (first | exact (Kd.C_below HR405.out HB.out) | (with_reducible refine Kd.C_alloc ?_ _) | (with_reducible refine Kd.C_drewN ?_ _) | (with_reducible refine Kd.C_drew ?_))) | (repeat (first | exact (Kd.C_below HR405.out HB.out) | (with_reducible refine Kd.C_alloc ?_ _) | (with_reducible refine Kd.C_drewN ?_ _) | (with_reducible refine Kd.C_drew ?_)))); (case aB => exact (by repeat (first | (with_reducible first | exact HB.out | apply below_alloc | apply pw_below_drewN | apply below_drew1) | exact HB.out))); (case aF => exact (fun k_ hk => Kd.fresh' (Kd.R_lt (by (with_reducible repeat (first | apply Kd.R_alloc | apply Kd.R_drewN | apply Kd.R_drew)); exact HO401.out)) k_ hk)); (case aO => exact (by (with_reducible repeat (first | apply Kd.R_alloc | apply Kd.R_drewN | apply Kd.R_drew)); exact HO404.out)); (case aS => exact (below_size (by repeat (first | (with_reducible first | exact HB.out | apply below_alloc | apply pw_below_drewN | apply below_drew1) | exact HB.out)))); (case aL => have := LMc39.out; have hlx_ := (show ((l0.take (x6_2 : Int).toNat).drop (x4_1 : Int).toNat).length = (x6_2.toNat - x4_1.toNat) from (by rw [List.length_drop, List.length_take]; have h_ : (x6_2 : Int) ≤ (l0.length : Int) := of_decide_eq_true (by first | (with_reducible assumption) | assumption); omega)); omega); intro v407 w47 ho hb hg hat; rw [← Ny406.out] at ho; have n0_ := Aside0.mk (Kd.R_over' (by (with_reducible repeat (first | apply Kd.R_alloc | apply Kd.R_drewN | apply Kd.R_drew)); exact HO398.out) (Kd.R_typed (by (with_reducible repeat (first | apply Kd.R_alloc | apply Kd.R_drewN | apply Kd.R_drew)); exact HO404.out)) (by decide) hg); have n1_ := Aside0.mk (Kd.R_after (ok := (fun _ => True)) (by (with_reducible repeat (first | apply Kd.R_alloc | apply Kd.R_drewN | apply Kd.R_drew)); exact HO401.out) hg hat); have n2_ := Aside0.mk (hb); have n3_ := Aside0.mk (ho); clear HO398; clear HO401; clear HB; clear HO404; have HO398 := n0_; have HO401 := n1_; have HB := n2_; have HO408 := n3_; clear n0_ n1_ n2_ n3_; clear ho hb hg hat))
                          go_roundg k2
                          case measure => have := HK1.out; have := HK2.out; omega
                          case rel => exact ⟨(y406), (x6_2), (by first | rfl | (simp; done) | (simp [*]; done)), H', ⟨by have := HK1.out; have := HK2.out; omega⟩, ⟨by (with_reducible repeat (first | apply Kd.R_alloc | apply Kd.R_drewN | apply Kd.R_drew)); exact Kd.R_mono HO408.out (fun _ hk => trivial)⟩, ⟨by repeat (first | (with_reducible first | exact HB.out | apply below_alloc | apply pw_below_drewN | apply below_drew1) | exact HB.out)⟩⟩
                        · rw [if_neg c39] at H
                          exact absurd H (by simp)
                      · rw [if_neg c38] at H
                        exact absurd H (by simp)
                    · rw [if_neg c37] at H
                      exact absurd H (by simp)
                  · rw [if_neg c36] at H
                    exact absurd H (by simp)
                · rw [if_neg c35] at H
                  exact absurd H (by simp)
      · rw [if_neg c2] at H
        have c2b0 : decide (x4_1 < (l0.length : Int)) = false := decide_eq_false c2
        clear c2
        obtain rfl := Option.some.inj H
        go_wp2
        go_ret
        exact ⟨_, by first | rfl | (simp [errW_none, errW_some] <;> rfl) | (simp [*, errW_none, errW_some] <;> rfl), by (with_reducible repeat (first | apply Kd.R_alloc | apply Kd.R_drewN | apply Kd.R_drew)); exact HO_3.out, by repeat (first | (with_reducible first | exact HB.out | apply below_alloc | apply pw_below_drewN | apply below_drew1) | exact HB.out)⟩

/-- A state of type 58 at block g of W; what its slices lead to came in by w0. -/
def IsS58 (w0 W : World) (g : Nat) (f0 : (List Int)) (f1 : Int) (f2 : Int) (f3 : Int) (f4 : Int) : Prop := (∃ A_ c_, W.heap[g]? = some (.cells #[.slice A_ (f0).length c_, .int .i64 f1, .int .i64 f2, .int .i64 f3, .int .i64 f4] 58 (0, 0)) ∧ f0.length ≤ c_ ∧ RowIn W w0.heap.size g A_ f0) ∧ w0.heap.size ≤ g
theorem IsS58.cells {w0 W : World} {g : Nat} {f0 : (List Int)} {f1 : Int} {f2 : Int} {f3 : Int} {f4 : Int} (h : IsS58 w0 W g f0 f1 f2 f3 f4) : ∃ t cs fr, t ≠ 5 ∧ W.heap[g]? = some (Obj.cells cs t fr) := by
  obtain ⟨⟨A_, c_, hb, hcap, hr⟩, hg⟩ := h
  exact ⟨58, _, _, by decide, hb⟩
theorem IsS58.keepS {w0 W : World} {g : Nat} {f0 : (List Int)} {f1 : Int} {f2 : Int} {f3 : Int} {f4 : Int} {W' : World} {g' : Nat} (h : IsS58 w0 W g f0 f1 f2 f3 f4) (hk : KeepBut W W' g' none) (hne : g ≠ g') (hc : ∃ t cs fr, t ≠ 5 ∧ W.heap[g']? = some (Obj.cells cs t fr)) : IsS58 w0 W' g f0 f1 f2 f3 f4 := by
  obtain ⟨⟨A_, c_, hb, hcap, hr⟩, hg⟩ := h
  exact ⟨⟨A_, c_, hk.blk hb hne (by simp), hcap, hr.keep hk hc⟩, hg⟩
theorem IsS58.grown {w0 W : World} {g : Nat} {f0 : (List Int)} {f1 : Int} {f2 : Int} {f3 : Int} {f4 : Int} {W1 : World} {row : Option Nat} (h : IsS58 w0 W g f0 f1 f2 f3 f4) (hw : W.grownBy W1 row) (hne : some g ≠ row) (hr : ∀ k, row = some k → g < k ∨ k < w0.heap.size) : IsS58 w0 W1 g f0 f1 f2 f3 f4 := by
  obtain ⟨⟨A_, c_, hb, hcap, h1⟩, hg⟩ := h
  exact ⟨⟨A_, c_, blk_grown hb hw hne, hcap, h1.grown hw hr⟩, hg⟩
theorem IsS58.own_neN {w0 W : World} {g : Nat} {f0 : (List Int)} {f1 : Int} {f2 : Int} {f3 : Int} {f4 : Int} {α : Type} {d : Kd α} {e : Nat} {base : Nat} {ok : Nat → Prop} {v : Value} {xs : List α} (h : IsS58 w0 W g f0 f1 f2 f3 f4) (ho : Kd.N d e W base ok v xs) (ht : e ≠ 58) : some g ≠ v.ownBlock := by
  obtain ⟨⟨A_, c_, hb, hcap, hr⟩, hg⟩ := h
  exact Kd.N_ne ho hb ht
theorem IsS58.fresh {w0 W : World} {g : Nat} {f0 : (List Int)} {f1 : Int} {f2 : Int} {f3 : Int} {f4 : Int} (h : IsS58 w0 W g f0 f1 f2 f3 f4) : ∀ k, W.heap.size ≤ k → k ≠ g := by
  obtain ⟨⟨A_, c_, hb, hcap, hr⟩, hg⟩ := h
  exact Kd.freshB hb
theorem IsS58.below {w0 W : World} {g : Nat} {f0 : (List Int)} {f1 : Int} {f2 : Int} {f3 : Int} {f4 : Int} {W1 : World} (h : IsS58 w0 W g f0 f1 f2 f3 f4) (hw : Below W.heap.size W W1) : IsS58 w0 W1 g f0 f1 f2 f3 f4 := by
  obtain ⟨⟨A_, c_, hb, hcap, hr⟩, hg⟩ := h
  exact ⟨⟨A_, c_, blk_below hb hw, hcap, hr.below hw⟩, hg⟩
theorem IsS58.alloc {w0 W : World} {g : Nat} {f0 : (List Int)} {f1 : Int} {f2 : Int} {f3 : Int} {f4 : Int} (h : IsS58 w0 W g f0 f1 f2 f3 f4) (o : Obj) : IsS58 w0 (W.alloc o) g f0 f1 f2 f3 f4 := h.below (below_alloc (Below.refl _ _) o)
theorem IsS58.drewN {w0 W : World} {g : Nat} {f0 : (List Int)} {f1 : Int} {f2 : Int} {f3 : Int} {f4 : Int} (h : IsS58 w0 W g f0 f1 f2 f3 f4) (m : Nat) : IsS58 w0 (W.drewN m) g f0 f1 f2 f3 f4 := h
theorem IsS58.drew {w0 W : World} {g : Nat} {f0 : (List Int)} {f1 : Int} {f2 : Int} {f3 : Int} {f4 : Int} (h : IsS58 w0 W g f0 f1 f2 f3 f4) : IsS58 w0 W.drew g f0 f1 f2 f3 f4 := h
theorem IsS58.at_ {w0 W : World} {g : Nat} {f0 : (List Int)} {f1 : Int} {f2 : Int} {f3 : Int} {f4 : Int} {w' : World} {m : Nat} (hq : W.drewN m = w') (h : IsS58 w0 W g f0 f1 f2 f3 f4) : IsS58 w0 w' g f0 f1 f2 f3 f4 := by subst hq; exact IsS58.drewN h m
theorem IsS58.apart {w0 W : World} {g : Nat} {f0 : (List Int)} {f1 : Int} {f2 : Int} {f3 : Int} {f4 : Int} {α : Type} {d : Kd α} {e : Nat} {base : Nat} {ok : Nat → Prop} {v : Value} {xs : List α} (h : IsS58 w0 W g f0 f1 f2 f3 f4) (ho : d.R e W base ok v xs) (ht : ∀ q, q ∈ e :: d.E → q ≠ 58) : d.R e W base (fun k => ok k ∧ k ≠ g) v xs := by
  obtain ⟨⟨A_, c_, hb, hcap, hr⟩, hg⟩ := h
  exact Kd.R_types ho hb ht
theorem IsS58.own_ne {w0 W : World} {g : Nat} {f0 : (List Int)} {f1 : Int} {f2 : Int} {f3 : Int} {f4 : Int} {α : Type} {d : Kd α} {e : Nat} {base : Nat} {ok : Nat → Prop} {v : Value} {xs : List α} (h : IsS58 w0 W g f0 f1 f2 f3 f4) (ho : d.R e W base ok v xs) (ht : e ≠ 58) : some g ≠ v.ownBlock := by
  obtain ⟨⟨A_, c_, hb, hcap, hr⟩, hg⟩ := h
  exact Kd.R_ne ho hb ht
theorem IsS58.apartQ {w0 W : World} {g : Nat} {f0 : (List Int)} {f1 : Int} {f2 : Int} {f3 : Int} {f4 : Int} {α : Type} {d : Kd α} {e : Nat} {base : Nat} {ok : Nat → Prop} {v : Value} {xs : List α} (h : IsS58 w0 W g f0 f1 f2 f3 f4) (ho : d.Q e W base ok v xs) (ht : ∀ q, q ∈ e :: d.E → q ≠ 58) : d.Q e W base (fun k => ok k ∧ k ≠ g) v xs := by
  obtain ⟨⟨A_, c_, hb, hcap, hr⟩, hg⟩ := h
  exact Kd.Q_types ho hb ht
theorem IsS58.own_neQ {w0 W : World} {g : Nat} {f0 : (List Int)} {f1 : Int} {f2 : Int} {f3 : Int} {f4 : Int} {α : Type} {d : Kd α} {e : Nat} {base : Nat} {ok : Nat → Prop} {v : Value} {xs : List α} (h : IsS58 w0 W g f0 f1 f2 f3 f4) (ho : d.Q e W base ok v xs) (ht : e ≠ 58) : some g ≠ v.ownBlock := by
  obtain ⟨⟨A_, c_, hb, hcap, hr⟩, hg⟩ := h
  exact Kd.Q_ne ho hb ht
theorem IsS58.apartS {w0 W : World} {g : Nat} {f0 : (List Int)} {f1 : Int} {f2 : Int} {f3 : Int} {f4 : Int} {α : Type} {d : Kd α} {e : Nat} {base : Nat} {ok : Nat → Prop} {v : Value} {xs : List α} (h : IsS58 w0 W g f0 f1 f2 f3 f4) (ho : d.S e W base ok v xs) (ht : ∀ q, q ∈ e :: d.E → q ≠ 58) : d.S e W base (fun k => ok k ∧ k ≠ g) v xs := by
  obtain ⟨⟨A_, c_, hb, hcap, hr⟩, hg⟩ := h
  exact Kd.S_types ho hb ht
theorem IsS58.own_neS {w0 W : World} {g : Nat} {f0 : (List Int)} {f1 : Int} {f2 : Int} {f3 : Int} {f4 : Int} {α : Type} {d : Kd α} {e : Nat} {base : Nat} {ok : Nat → Prop} {v : Value} {xs : List α} (h : IsS58 w0 W g f0 f1 f2 f3 f4) (ho : d.S e W base ok v xs) (ht : e ≠ 58) : some g ≠ v.ownBlock := by
  obtain ⟨⟨A_, c_, hb, hcap, hr⟩, hg⟩ := h
  exact Kd.S_ne ho hb ht
theorem IsS58.lt {w0 W : World} {g : Nat} {f0 : (List Int)} {f1 : Int} {f2 : Int} {f3 : Int} {f4 : Int} (h : IsS58 w0 W g f0 f1 f2 f3 f4) : g < W.heap.size := by
  obtain ⟨⟨A_, c_, hb, hcap, hr⟩, hg⟩ := h
  exact blk_lt hb
theorem IsS58.ge {w0 W : World} {g : Nat} {f0 : (List Int)} {f1 : Int} {f2 : Int} {f3 : Int} {f4 : Int} (h : IsS58 w0 W g f0 f1 f2 f3 f4) : w0.heap.size ≤ g := by
  obtain ⟨⟨A_, c_, hb, hcap, hr⟩, hg⟩ := h
  exact hg
theorem IsS58.ne_blk {w0 W : World} {g : Nat} {f0 : (List Int)} {f1 : Int} {f2 : Int} {f3 : Int} {f4 : Int} {a : Nat} {cs : Array Value} {t : TypeId} {fr : Nat × Nat} (h : IsS58 w0 W g f0 f1 f2 f3 f4) (hb2 : W.heap[a]? = some (.cells cs t fr)) (ht : t ≠ 58) : g ≠ a := by
  obtain ⟨⟨A_, c_, hb, hcap, hr⟩, hg⟩ := h
  rintro rfl
  rw [hb] at hb2
  injection hb2 with hb2
  injection hb2 with _ ht2
  exact ht ht2.symm
theorem IsS58.far {w0 W : World} {g : Nat} {f0 : (List Int)} {f1 : Int} {f2 : Int} {f3 : Int} {f4 : Int} {p : Addr} (h : IsS58 w0 W g f0 f1 f2 f3 f4) (hne : g ≠ p.block) {t : TypeId} (hp : TypeAt W p.block t) (ht : t ≠ 5) (u : Value) : IsS58 w0 (W.setCell p u) g f0 f1 f2 f3 f4 := by
  obtain ⟨⟨A_, c_, hb, hcap, hr⟩, hg⟩ := h
  obtain ⟨cs, hp⟩ := hp
  exact ⟨⟨A_, c_, blk_far hb hne u, hcap, hr.step fun b cs' fr' _ _ hb' => (Below.heap_setCell W p u b (RowIn.unlike hp ht hb')).trans hb'⟩, hg⟩
theorem cellS58_0 {W : World} {g : Nat} {A_ : Option Addr} {c_ : Nat} {f0 : (List Int)} {f1 : Int} {f2 : Int} {f3 : Int} {f4 : Int} (h : W.heap[g]? = some (.cells #[.slice A_ (f0).length c_, .int .i64 f1, .int .i64 f2, .int .i64 f3, .int .i64 f4] 58 (0, 0))) : W.cell? ⟨g, 0, none⟩ = some (.slice A_ (f0).length c_) := (blk_cell h 0).trans rfl
theorem IsS58.set_0 {w0 W : World} {g : Nat} {f0 : (List Int)} {f1 : Int} {f2 : Int} {f3 : Int} {f4 : Int} (h : IsS58 w0 W g f0 f1 f2 f3 f4) : IsS58 w0 (W.setCell ⟨g, 0, none⟩ (.slice none 0 0)) g [] f1 f2 f3 f4 := by
  obtain ⟨⟨A_, c_, hb, hcap, hr⟩, hg⟩ := h
  exact ⟨⟨none, 0, by simpa using blk_set hb 0 (.slice none 0 0), by simp, RowIn.nil _ _ _⟩, hg⟩
theorem IsS58.put {w0 W : World} {g : Nat} {f0 : (List Int)} {f1 : Int} {f2 : Int} {f3 : Int} {f4 : Int} (h : IsS58 w0 W g f0 f1 f2 f3 f4) (l : List Int) (A : Option Addr) (c : Nat) (hc : l.length ≤ c) (hr : RowIn W w0.heap.size g A l) : IsS58 w0 (W.setCell ⟨g, 0, none⟩ (.slice A l.length c)) g l f1 f2 f3 f4 := by
  obtain ⟨⟨A_, c_, hb, hcap, _⟩, hg⟩ := h
  exact ⟨⟨A, c, by simpa using blk_set hb 0 (.slice A l.length c), hc, hr.set hb (by decide) _ _⟩, hg⟩
theorem cellS58_1 {W : World} {g : Nat} {A_ : Option Addr} {c_ : Nat} {f0 : (List Int)} {f1 : Int} {f2 : Int} {f3 : Int} {f4 : Int} (h : W.heap[g]? = some (.cells #[.slice A_ (f0).length c_, .int .i64 f1, .int .i64 f2, .int .i64 f3, .int .i64 f4] 58 (0, 0))) : W.cell? ⟨g, 1, none⟩ = some (.int .i64 f1) := (blk_cell h 1).trans rfl
theorem IsS58.set_1 {w0 W : World} {g : Nat} {f0 : (List Int)} {f1 : Int} {f2 : Int} {f3 : Int} {f4 : Int} (h : IsS58 w0 W g f0 f1 f2 f3 f4) (x : Int) : IsS58 w0 (W.setCell ⟨g, 1, none⟩ (.int .i64 x)) g f0 x f2 f3 f4 := by
  obtain ⟨⟨A_, c_, hb, hcap, hr⟩, hg⟩ := h
  exact ⟨⟨A_, c_, by simpa using blk_set hb 1 (.int .i64 x), hcap, hr.set hb (by decide) _ _⟩, hg⟩
theorem cellS58_2 {W : World} {g : Nat} {A_ : Option Addr} {c_ : Nat} {f0 : (List Int)} {f1 : Int} {f2 : Int} {f3 : Int} {f4 : Int} (h : W.heap[g]? = some (.cells #[.slice A_ (f0).length c_, .int .i64 f1, .int .i64 f2, .int .i64 f3, .int .i64 f4] 58 (0, 0))) : W.cell? ⟨g, 2, none⟩ = some (.int .i64 f2) := (blk_cell h 2).trans rfl
theorem IsS58.set_2 {w0 W : World} {g : Nat} {f0 : (List Int)} {f1 : Int} {f2 : Int} {f3 : Int} {f4 : Int} (h : IsS58 w0 W g f0 f1 f2 f3 f4) (x : Int) : IsS58 w0 (W.setCell ⟨g, 2, none⟩ (.int .i64 x)) g f0 f1 x f3 f4 := by
  obtain ⟨⟨A_, c_, hb, hcap, hr⟩, hg⟩ := h
  exact ⟨⟨A_, c_, by simpa using blk_set hb 2 (.int .i64 x), hcap, hr.set hb (by decide) _ _⟩, hg⟩
theorem cellS58_3 {W : World} {g : Nat} {A_ : Option Addr} {c_ : Nat} {f0 : (List Int)} {f1 : Int} {f2 : Int} {f3 : Int} {f4 : Int} (h : W.heap[g]? = some (.cells #[.slice A_ (f0).length c_, .int .i64 f1, .int .i64 f2, .int .i64 f3, .int .i64 f4] 58 (0, 0))) : W.cell? ⟨g, 3, none⟩ = some (.int .i64 f3) := (blk_cell h 3).trans rfl
theorem IsS58.set_3 {w0 W : World} {g : Nat} {f0 : (List Int)} {f1 : Int} {f2 : Int} {f3 : Int} {f4 : Int} (h : IsS58 w0 W g f0 f1 f2 f3 f4) (x : Int) : IsS58 w0 (W.setCell ⟨g, 3, none⟩ (.int .i64 x)) g f0 f1 f2 x f4 := by
  obtain ⟨⟨A_, c_, hb, hcap, hr⟩, hg⟩ := h
  exact ⟨⟨A_, c_, by simpa using blk_set hb 3 (.int .i64 x), hcap, hr.set hb (by decide) _ _⟩, hg⟩
theorem cellS58_4 {W : World} {g : Nat} {A_ : Option Addr} {c_ : Nat} {f0 : (List Int)} {f1 : Int} {f2 : Int} {f3 : Int} {f4 : Int} (h : W.heap[g]? = some (.cells #[.slice A_ (f0).length c_, .int .i64 f1, .int .i64 f2, .int .i64 f3, .int .i64 f4] 58 (0, 0))) : W.cell? ⟨g, 4, none⟩ = some (.int .i64 f4) := (blk_cell h 4).trans rfl
theorem IsS58.set_4 {w0 W : World} {g : Nat} {f0 : (List Int)} {f1 : Int} {f2 : Int} {f3 : Int} {f4 : Int} (h : IsS58 w0 W g f0 f1 f2 f3 f4) (x : Int) : IsS58 w0 (W.setCell ⟨g, 4, none⟩ (.int .i64 x)) g f0 f1 f2 f3 x := by
  obtain ⟨⟨A_, c_, hb, hcap, hr⟩, hg⟩ := h
  exact ⟨⟨A_, c_, by simpa using blk_set hb 4 (.int .i64 x), hcap, hr.set hb (by decide) _ _⟩, hg⟩

/-! ### deckleref04_Open: function 31 -/
def deckleref04_Open.f (l0 : List Int) (a1 : Int) : Option ((List Int) × Int × Int × Int × Int) := (some (([] : List Int) : List Int)).bind fun y409 => (if y409.length + l0.length < 140737488355328 then (some ((y409 ++ l0), mn (mx a1 0) 1099511627776, 0, 0, 0)) else (none))
set_option maxHeartbeats 8000000 in
set_option maxRecDepth 100000 in
theorem deckleref04_Open.calls (A0 : Option Addr) (c0 : Nat) (l0 : List Int) (a1 : Int) (r1 : (List Int)) (r2 : Int) (r3 : Int) (r4 : Int) (r5 : Int) (w0 w : World) (hB : Below w0.heap.size w0 w) (hr0 : Kd.C (Kd.int .u8) w A0 l0.length l0) (hc0 : l0.length ≤ c0) (h : deckleref04_Open.f l0 a1 = some (r1, r2, r3, r4, r5)) :
    Calls Try.prog 31 #[.slice A0 l0.length c0, .int .i64 a1] w fun e w' => ∃ g_ : Nat, e = .returned (.pointer (some ⟨g_, 0, none⟩)) ∧ IsS58 w0 w' g_ r1 r2 r3 r4 r5 ∧ Below w0.heap.size w0 w' ∧ Below w.heap.size w w' := by
  have hu58 := Try.underlying58
  have HR0 := Aside0.mk hr0
  have HC0 := Aside0.mk hc0
  clear hr0 hc0
  have HBW := Aside0.mk (Below.refl w.heap.size w)
  have HW0 := Aside0.mk hB.size
  have HB := Aside0.mk hB
  have HB00 := Aside0.mk hB
  clear hB
  have H : ((some (([] : List Int) : List Int)).bind fun y409 => (if y409.length + l0.length < 140737488355328 then (some ((y409 ++ l0), mn (mx a1 0) 1099511627776, 0, 0, 0)) else (none))) = some (r1, r2, r3, r4, r5) := h
  clear h
  obtain ⟨y409, hy409⟩ : ∃ y_ : List Int, y_ = (([] : List Int)) := ⟨_, rfl⟩
  replace H : (if y409.length + l0.length < 140737488355328 then (some ((y409 ++ l0), mn (mx a1 0) 1099511627776, 0, 0, 0)) else (none)) = some (r1, r2, r3, r4, r5) := by first | (rw [hy409]; with_reducible exact H) | (have H2_ := (Option.bind_some _ _).symm.trans H; rw [hy409]; with_reducible exact H2_) | (have H2_ := (Option.bind_some _ _).symm.trans H; with_reducible exact H2_) | with_reducible exact H | (rw [hy409]; exact H) | exact H
  have Ny409 := Aside0.mk hy409
  clear hy409
  by_cases c3 : y409.length + l0.length < 140737488355328
  · rw [if_pos c3] at H
    have LMc3 := Aside0.mk c3
    clear c3
    obtain ⟨y412, hy412⟩ : ∃ y_ : List Int, y_ = (y409 ++ l0) := ⟨_, rfl⟩
    replace H : (some (y412, mn (mx a1 0) 1099511627776, 0, 0, 0)) = some (r1, r2, r3, r4, r5) := by first | (rw [hy412]; with_reducible exact H) | (have H2_ := (Option.bind_some _ _).symm.trans H; rw [hy412]; with_reducible exact H2_) | (have H2_ := (Option.bind_some _ _).symm.trans H; with_reducible exact H2_) | with_reducible exact H | (rw [hy412]; exact H) | exact H
    have Ny412 := Aside0.mk hy412
    clear hy412
    obtain ⟨ji4, hji4⟩ : ∃ j_ : Int, (mx a1 0) = j_ := ⟨_, rfl⟩
    replace H : (some (y412, mn (ji4) 1099511627776, 0, 0, 0)) = some (r1, r2, r3, r4, r5) := by first | (rw [hji4] at H; exact H) | (simp only [hji4] at H ⊢; exact H)
    (try (have hji4l : 0 ≤ ji4 := by (rw [← hji4]; unfold mx; (repeat' split) <;> omega)))
    (try (have hji4m : 0 ≤ ji4 := by omega))
    have hji4_ : (if a1 < 0 then 0 else a1) = ji4 := hji4
    obtain ⟨ji5, hji5⟩ : ∃ j_ : Int, (mn (ji4) 1099511627776) = j_ := ⟨_, rfl⟩
    replace H : (some (y412, ji5, 0, 0, 0)) = some (r1, r2, r3, r4, r5) := by first | (rw [hji5] at H; exact H) | (simp only [hji5] at H ⊢; exact H)
    have hji5_ : (if 1099511627776 < (ji4) then 1099511627776 else (ji4)) = ji5 := hji5
    simp only [Option.some.injEq, Prod.mk.injEq] at H
    obtain ⟨rfl, rfl, rfl, rfl, rfl⟩ := H
    go_enter Try.func31, Try.ntmps31
    go_wp2_with (first | ((with_reducible refine gate_dst (N := 5) rfl ?_); refine Kd.R_lit (Kd.int .u8) _ 5 ?hg (N := 5) ?hd (xs := ([] : List Int)) (inner := []) (ok := fun _ => True) (okp := fun _ => True) ?hr ?hp (fun _ hk => hk) trivial (Below.refl _ _) (Nat.le_refl _) (by simp) ?_; (case hd => rfl); (case hg => rfl); (case hr => first | (go_simp; done) | (go_simp; rfl)); (case hp => exact (Reps.none _ _)); intro v410 w6 ho7 hb hg_ hnew_; clear hg_ hnew_; (first | rw [← Ny409.out] at ho7 | (simp only [Int.reduceToNat] at ho7; rw [← Ny409.out] at ho7)); have n0_ := Aside0.mk (Kd.R_lower ho7 (below_size (by repeat (first | (with_reducible first | exact HBW.out | apply below_alloc | apply pw_below_drewN | apply below_drew1) | exact HBW.out)))); have n1_ := Aside0.mk (below_step (by repeat (first | (with_reducible first | exact HB.out | apply below_alloc | apply pw_below_drewN | apply below_drew1) | exact HB.out)) hb); have nw_ := Aside0.mk (below_step HBW.out hb); clear HB; clear HBW; have HO411 := n0_; have HB := n1_; have HBW := nw_; clear n0_ n1_ nw_; clear hb ho7) | ((with_reducible refine gate_builtin (b := .append) (xs := #[.tmp 5, .tmp 6]) rfl ?_); at_builtin; refine Kd.R_append_rows (Kd.int .u8) (w0 := w) w.heap.size rfl (.tmp 5) (.tmp 6) 22 5 (.int .u8 0) 1 rfl Try.underlying22 info5 rfl (by decide) (by omega) v410 y409 l0 _ _ _ (fun _ => True) (fun _ => False) rfl rfl ?aO ?aR (fun _ _ h => h) (fun _ h => h.elim) ?aF ?aB ?aS ?aL ?_; (case aR => repeat (first | exact (Kd.C_below HR0.out HBW.out) | (with_reducible refine Kd.C_alloc ?_ _) | (with_reducible refine Kd.C_drewN ?_ _) | (with_reducible refine Kd.C_drew ?_))); (case aB => exact (by repeat (first | (with_reducible first | exact HBW.out | apply below_alloc | apply pw_below_drewN | apply below_drew1) | exact HBW.out))); (case aF => exact (fun _ _ => trivial)); (case aO => exact (by (with_reducible repeat (first | apply Kd.R_alloc | apply Kd.R_drewN | apply Kd.R_drew)); exact HO411.out)); (case aS => exact (below_size (by repeat (first | (with_reducible first | exact HBW.out | apply below_alloc | apply pw_below_drewN | apply below_drew1) | exact HBW.out)))); (case aL => have := LMc3.out; omega); intro v413 w8 ho hb hg hat; rw [← Ny412.out] at ho; have n0_ := Aside0.mk (below_step HB00.out hb); have nw_ := Aside0.mk hb; have n1_ := Aside0.mk (ho); clear HB; clear HBW; have HBW := nw_; clear nw_; clear HO411; have HB := n0_; have HO414 := n1_; clear n0_ n1_; clear ho hb hg hat; obtain ⟨Ao9, co9, eo9⟩ := Kd.R_slice HO414.out; subst eo9) | ((with_reducible refine gate_dst (N := 12) rfl ?_); refine box_event ?hg (N := 12) ?hd (cs := #[.slice Ao9 y412.length co9, .int .i64 ji5, .int .i64 0, .int .i64 0, .int .i64 0]) (t := 58) ?hr ?_; (case hd => rfl); (case hg => rfl); (case hr => first | (go_simp; done) | (go_simp; rfl)); intro gb415 hg w10 hbox hb; have HLTG := Aside0.mk (show ∀ k, (_ : Value).ownBlock = some k → k < gb415 from by rw [hg]; exact Kd.R_lt (by (with_reducible repeat (first | apply Kd.R_alloc | apply Kd.R_drewN | apply Kd.R_drew)); exact HO414.out)); have n0_ := Aside0.mk (Kd.R_below (by (with_reducible repeat (first | apply Kd.R_alloc | apply Kd.R_drewN | apply Kd.R_drew)); exact HO414.out) hb); have n1_ := Aside0.mk (below_step HBW.out hb); have n2_ := Aside0.mk (below_step (by repeat (first | (with_reducible first | exact HB.out | apply below_alloc | apply pw_below_drewN | apply below_drew1) | exact HB.out)) hb); have n3_ := Aside0.mk (hbox); have n4_ := Aside0.mk ((by rw [hg]; exact (below_size (by repeat (first | (with_reducible first | exact HBW.out | apply below_alloc | apply pw_below_drewN | apply below_drew1) | exact HBW.out))) : w.heap.size ≤ gb415)); have n5_ := Aside0.mk ((Nat.le_trans HW0.out (by rw [hg]; exact (below_size (by repeat (first | (with_reducible first | exact HBW.out | apply below_alloc | apply pw_below_drewN | apply below_drew1) | exact HBW.out))) : w.heap.size ≤ gb415) : w0.heap.size ≤ gb415)); clear HO414; clear HBW; clear HB; have HO414 := n0_; have HBW := n1_; have HB := n2_; have BK415 := n3_; have GW415 := n4_; have GE415 := n5_; clear n0_ n1_ n2_ n3_ n4_ n5_; clear hb hbox hg))
    go_ret
    exact ⟨_, rfl, (show IsS58 w0 _ gb415 y412 ji5 0 0 0 from ⟨⟨_, _, by (with_reducible repeat (first | refine blk_drewN ?_ _ | refine blk_drew ?_ | refine blk_alloc ?_ _)); exact BK415.out, (RowIn.of_R HO414.out HLTG.out HW0.out).2.1, (RowIn.of_R HO414.out HLTG.out HW0.out).2.2⟩, GE415.out⟩), by repeat (first | (with_reducible first | exact HB.out | apply below_alloc | apply pw_below_drewN | apply below_drew1 | refine below_set ?_ GE415.out) | exact HB.out), by repeat (first | (with_reducible first | exact HBW.out | apply below_alloc | apply pw_below_drewN | apply below_drew1 | refine below_set ?_ GW415.out) | exact HBW.out)⟩
  · rw [if_neg c3] at H
    exact absurd H (by simp)

/-! ### deckleref04_Cursor_Left: function 32 -/
def deckleref04_Cursor_Left.f (s0_0 : (List Int)) (s0_1 : Int) (s0_2 : Int) (s0_3 : Int) (s0_4 : Int) : Option (Int × (List Int) × Int × Int × Int × Int) := some ((s0_0.length : Int), s0_0, s0_1, s0_2, s0_3, s0_4)
set_option maxHeartbeats 8000000 in
set_option maxRecDepth 100000 in
theorem deckleref04_Cursor_Left.calls (g : Nat) (s0_0 : (List Int)) (s0_1 : Int) (s0_2 : Int) (s0_3 : Int) (s0_4 : Int) (r1 : Int) (r2 : (List Int)) (r3 : Int) (r4 : Int) (r5 : Int) (r6 : Int) (w0 w : World) (hI : IsS58 w0 w g s0_0 s0_1 s0_2 s0_3 s0_4) (hB : Below w0.heap.size w0 w) (h : deckleref04_Cursor_Left.f s0_0 s0_1 s0_2 s0_3 s0_4 = some (r1, r2, r3, r4, r5, r6)) :
    Calls Try.prog 32 #[.pointer (some ⟨g, 0, none⟩)] w fun e w' => e = .returned (.int .i64 r1) ∧ IsS58 w0 w' g r2 r3 r4 r5 r6 ∧ Below w0.heap.size w0 w' ∧ KeepBut w w' g none := by
  have HI0 := Aside0.mk hI
  have HK := Aside0.mk (KeepBut.refl w g none)
  have HL := Aside0.mk hB.size
  clear hI
  have HW0 := Aside0.mk hB.size
  have HB := Aside0.mk hB
  clear hB
  have H : (some ((s0_0.length : Int), s0_0, s0_1, s0_2, s0_3, s0_4)) = some (r1, r2, r3, r4, r5, r6) := h
  clear h
  simp only [Option.some.injEq, Prod.mk.injEq] at H
  obtain ⟨rfl, rfl, rfl, rfl, rfl, rfl⟩ := H
  obtain ⟨⟨A_, c_, HGz2, hcapz2, HRz2⟩, hgz2⟩ := HI0.out
  have HCz2 := HRz2.1
  have hcz2_0 := cellS58_0 HGz2
  have hcz2_1 := cellS58_1 HGz2
  have hcz2_2 := cellS58_2 HGz2
  have hcz2_3 := cellS58_3 HGz2
  have hcz2_4 := cellS58_4 HGz2
  have hfz2_0 := blk_frozen HGz2 0
  have hfz2_1 := blk_frozen HGz2 1
  have hfz2_2 := blk_frozen HGz2 2
  have hfz2_3 := blk_frozen HGz2 3
  have hfz2_4 := blk_frozen HGz2 4
  clear HGz2 hgz2
  go_enter Try.func32, Try.ntmps32
  go_wp2
  go_ret
  exact ⟨by first | rfl | (simp [errW_none, errW_some] <;> rfl) | (simp [*, errW_none, errW_some] <;> rfl), by repeat (first | (with_reducible first | exact HI0.out | apply IsS58.alloc | apply IsS58.drewN | apply IsS58.drew | apply IsS58.set_0 | apply IsS58.set_1 | apply IsS58.set_2 | apply IsS58.set_3 | apply IsS58.set_4) | exact HI0.out), by repeat (first | (with_reducible first | exact HB.out | apply below_alloc | apply pw_below_drewN | apply below_drew1 | refine below_set ?_ (IsS58.ge HI0.out)) | exact HB.out), by repeat (first | (with_reducible first | exact HK.out | apply KeepBut.set_ | apply keep_drewN | apply keep_drew | apply keep_alloc) | exact HK.out)⟩

/-! ### deckleref04_Cursor_Fail: function 43 -/
def deckleref04_Cursor_Fail.f (s0_0 : (List Int)) (s0_1 : Int) (s0_2 : Int) (s0_3 : Int) (s0_4 : Int) (a1 : Int) : Option ((List Int) × Int × Int × Int × Int) := if a1 = 0 then (some (s0_0, s0_1, s0_2, s0_3, s0_4)) else (if s0_2 = 0 then (some (([] : (List Int)), s0_1, a1, 0, s0_1)) else (some (([] : (List Int)), s0_1, s0_2, s0_3, s0_4)))
set_option maxHeartbeats 8000000 in
set_option maxRecDepth 100000 in
theorem deckleref04_Cursor_Fail.calls (g : Nat) (s0_0 : (List Int)) (s0_1 : Int) (s0_2 : Int) (s0_3 : Int) (s0_4 : Int) (a1 : Int) (r1 : (List Int)) (r2 : Int) (r3 : Int) (r4 : Int) (r5 : Int) (w0 w : World) (hI : IsS58 w0 w g s0_0 s0_1 s0_2 s0_3 s0_4) (hB : Below w0.heap.size w0 w) (h : deckleref04_Cursor_Fail.f s0_0 s0_1 s0_2 s0_3 s0_4 a1 = some (r1, r2, r3, r4, r5)) :
    Calls Try.prog 43 #[.pointer (some ⟨g, 0, none⟩), .int .i64 a1] w fun e w' => e = .returned (.tuple #[]) ∧ IsS58 w0 w' g r1 r2 r3 r4 r5 ∧ Below w0.heap.size w0 w' ∧ KeepBut w w' g none := by
  have hu45 := Try.underlying45
  have HI0 := Aside0.mk hI
  have HK := Aside0.mk (KeepBut.refl w g none)
  have HL := Aside0.mk hB.size
  clear hI
  have HW0 := Aside0.mk hB.size
  have HB := Aside0.mk hB
  clear hB
  have H : (if a1 = 0 then (some (s0_0, s0_1, s0_2, s0_3, s0_4)) else (if s0_2 = 0 then (some (([] : (List Int)), s0_1, a1, 0, s0_1)) else (some (([] : (List Int)), s0_1, s0_2, s0_3, s0_4)))) = some (r1, r2, r3, r4, r5) := h
  clear h
  by_cases c3 : a1 = 0
  · rw [if_pos c3] at H
    have c3b0 : (a1 == 0) = true := beq_iff_eq.mpr c3
    have c3b1 : (a1 != 0) = false := bne_eq_false_iff_eq.mpr c3
    clear c3
    simp only [Option.some.injEq, Prod.mk.injEq] at H
    obtain ⟨rfl, rfl, rfl, rfl, rfl⟩ := H
    go_enter Try.func43, Try.ntmps43
    go_wp2
    first | go_end0 | ((try simp only [Exit.inBlock, Exit.then]); refine bodyPost_ret (results_none rfl _ _ _) rfl ?_)
    exact ⟨by first | rfl | (simp [errW_none, errW_some] <;> rfl) | (simp [*, errW_none, errW_some] <;> rfl), by repeat (first | (with_reducible first | exact HI0.out | apply IsS58.alloc | apply IsS58.drewN | apply IsS58.drew | apply IsS58.set_0 | apply IsS58.set_1 | apply IsS58.set_2 | apply IsS58.set_3 | apply IsS58.set_4) | exact HI0.out), by repeat (first | (with_reducible first | exact HB.out | apply below_alloc | apply pw_below_drewN | apply below_drew1 | refine below_set ?_ (IsS58.ge HI0.out)) | exact HB.out), by repeat (first | (with_reducible first | exact HK.out | apply KeepBut.set_ | apply keep_drewN | apply keep_drew | apply keep_alloc) | exact HK.out)⟩
  · rw [if_neg c3] at H
    have c3b0 : (a1 == 0) = false := beq_eq_false_iff_ne.mpr c3
    have c3b1 : (a1 != 0) = true := bne_iff_ne.mpr c3
    by_cases c4 : s0_2 = 0
    · rw [if_pos c4] at H
      have c4b0 : (s0_2 == 0) = true := beq_iff_eq.mpr c4
      have c4b1 : (s0_2 != 0) = false := bne_eq_false_iff_eq.mpr c4
      clear c4
      simp only [Option.some.injEq, Prod.mk.injEq] at H
      obtain ⟨rfl, rfl, rfl, rfl, rfl⟩ := H
      obtain ⟨⟨A_, c_, HGz5, hcapz5, HRz5⟩, hgz5⟩ := HI0.out
      have HCz5 := HRz5.1
      have hcz5_0 := cellS58_0 HGz5
      have hcz5_1 := cellS58_1 HGz5
      have hcz5_2 := cellS58_2 HGz5
      have hcz5_3 := cellS58_3 HGz5
      have hcz5_4 := cellS58_4 HGz5
      have hfz5_0 := blk_frozen HGz5 0
      have hfz5_1 := blk_frozen HGz5 1
      have hfz5_2 := blk_frozen HGz5 2
      have hfz5_3 := blk_frozen HGz5 3
      have hfz5_4 := blk_frozen HGz5 4
      clear HGz5 hgz5
      go_enter Try.func43, Try.ntmps43
      go_wp2
      first | go_end0 | ((try simp only [Exit.inBlock, Exit.then]); refine bodyPost_ret (results_none rfl _ _ _) rfl ?_)
      exact ⟨by first | rfl | (simp [errW_none, errW_some] <;> rfl) | (simp [*, errW_none, errW_some] <;> rfl), by repeat (first | (with_reducible first | exact HI0.out | apply IsS58.alloc | apply IsS58.drewN | apply IsS58.drew | apply IsS58.set_0 | apply IsS58.set_1 | apply IsS58.set_2 | apply IsS58.set_3 | apply IsS58.set_4) | exact HI0.out), by repeat (first | (with_reducible first | exact HB.out | apply below_alloc | apply pw_below_drewN | apply below_drew1 | refine below_set ?_ (IsS58.ge HI0.out)) | exact HB.out), by repeat (first | (with_reducible first | exact HK.out | apply KeepBut.set_ | apply keep_drewN | apply keep_drew | apply keep_alloc) | exact HK.out)⟩
    · rw [if_neg c4] at H
      have c4b0 : (s0_2 == 0) = false := beq_eq_false_iff_ne.mpr c4
      have c4b1 : (s0_2 != 0) = true := bne_iff_ne.mpr c4
      simp only [Option.some.injEq, Prod.mk.injEq] at H
      obtain ⟨rfl, rfl, rfl, rfl, rfl⟩ := H
      obtain ⟨⟨A_, c_, HGz6, hcapz6, HRz6⟩, hgz6⟩ := HI0.out
      have HCz6 := HRz6.1
      have hcz6_0 := cellS58_0 HGz6
      have hcz6_1 := cellS58_1 HGz6
      have hcz6_2 := cellS58_2 HGz6
      have hcz6_3 := cellS58_3 HGz6
      have hcz6_4 := cellS58_4 HGz6
      have hfz6_0 := blk_frozen HGz6 0
      have hfz6_1 := blk_frozen HGz6 1
      have hfz6_2 := blk_frozen HGz6 2
      have hfz6_3 := blk_frozen HGz6 3
      have hfz6_4 := blk_frozen HGz6 4
      clear HGz6 hgz6
      go_enter Try.func43, Try.ntmps43
      go_wp2
      first | go_end0 | ((try simp only [Exit.inBlock, Exit.then]); refine bodyPost_ret (results_none rfl _ _ _) rfl ?_)
      exact ⟨by first | rfl | (simp [errW_none, errW_some] <;> rfl) | (simp [*, errW_none, errW_some] <;> rfl), by repeat (first | (with_reducible first | exact HI0.out | apply IsS58.alloc | apply IsS58.drewN | apply IsS58.drew | apply IsS58.set_0 | apply IsS58.set_1 | apply IsS58.set_2 | apply IsS58.set_3 | apply IsS58.set_4) | exact HI0.out), by repeat (first | (with_reducible first | exact HB.out | apply below_alloc | apply pw_below_drewN | apply below_drew1 | refine below_set ?_ (IsS58.ge HI0.out)) | exact HB.out), by repeat (first | (with_reducible first | exact HK.out | apply KeepBut.set_ | apply keep_drewN | apply keep_drew | apply keep_alloc) | exact HK.out)⟩

/-! ### deckleref04_Cursor_Take: function 34 -/
def deckleref04_Cursor_Take.f (s0_0 : List Int) (s0_1 s0_2 s0_3 s0_4 : Int) (a1 : Int) : Option (List Int × List Int × Int × Int × Int × Int) :=
  if a1 < 0 ∨ (s0_0.length : Int) < a1 then (deckleref04_Cursor_Fail.f s0_0 s0_1 s0_2 s0_3 s0_4 2).bind fun b => some ([], b.1, b.2.1, b.2.2.1, b.2.2.2.1, b.2.2.2.2)
  else if a1.toNat < 140737488355328 then some (s0_0.take a1.toNat, s0_0.drop a1.toNat, wrap64 (s0_1 + a1), s0_2, s0_3, s0_4) else none
set_option maxHeartbeats 8000000 in
set_option maxRecDepth 100000 in
theorem deckleref04_Cursor_Take.calls (g : Nat) (s0_0 : List Int) (s0_1 s0_2 s0_3 s0_4 : Int) (a1 : Int) (r1 : List Int) (r2 : List Int) (r3 r4 r5 r6 : Int) (w0 w : World) (hI : IsS58 w0 w g s0_0 s0_1 s0_2 s0_3 s0_4) (hB : Below w0.heap.size w0 w) (h : deckleref04_Cursor_Take.f s0_0 s0_1 s0_2 s0_3 s0_4 a1 = some (r1, r2, r3, r4, r5, r6)) :
    Calls Try.prog 34 #[.pointer (some ⟨g, 0, none⟩), .int .i64 a1] w fun e w' => ∃ v0_ : Value, e = .returned (v0_) ∧ Kd.R (Kd.int .u8) 5 w' w.heap.size (fun _ => True) v0_ r1 ∧ IsS58 w0 w' g r2 r3 r4 r5 r6 ∧ Below w0.heap.size w0 w' ∧ KeepBut w w' g none := by
  unfold deckleref04_Cursor_Take.f at h
  obtain ⟨⟨A_, c_, HG, hcap, HR⟩, hg⟩ := hI
  have hcz_0 := cellS58_0 HG
  have hcz_1 := cellS58_1 HG
  have hfz_0 := blk_frozen HG 0
  have hfz_1 := blk_frozen HG 1
  have hI : Aside0 (IsS58 w0 w g s0_0 s0_1 s0_2 s0_3 s0_4) := ⟨⟨⟨A_, c_, HG, hcap, HR⟩, hg⟩⟩
  have HB := Aside0.mk hB
  by_cases c : a1 < 0 ∨ (s0_0.length : Int) < a1
  · rw [if_pos c] at h
    obtain ⟨⟨t1, t2, t3, t4, t5⟩, hF, h⟩ := Option.bind_eq_some_iff.mp h
    simp only [Option.some.injEq, Prod.mk.injEq] at h
    obtain ⟨rfl, rfl, rfl, rfl, rfl, rfl⟩ := h
    have HF := Aside0.mk hF
    clear hF
    by_cases c1 : a1 < 0
    · have c1b : decide (a1 < 0) = true := decide_eq_true c1
      clear c c1 HG HR hg hcap
      go_enter Try.func34, Try.ntmps34
      go_wp2_with (first | ((with_reducible refine gate_callee (f := 43) rfl ?_); refine goesL_ (some 18) rfl rfl Try.func43 (by kernel_rfl) rfl #[.pointer (some ⟨g, 0, none⟩), .int .i64 2] rfl (by (try simp only [List.map_toArray, List.map_cons, List.map_nil]); first | done | rfl) ?_; refine (deckleref04_Cursor_Fail.calls g s0_0 s0_1 s0_2 s0_3 s0_4 2 t1 t2 t3 t4 t5 w0 _ hI.out HB.out HF.out).mono ?_; rintro e w3 ⟨rfl, hJ, hB, hK⟩; refine ⟨_, rfl, ?_⟩))
      go_ret
      exact ⟨_, rfl, Kd.R_nil _ _ _ _ _, hJ, hB, hK⟩
    · have c1b : decide (a1 < 0) = false := decide_eq_false c1
      have c2b : decide (((s0_0.length : Nat) : Int) < a1) = true := decide_eq_true (by omega)
      clear c c1 HG HR hg hcap
      go_enter Try.func34, Try.ntmps34
      go_wp2_with (first | ((with_reducible refine gate_callee (f := 43) rfl ?_); refine goesL_ (some 18) rfl rfl Try.func43 (by kernel_rfl) rfl #[.pointer (some ⟨g, 0, none⟩), .int .i64 2] rfl (by (try simp only [List.map_toArray, List.map_cons, List.map_nil]); first | done | rfl) ?_; refine (deckleref04_Cursor_Fail.calls g s0_0 s0_1 s0_2 s0_3 s0_4 2 t1 t2 t3 t4 t5 w0 _ hI.out HB.out HF.out).mono ?_; rintro e w3 ⟨rfl, hJ, hB, hK⟩; refine ⟨_, rfl, ?_⟩))
      go_ret
      exact ⟨_, rfl, Kd.R_nil _ _ _ _ _, hJ, hB, hK⟩
  · rw [if_neg c] at h
    by_cases cs : a1.toNat < 140737488355328
    case neg => rw [if_neg cs] at h; exact absurd h (by simp)
    rw [if_pos cs] at h
    simp only [Option.some.injEq, Prod.mk.injEq] at h
    obtain ⟨rfl, rfl, rfl, rfl, rfl, rfl⟩ := h
    have c1b : decide (a1 < 0) = false := decide_eq_false (by omega)
    have c2b : decide (((s0_0.length : Nat) : Int) < a1) = false := decide_eq_false (by omega)
    have q0 : 0 ≤ a1 := by omega
    have q1 : a1.toNat ≤ s0_0.length := by omega
    have q2 : a1 ≤ (c_ : Int) := by omega
    have q3 : a1 ≤ ((s0_0.length : Nat) : Int) := by omega
    have CS := Aside0.mk cs
    clear cs
    have hl : (s0_0.take a1.toNat).length = a1.toNat := by rw [List.length_take]; omega
    have HL := Aside0.mk hl
    clear hl
    have hu22 := Try.underlying22
    clear c
    go_enter Try.func34, Try.ntmps34
    go_wp2_with (first | ((with_reducible refine gate_dst (N := 19) rfl ?_); refine Kd.R_lit (Kd.int .u8) _ 5 ?hg (N := 19) ?hd (xs := ([] : List Int)) (inner := []) (ok := fun _ => True) (okp := fun _ => True) ?hr ?hp (fun _ hk => hk) trivial (Below.refl _ _) (Nat.le_refl _) (by simp) ?_; (case hd => rfl); (case hg => rfl); (case hr => first | (go_simp; done) | (go_simp; rfl)); (case hp => exact (Reps.none _ _)); intro v1 w3 ho hb hg_ hnew_; clear hg_ hnew_; have HO := Aside0.mk ho; have HB3 := Aside0.mk hb; have HG3 := Aside0.mk HG; have HR3 := Aside0.mk HR; clear ho; have hcx_0 := cellS58_0 (blk_below HG hb); have hcx_1 := cellS58_1 (blk_below HG hb); clear hb) | ((with_reducible refine gate_builtin (b := .append) (xs := #[.tmp 19, .tmp 25]) rfl ?_); at_builtin; refine Kd.R_append_rows (Kd.int .u8) (w0 := w) w.heap.size rfl (.tmp 19) (.tmp 25) 22 5 (.int .u8 0) 1 rfl Try.underlying22 info5 rfl (by decide) (by omega) v1 [] (s0_0.take a1.toNat) A_ a1.toNat c_ (fun _ => True) (fun _ => False) rfl rfl HO.out ?aR (fun _ _ h => h) (fun _ h => h.elim) (fun _ _ => trivial) HB3.out HB3.out.size ?aL ?_; (case aR => have := (Kd.C_take (Kd.C_below HR3.out.1 HB3.out) q1); rw [HL.out] at this; exact this); (case aL => have := CS.out; simp; omega); intro v2 w4 ho hb hgr hat; clear hgr hat; have HO4 := Aside0.mk ho; have HB4 := Aside0.mk hb; clear ho; have hcy_0 := cellS58_0 (blk_below HG3.out hb); have hcy_1 := cellS58_1 (blk_below HG3.out hb); have hfy_0 := blk_frozen (blk_below HG3.out hb) 0; have hfy_1 := blk_frozen (blk_below HG3.out hb) 1; clear hb))
    case inl =>
      have heq : c_ = a1.toNat := by assumption
      have hD := (HR3.out.below HB4.out).drop q1 hcap
      rw [if_pos heq] at hD
      have hI4 : IsS58 w0 w4 g s0_0 s0_1 s0_2 s0_3 s0_4 := ⟨⟨A_, c_, blk_below HG3.out HB4.out, hcap, HR3.out.below HB4.out⟩, hg⟩
      have hA := IsS58.apart hI4 HO4.out (by decide)
      have e : s0_0.length - a1.toNat = (s0_0.drop a1.toNat).length := (List.length_drop).symm
      rw [e]
      go_ret
      have hk := ((KeepBut.refl w4 g none).set_ 0 (.slice (A_) (s0_0.drop a1.toNat).length (0))).set_ 1 (.int .i64 (wrap64 (s0_1 + a1)))
      have hcd : (s0_0.drop a1.toNat).length ≤ 0 := by rw [List.length_drop]; omega
      exact ⟨v2, rfl, Kd.R_mono (Kd.R_keep hA hk (fun _ h => h.2)) (fun _ h => h.1), ((hI4.put (s0_0.drop a1.toNat) (A_) (0) hcd hD).set_1 (wrap64 (s0_1 + a1))), below_set (below_set (below_step HB.out HB4.out) hg) hg, KeepBut.trans (KeepBut.of_below HB4.out g none) hk (.inl rfl)⟩
    case inr =>
      have heq : ¬ c_ = a1.toNat := by assumption
      have hD := (HR3.out.below HB4.out).drop q1 hcap
      rw [if_neg heq] at hD
      have hI4 : IsS58 w0 w4 g s0_0 s0_1 s0_2 s0_3 s0_4 := ⟨⟨A_, c_, blk_below HG3.out HB4.out, hcap, HR3.out.below HB4.out⟩, hg⟩
      have hA := IsS58.apart hI4 HO4.out (by decide)
      have e : s0_0.length - a1.toNat = (s0_0.drop a1.toNat).length := (List.length_drop).symm
      rw [e]
      go_ret
      have hk := ((KeepBut.refl w4 g none).set_ 0 (.slice (Option.map (fun x => x.add a1.toNat) A_) (s0_0.drop a1.toNat).length (c_ - a1.toNat))).set_ 1 (.int .i64 (wrap64 (s0_1 + a1)))
      have hcd : (s0_0.drop a1.toNat).length ≤ c_ - a1.toNat := by rw [List.length_drop]; omega
      exact ⟨v2, rfl, Kd.R_mono (Kd.R_keep hA hk (fun _ h => h.2)) (fun _ h => h.1), ((hI4.put (s0_0.drop a1.toNat) (Option.map (fun x => x.add a1.toNat) A_) (c_ - a1.toNat) hcd hD).set_1 (wrap64 (s0_1 + a1))), below_set (below_set (below_step HB.out HB4.out) hg) hg, KeepBut.trans (KeepBut.of_below HB4.out g none) hk (.inl rfl)⟩

end Go.Proofs.Ytcbalpchfcifeaa.HRunsTells
