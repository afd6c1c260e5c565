/- What the Go functions of this claim answer, told as functions of numbers and lists, and that other memory stays as it was: words and walks, shortened by a program. -/
import Derived.Test.YtgbmbcippldhnaaSArraySamex0
namespace Go.Proofs.Ytgbmbcippldhnaa.HArraySame
open Go.RowKit Go.Proofs.YtgbmbcippldhnaaW.PrintWords Go.Proofs.YtgbmbcippldhnaaW.PrintLast Go.Proofs.YtgbmbcippldhnaaW.PrintMore
attribute [local go_sem] max2_int min2_int max_two min_two max_three min_three max_four min_four
set_option linter.unusedVariables false
set_option linter.unusedSimpArgs false
def api_Node_31.f (l0 : List (S32)) : Option ((List (S32))) := (some (([] : List (S32)) : List (S32))).bind fun y101 => (if y101.length + l0.length < 1759218604441 then (some (y101 ++ l0)) else (none))
set_option maxHeartbeats 8000000 in
set_option maxRecDepth 100000 in
theorem api_Node_31.calls (P0_ : Nat → Prop) (A0 : Option Addr) (c0 : Nat) (l0 : List (S32)) (r : List (S32)) (w : World) (hs0 : Kd.V k32 32 w w.heap.size (fun k_ => P0_ k_) (.slice A0 l0.length c0) l0) (h : api_Node_31.f l0 = some r) :
    Calls Try.prog 31 #[.slice A0 l0.length c0] w fun e w' => ∃ v0_ : Value, e = .returned (v0_) ∧ Kd.N k32 32 w' w.heap.size (fun k_ => (P0_ k_ ∨ w.heap.size ≤ k_)) v0_ r ∧ Below w.heap.size w w' := by
  cases A0 with
  | none =>
    obtain rfl : l0 = [] := by
      cases l0 with
      | nil => rfl
      | cons x_ y_ =>
        obtain ⟨ad_, c_, e_, _⟩ := Kd.C_get (Kd.V_reads' hs0).2.2 z32 0 J28 (by rw [List.length_cons]; omega)
        exact absurd e_ J21
    have hn_ : ∀ W : World, (binOp .eql 22 (.slice none 0 c0) (.slice none 0 0)).run Try.prog W = .ok (.bool true) W := fun W => Lib.run_eql_slice_nil W 22 32 none _ c0 0 0 Try.underlying22
    rw [show ([] : List (S32)).length = 0 from rfl]
    go_enter Try.func31, Try.ntmps31
    go_wp2
    go_ret
    obtain rfl : r = [] := by simpa [api_Node_31.f] using h.symm
    exact ⟨_, rfl, Kd.N_nil _ _ _ _ _, Below.refl _ _⟩
  | some a0_ =>
    have hn_ : ∀ W : World, (binOp .eql 22 (.slice (some a0_) l0.length c0) (.slice none 0 0)).run Try.prog W = .ok (.bool false) W := fun W => Lib.run_eql_slice_nil W 22 32 (some a0_) _ c0 0 0 Try.underlying22
    have HO0 := Aside0.mk (show Kd.V k32 32 w w.heap.size (fun k_ => (P0_ k_ ∨ w.heap.size ≤ k_)) (.slice (some a0_) l0.length c0) l0 from Kd.V_mono hs0 (fun k_ hk => .inl hk))
    have HB := Aside0.mk (Below.refl w.heap.size w)
    have H : ((some (([] : List (S32)) : List (S32))).bind fun y101 => (if y101.length + l0.length < 1759218604441 then (some (y101 ++ l0)) else (none))) = some r := h
    clear h
    obtain ⟨y101, hy101⟩ : ∃ y_ : List (S32), y_ = (([] : List (S32))) := ⟨_, rfl⟩
    replace H : (if y101.length + l0.length < 1759218604441 then (some (y101 ++ l0)) else (none)) = some r := by first | (rw [hy101]; with_reducible exact H) | (have H2_ := (Option.bind_some _ _).symm.trans H; rw [hy101]; with_reducible exact H2_) | (have H2_ := (Option.bind_some _ _).symm.trans H; with_reducible exact H2_) | with_reducible exact H | (rw [hy101]; exact H) | exact H
    have Ny101 := Aside0.mk hy101
    clear hy101
    by_cases c2 : y101.length + l0.length < 1759218604441
    · rw [if_pos c2] at H
      have LMc2 := Aside0.mk c2
      clear c2
      obtain ⟨y104, hy104⟩ : ∃ y_ : List (S32), y_ = (y101 ++ l0) := ⟨_, rfl⟩
      replace H : (some y104) = some r := by first | (rw [hy104]; with_reducible exact H) | (have H2_ := (Option.bind_some _ _).symm.trans H; rw [hy104]; with_reducible exact H2_) | (have H2_ := (Option.bind_some _ _).symm.trans H; with_reducible exact H2_) | with_reducible exact H | (rw [hy104]; exact H) | exact H
      have Ny104 := Aside0.mk hy104
      clear hy104
      obtain rfl := Option.some.inj H
      go_enter Try.func31, Try.ntmps31
      go_wp2_with (first | ((with_reducible refine gate_dst (N := 5) rfl ?_); refine Kd.N_lit k32 _ 32 ?hg (N' := 5) ?hd (xs := ([] : List (S32))) (inner := []) (ok := (fun k_ => (P0_ k_ ∨ w.heap.size ≤ k_))) (okp := (fun k_ => (P0_ k_ ∨ w.heap.size ≤ k_))) ?hr ?hp (fun _ hk => hk) ((show ∀ k_, w.heap.size ≤ k_ → (fun k_ => (P0_ k_ ∨ w.heap.size ≤ k_)) k_ from fun k_ hk => (.inr (Nat.le_trans (below_size J0) hk))) _ (Nat.le_refl _)) (Below.refl _ _) (Nat.le_refl _) J21 ?_; (case hd => rfl); (case hg => rfl); (case hr => first | (go_simp; done) | (go_simp; rfl)); (case hp => exact (Reps.none _ _)); intro v102 w3 ho4 hb hg_ hnew_; clear hg_ hnew_; (first | rw [← Ny101.out] at ho4 | (simp only [Int.reduceToNat] at ho4; rw [← Ny101.out] at ho4)); have n0_ := Aside0.mk (Kd.V_elder' (zv HO0.out) (Kd.N_base ho4) hb); have n1_ := Aside0.mk (Kd.N_lower ho4 (below_size J0)); have n2_ := Aside0.mk (below_step J0 hb); clear HO0; clear HB; have HO0 := n0_; have HO103 := n1_; have HB := n2_; clear n0_ n1_ n2_; clear hb ho4) | ((with_reducible refine gate_builtin (b := .append) (xs := #[.tmp 5, .tmp 6]) rfl ?_); at_builtin; refine Kd.N_append_rows k32 (w0 := w) w.heap.size rfl (.tmp 5) (.tmp 6) 22 32 (.agg #[(.int .i64 0), (.slice none 0 0), (.slice none 0 0), (.slice none 0 0)]) 80 rfl Try.underlying22 info32 rfl J17 J28 v102 y101 l0 _ _ _ (fun k_ => (P0_ k_ ∨ w.heap.size ≤ k_)) (fun k_ => ((fun k_ => (P0_ k_ ∨ w.heap.size ≤ k_))) k_ ∧ some k_ ≠ (v102 : Value).ownBlock) rfl rfl ?aO ?aR (fun _ hk => hk) ?aF ?aB ?aS ?aL ?_; (case aR => exact (by skip; exact Kd.V_F (Kd.V_mono (ok' := (fun k_ => ((fun k_ => (P0_ k_ ∨ w.heap.size ≤ k_))) k_ ∧ some k_ ≠ (v102 : Value).ownBlock)) (HO0.out) (fun k_ hk => ⟨hk.1, hk.2⟩)))); (case aB => exact J0); (case aF => exact (fun k_ hk => (.inr (Nat.le_trans (below_size J0) hk)))); (case aO => exact (zn HO103.out)); (case aS => exact (below_size J0)); (case aL => have := LMc2.out; omega); intro v105 w5 ho hb hg hat; rw [← Ny104.out] at ho; have n0_ := Aside0.mk (Kd.V_afterv (ok := (fun k_ => (P0_ k_ ∨ w.heap.size ≤ k_))) (zv HO0.out) hg hat); have n1_ := Aside0.mk (hb); have n2_ := Aside0.mk (ho); clear HO0; clear HB; clear HO103; have HO0 := n0_; have HB := n1_; have HO106 := n2_; clear n0_ n1_ n2_; clear ho hb hg hat))
      go_ret
      exact ⟨_, J4, by (with_reducible repeat (first | apply Kd.N_alloc | apply Kd.N_drewN | apply Kd.N_drew)); exact HO106.out, J0⟩
    · rw [if_neg c2] at H
      exact absurd H J21
def slices_Clone_int_int.f (l0 : List Int) : Option (List Int) := (some (([] : List Int) : List Int)).bind fun y107 => (if y107.length + l0.length < 17592186044416 then (some (y107 ++ l0)) else (none))
set_option maxHeartbeats 8000000 in
set_option maxRecDepth 100000 in
theorem slices_Clone_int_int.calls (A0 : Option Addr) (c0 : Nat) (l0 : List Int) (r : List Int) (w : World) (hr0 : Kd.C (Kd.int .i64) w A0 l0.length l0) (hc0 : l0.length ≤ c0) (h : slices_Clone_int_int.f l0 = some r) :
    Calls Try.prog 32 #[.slice A0 l0.length c0] w fun e w' => ∃ v0_ : Value, e = .returned (v0_) ∧ Kd.R (Kd.int .i64) 3 w' w.heap.size (fun _ => True) v0_ r ∧ Below w.heap.size w w' := by
  cases A0 with
  | none =>
    obtain rfl : l0 = [] := by
      cases l0 with
      | nil => rfl
      | cons x_ y_ =>
        obtain ⟨ad_, c_, e_, _⟩ := Kd.C_get hr0 0 0 J28 (by rw [List.length_cons]; omega)
        exact absurd e_ J21
    have hn_ : ∀ W : World, (binOp .eql 29 (.slice none 0 c0) (.slice none 0 0)).run Try.prog W = .ok (.bool true) W := fun W => Lib.run_eql_slice_nil W 29 3 none _ c0 0 0 Try.underlying29
    rw [show ([] : List Int).length = 0 from rfl]
    go_enter Try.func32, Try.ntmps32
    go_wp2
    go_ret
    obtain rfl : r = [] := by simpa [slices_Clone_int_int.f] using h.symm
    exact ⟨_, rfl, Kd.R_nil _ _ _ _ _, Below.refl _ _⟩
  | some a0_ =>
    have hn_ : ∀ W : World, (binOp .eql 29 (.slice (some a0_) l0.length c0) (.slice none 0 0)).run Try.prog W = .ok (.bool false) W := fun W => Lib.run_eql_slice_nil W 29 3 (some a0_) _ c0 0 0 Try.underlying29
    have HR0 := Aside0.mk hr0
    have HC0 := Aside0.mk hc0
    clear hr0 hc0
    have HB := Aside0.mk (Below.refl w.heap.size w)
    have H : ((some (([] : List Int) : List Int)).bind fun y107 => (if y107.length + l0.length < 17592186044416 then (some (y107 ++ l0)) else (none))) = some r := h
    clear h
    obtain ⟨y107, hy107⟩ : ∃ y_ : List Int, y_ = (([] : List Int)) := ⟨_, rfl⟩
    replace H : (if y107.length + l0.length < 17592186044416 then (some (y107 ++ l0)) else (none)) = some r := by first | (rw [hy107]; with_reducible exact H) | (have H2_ := (Option.bind_some _ _).symm.trans H; rw [hy107]; with_reducible exact H2_) | (have H2_ := (Option.bind_some _ _).symm.trans H; with_reducible exact H2_) | with_reducible exact H | (rw [hy107]; exact H) | exact H
    have Ny107 := Aside0.mk hy107
    clear hy107
    by_cases c2 : y107.length + l0.length < 17592186044416
    · rw [if_pos c2] at H
      have LMc2 := Aside0.mk c2
      clear c2
      obtain ⟨y110, hy110⟩ : ∃ y_ : List Int, y_ = (y107 ++ l0) := ⟨_, rfl⟩
      replace H : (some y110) = some r := by first | (rw [hy110]; with_reducible exact H) | (have H2_ := (Option.bind_some _ _).symm.trans H; rw [hy110]; with_reducible exact H2_) | (have H2_ := (Option.bind_some _ _).symm.trans H; with_reducible exact H2_) | with_reducible exact H | (rw [hy110]; exact H) | exact H
      have Ny110 := Aside0.mk hy110
      clear hy110
      obtain rfl := Option.some.inj H
      go_enter Try.func32, Try.ntmps32
      go_wp2_with (first | ((with_reducible refine gate_dst (N := 5) rfl ?_); refine Kd.R_lit (Kd.int .i64) _ 3 ?hg (N := 5) ?hd (xs := ([] : List Int)) (inner := []) (ok := fun _ => True) (okp := fun _ => True) ?hr ?hp (fun _ hk => hk) trivial (Below.refl _ _) (Nat.le_refl _) J21 ?_; (case hd => rfl); (case hg => rfl); (case hr => first | (go_simp; done) | (go_simp; rfl)); (case hp => exact (Reps.none _ _)); intro v108 w3 ho4 hb hg_ hnew_; clear hg_ hnew_; (first | rw [← Ny107.out] at ho4 | (simp only [Int.reduceToNat] at ho4; rw [← Ny107.out] at ho4)); have n0_ := Aside0.mk (Kd.R_lower ho4 (below_size J0)); have n1_ := Aside0.mk (below_step J0 hb); clear HB; have HO109 := n0_; have HB := n1_; clear n0_ n1_; clear hb ho4) | ((with_reducible refine gate_builtin (b := .append) (xs := #[.tmp 5, .tmp 6]) rfl ?_); at_builtin; refine Kd.R_append_rows (Kd.int .i64) (w0 := w) w.heap.size rfl (.tmp 5) (.tmp 6) 29 3 (.int .i64 0) 8 rfl Try.underlying29 info3 rfl J17 J28 v108 y107 l0 _ _ _ (fun _ => True) (fun _ => False) rfl rfl ?aO ?aR (fun _ _ h => h) (fun _ h => h.elim) ?aF ?aB ?aS ?aL ?_; (case aR => repeat (first | exact (Kd.C_below HR0.out HB.out) | (with_reducible refine Kd.C_alloc ?_ _) | (with_reducible refine Kd.C_drewN ?_ _) | (with_reducible refine Kd.C_drew ?_))); (case aB => exact J0); (case aF => exact (fun _ _ => trivial)); (case aO => exact (zr HO109.out)); (case aS => exact (below_size J0)); (case aL => have := LMc2.out; omega); intro v111 w5 ho hb hg hat; rw [← Ny110.out] at ho; have n0_ := Aside0.mk (hb); have n1_ := Aside0.mk (ho); clear HB; clear HO109; have HB := n0_; have HO112 := n1_; clear n0_ n1_; clear ho hb hg hat))
      go_ret
      exact ⟨_, J4, by (with_reducible repeat (first | apply Kd.R_alloc | apply Kd.R_drewN | apply Kd.R_drew)); exact HO112.out, J0⟩
    · rw [if_neg c2] at H
      exact absurd H J21
def api_Dec_33.f (l0 : List (S41)) : Option ((List (S41))) := (some (([] : List (S41)) : List (S41))).bind fun y113 => (if y113.length + l0.length < 8796093022208 then (some (y113 ++ l0)) else (none))
set_option maxHeartbeats 8000000 in
set_option maxRecDepth 100000 in
theorem api_Dec_33.calls (A0 : Option Addr) (c0 : Nat) (l0 : List (S41)) (r : List (S41)) (w : World) (hr0 : Kd.C k41 w A0 l0.length l0) (hc0 : l0.length ≤ c0) (h : api_Dec_33.f l0 = some r) :
    Calls Try.prog 33 #[.slice A0 l0.length c0] w fun e w' => ∃ v0_ : Value, e = .returned (v0_) ∧ Kd.R k41 41 w' w.heap.size (fun _ => True) v0_ r ∧ Below w.heap.size w w' := by
  cases A0 with
  | none =>
    obtain rfl : l0 = [] := by
      cases l0 with
      | nil => rfl
      | cons x_ y_ =>
        obtain ⟨ad_, c_, e_, _⟩ := Kd.C_get hr0 z41 0 J28 (by rw [List.length_cons]; omega)
        exact absurd e_ J21
    have hn_ : ∀ W : World, (binOp .eql 30 (.slice none 0 c0) (.slice none 0 0)).run Try.prog W = .ok (.bool true) W := fun W => Lib.run_eql_slice_nil W 30 41 none _ c0 0 0 Try.underlying30
    rw [show ([] : List (S41)).length = 0 from rfl]
    go_enter Try.func33, Try.ntmps33
    go_wp2
    go_ret
    obtain rfl : r = [] := by simpa [api_Dec_33.f] using h.symm
    exact ⟨_, rfl, Kd.R_nil _ _ _ _ _, Below.refl _ _⟩
  | some a0_ =>
    have hn_ : ∀ W : World, (binOp .eql 30 (.slice (some a0_) l0.length c0) (.slice none 0 0)).run Try.prog W = .ok (.bool false) W := fun W => Lib.run_eql_slice_nil W 30 41 (some a0_) _ c0 0 0 Try.underlying30
    have HR0 := Aside0.mk hr0
    have HC0 := Aside0.mk hc0
    clear hr0 hc0
    have HB := Aside0.mk (Below.refl w.heap.size w)
    have H : ((some (([] : List (S41)) : List (S41))).bind fun y113 => (if y113.length + l0.length < 8796093022208 then (some (y113 ++ l0)) else (none))) = some r := h
    clear h
    obtain ⟨y113, hy113⟩ : ∃ y_ : List (S41), y_ = (([] : List (S41))) := ⟨_, rfl⟩
    replace H : (if y113.length + l0.length < 8796093022208 then (some (y113 ++ l0)) else (none)) = some r := by first | (rw [hy113]; with_reducible exact H) | (have H2_ := (Option.bind_some _ _).symm.trans H; rw [hy113]; with_reducible exact H2_) | (have H2_ := (Option.bind_some _ _).symm.trans H; with_reducible exact H2_) | with_reducible exact H | (rw [hy113]; exact H) | exact H
    have Ny113 := Aside0.mk hy113
    clear hy113
    by_cases c2 : y113.length + l0.length < 8796093022208
    · rw [if_pos c2] at H
      have LMc2 := Aside0.mk c2
      clear c2
      obtain ⟨y116, hy116⟩ : ∃ y_ : List (S41), y_ = (y113 ++ l0) := ⟨_, rfl⟩
      replace H : (some y116) = some r := by first | (rw [hy116]; with_reducible exact H) | (have H2_ := (Option.bind_some _ _).symm.trans H; rw [hy116]; with_reducible exact H2_) | (have H2_ := (Option.bind_some _ _).symm.trans H; with_reducible exact H2_) | with_reducible exact H | (rw [hy116]; exact H) | exact H
      have Ny116 := Aside0.mk hy116
      clear hy116
      obtain rfl := Option.some.inj H
      go_enter Try.func33, Try.ntmps33
      go_wp2_with (first | ((with_reducible refine gate_dst (N := 5) rfl ?_); refine Kd.R_lit k41 _ 41 ?hg (N := 5) ?hd (xs := ([] : List (S41))) (inner := []) (ok := fun _ => True) (okp := fun _ => True) ?hr ?hp (fun _ hk => hk) trivial (Below.refl _ _) (Nat.le_refl _) J21 ?_; (case hd => rfl); (case hg => rfl); (case hr => first | (go_simp; done) | (go_simp; rfl)); (case hp => exact (Reps.none _ _)); intro v114 w3 ho4 hb hg_ hnew_; clear hg_ hnew_; (first | rw [← Ny113.out] at ho4 | (simp only [Int.reduceToNat] at ho4; rw [← Ny113.out] at ho4)); have n0_ := Aside0.mk (Kd.R_lower ho4 (below_size J0)); have n1_ := Aside0.mk (below_step J0 hb); clear HB; have HO115 := n0_; have HB := n1_; clear n0_ n1_; clear hb ho4) | ((with_reducible refine gate_builtin (b := .append) (xs := #[.tmp 5, .tmp 6]) rfl ?_); at_builtin; refine Kd.R_append_rows k41 (w0 := w) w.heap.size rfl (.tmp 5) (.tmp 6) 30 41 (.agg #[(.int .i64 0), (.int .i64 0)]) 16 rfl Try.underlying30 info41 rfl J17 J28 v114 y113 l0 _ _ _ (fun _ => True) (fun _ => False) rfl rfl ?aO ?aR (fun _ _ h => h) (fun _ h => h.elim) ?aF ?aB ?aS ?aL ?_; (case aR => repeat (first | exact (Kd.C_below HR0.out HB.out) | (with_reducible refine Kd.C_alloc ?_ _) | (with_reducible refine Kd.C_drewN ?_ _) | (with_reducible refine Kd.C_drew ?_))); (case aB => exact J0); (case aF => exact (fun _ _ => trivial)); (case aO => exact (zr HO115.out)); (case aS => exact (below_size J0)); (case aL => have := LMc2.out; omega); intro v117 w5 ho hb hg hat; rw [← Ny116.out] at ho; have n0_ := Aside0.mk (hb); have n1_ := Aside0.mk (ho); clear HB; clear HO115; have HB := n0_; have HO118 := n1_; clear n0_ n1_; clear ho hb hg hat))
      go_ret
      exact ⟨_, J4, by (with_reducible repeat (first | apply Kd.R_alloc | apply Kd.R_drewN | apply Kd.R_drew)); exact HO118.out, J0⟩
    · rw [if_neg c2] at H
      exact absurd H J21
def half {α : Type} (f : Nat → Nat) (d : Kd α) (w0 : World) (ok0 : Nat → Prop) : Kd (α × Nat × Bool) where
  sz := d.sz
  E := d.E
  K := fun _ _ cs => cs.length = d.sz ∧ ∀ u ∈ cs, u.oneCell' = true
  M := fun w base ok x cs => if x.2.2 = true then d.M w base (fun k => ok k ∧ f k = x.2.1) x.1 cs else Kd.FK d w0 ok0 x.1 cs
  K_len := fun h => h.1
  K_one := fun h => h.2
  K_below := fun _ h => h
  K_of_M := fun {w base ok x cs} h => by
    by_cases c : x.2.2 = true
    · rw [if_pos c] at h; exact ⟨d.K_len (d.K_of_M h), d.K_one (d.K_of_M h)⟩
    · rw [if_neg c] at h; exact ⟨d.K_len (Kd.FK_now h), d.K_one (Kd.FK_now h)⟩
  M_mono := fun {w base ok ok' x cs} hok h => by
    by_cases c : x.2.2 = true
    · rw [if_pos c] at h ⊢; exact d.M_mono (fun k hk => ⟨hok k hk.1, hk.2⟩) h
    · rw [if_neg c] at h ⊢; exact h
  M_bound := fun {w base ok x cs} h => by
    by_cases c : x.2.2 = true
    · rw [if_pos c] at h ⊢; exact d.M_mono (fun _ hk => ⟨⟨hk.1.1, hk.2⟩, hk.1.2⟩) (d.M_bound h)
    · rw [if_neg c] at h ⊢; exact h
  M_move := fun {w w1 base ok x cs} hm h => by
    by_cases c : x.2.2 = true
    · rw [if_pos c] at h ⊢; exact d.M_move (fun k hk => hm k hk.1) h
    · rw [if_neg c] at h ⊢; exact h
  M_lower := fun {w base base' ok x cs} hb h => by
    by_cases c : x.2.2 = true
    · rw [if_pos c] at h ⊢; exact d.M_lower hb h
    · rw [if_neg c] at h ⊢; exact h
theorem half_M {α : Type} {f : Nat → Nat} {d : Kd α} {w0 w : World} {ok0 : Nat → Prop} {base : Nat} {ok : Nat → Prop} {x : α × Nat × Bool} {cs : List Value} : (half f d w0 ok0).M w base ok x cs = if x.2.2 = true then d.M w base (fun k => ok k ∧ f k = x.2.1) x.1 cs else Kd.FK d w0 ok0 x.1 cs := rfl
def marks {α : Type} (xs : List α) (k : Nat) : List (α × Nat × Bool) := xs.zipIdx.map fun p => (p.1, p.2, decide (p.2 < k))
theorem marks_length {α : Type} (xs : List α) (k : Nat) : (marks xs k).length = xs.length := by simp [marks]
theorem marks_at {α : Type} {xs : List α} {k j : Nat} {p : α × Nat × Bool} (h : (marks xs k)[j]? = some p) : ∃ x, xs[j]? = some x ∧ p = (x, j, decide (j < k)) := by
  simp only [marks, List.getElem?_map, List.getElem?_zipIdx, Nat.zero_add, Option.map_map, Option.map_eq_some_iff] at h
  obtain ⟨x, hx, rfl⟩ := h
  exact ⟨x, hx, rfl⟩
theorem marks_set {α : Type} (xs : List α) (k : Nat) (x : α) (h : xs[k]? = some x) : (marks xs k).set k (x, k, true) = marks xs (k + 1) := by
  apply List.ext_getElem?
  intro j
  rw [List.getElem?_set]
  have hk : k < xs.length := (List.getElem?_eq_some_iff.1 h).1
  by_cases e : k = j
  · subst e
    rw [if_pos rfl, if_pos (by rw [marks_length]; exact hk)]
    simp [marks, h]
  · rw [if_neg e]
    simp only [marks, List.getElem?_map, List.getElem?_zipIdx, Nat.zero_add, Option.map_map]
    congr 1
    funext y
    have : decide (j < k) = decide (j < k + 1) := by rw [decide_eq_decide]; omega
    simp [this]
theorem half_of_N {α : Type} {d : Kd α} {e base : Nat} {ok : Nat → Prop} {w : World} {v : Value} {xs : List α} (f : Nat → Nat) (h : Kd.N d e w base ok v xs) : (half f d w (fun k => some k ≠ v.ownBlock)).R e w base ok v (marks xs 0) := by
  obtain ⟨h0, rows, hl, ⟨_, inner, ho, hr⟩, hf⟩ := h
  refine ⟨h0, inner, ?_, ?_⟩
  · rw [marks_length, ← hl]; exact ho
  · refine ⟨?_, fun j p hj => ?_⟩
    · rw [marks_length, ← hl]; exact hr.1
    · obtain ⟨x, hx, rfl⟩ := marks_at hj
      have hjl : j < rows.length := by rw [hl]; exact (List.getElem?_eq_some_iff.1 hx).1
      have h1 := hr.2 j _ (List.getElem?_eq_getElem hjl)
      have h2 := Kd.FK_mono (hf j x _ hx (List.getElem?_eq_getElem hjl)) (fun _ hk => hk.2)
      rw [half_M, if_neg J21]
      have h3 : (inner.drop (j * d.sz)).take d.sz = rows[j] := h1.1
      exact h3 ▸ h2
theorem half_retag {α : Type} {d : Kd α} {e base : Nat} {ok ok0 : Nat → Prop} {w0 w : World} {v : Value} {xs : List α} {f : Nat → Nat} {k : Nat} (h : (half f d w0 ok0).R e w base ok v (marks xs k)) (m : Nat) :
    ∃ f', (∀ b, w.heap.size ≤ b → f' b = m) ∧ (half f' d w0 ok0).R e w base ok v (marks xs k) := by
  refine ⟨fun b => if b < w.heap.size then f b else m, fun b hb => if_neg J28, ?_⟩
  have hb := Kd.R_bound h
  obtain ⟨h0, inner, ho, hr⟩ := h
  obtain ⟨_, inner2, ho2, hr2⟩ := hb
  refine ⟨h0, inner, ho, hr.1, fun j p hj => ?_⟩
  have hM := hr.2 j p hj
  obtain ⟨x, hx, rfl⟩ := marks_at hj
  by_cases c : decide (j < k) = true
  · rw [half_M, if_pos c] at hM ⊢
    exact d.M_mono (fun b hk => ⟨hk.1.1, by show (if b < w.heap.size then f b else m) = j; rw [if_pos hk.2.2.1]; exact hk.1.2⟩) (d.M_bound hM)
  · rw [half_M, if_neg c] at hM ⊢
    exact hM
theorem S_of_half {α : Type} {d : Kd α} {e base : Nat} {ok ok0 : Nat → Prop} {w0 w : World} {v : Value} {xs : List α} {f : Nat → Nat} (h : (half f d w0 ok0).R e w base ok v (marks xs xs.length)) : Kd.S d e w base ok v xs := by
  obtain ⟨h0, inner, ho, hr⟩ := h
  rw [marks_length] at ho
  refine ⟨f, h0, inner, ?_, ?_, fun j p hj => ?_⟩
  · rw [List.length_zipIdx]; exact ho
  · rw [List.length_zipIdx]; have := hr.1; rw [marks_length] at this; exact this
  · obtain ⟨x, i⟩ := p
    rw [List.getElem?_zipIdx, Nat.zero_add, Option.map_eq_some_iff] at hj
    obtain ⟨y, hy, he⟩ := hj
    injection he with e1 e2
    subst e1 e2
    have hjl := (List.getElem?_eq_some_iff.1 hy).1
    have hM := hr.2 j (y, j, decide (j < xs.length)) (by simp [marks, hy])
    rw [half_M, if_pos (by simp [hjl])] at hM
    exact hM
theorem half_elem {α : Type} {d : Kd α} {e base n cap g : Nat} {ok ok0 : Nat → Prop} {w0 W : World} {xs : List α} {f : Nat → Nat} {k : Nat} {x : α} (h : (half f d w0 ok0).R e W base ok (.slice (some ⟨g, 0, none⟩) n cap) (marks xs k)) (hx : xs[k]? = some x) :
    ∃ c, c.length = d.sz ∧ Kd.FK d w0 ok0 x c ∧ (∀ j u, c[j]? = some u → W.cell? ⟨g, k * d.sz + j, none⟩ = some u) ∧ ∀ j, W.frozen? ⟨g, k * d.sz + j, none⟩ = false := by
  have hk : k < xs.length := (List.getElem?_eq_some_iff.1 hx).1
  have hn := (Kd.R_reads' h).1
  rw [marks_length] at hn
  obtain ⟨c, hcl, hM, hcc, hfr⟩ := Kd.R_elem h (x, k, false) (k : Int) J28 J28
  rw [Int.toNat_natCast] at hM hcc hfr
  have hg : (marks xs k).getD k (x, k, false) = (x, k, false) := by simp [marks, hx]
  rw [hg] at hM
  refine ⟨c, hcl, ?_, hcc, hfr⟩
  rw [half_M, if_neg J21] at hM
  exact hM
theorem half_put {α : Type} {d : Kd α} {e base n cap g : Nat} {ok okp ok0 : Nat → Prop} {w0 W : World} {xs : List α} {f : Nat → Nat} {k : Nat} {x : α} {seg : List Value} (h : (half f d w0 ok0).R e W base ok (.slice (some ⟨g, 0, none⟩) n cap) (marks xs k)) (hx : xs[k]? = some x)
    (hM : d.M W base okp x seg) (hok : ∀ b, okp b → (ok b ∧ b ≠ g) ∧ f b = k) : (half f d w0 ok0).R e (W.setCells g (k * d.sz) seg) base ok (.slice (some ⟨g, 0, none⟩) n cap) (marks xs (k + 1)) ∧ W.grownBy (W.setCells g (k * d.sz) seg) (some g) := by
  have hk : k < xs.length := (List.getElem?_eq_some_iff.1 hx).1
  have hn := (Kd.R_reads' h).1
  rw [marks_length] at hn
  obtain ⟨c, hcl, _, hcc, _⟩ := half_elem h hx
  have hsl := d.K_len (d.K_of_M hM)
  have := Kd.R_seg (d := half f d w0 ok0) (okp := fun b => ok b ∧ b ≠ g) h (k : Int) J28 J28 (c := c) (seg := seg) (j := 0) hcl (by rw [Int.toNat_natCast]; exact hcc) (by rw [Nat.zero_add, hsl]; exact Nat.le_refl _) (x' := (x, k, true))
    (by rw [List.take_zero, List.nil_append, Nat.zero_add, hsl, ← hcl, List.drop_length, List.append_nil]
        rw [half_M, if_pos rfl]
        exact d.M_mono hok hM) (fun _ hk => hk)
  rw [Int.toNat_natCast, Nat.add_zero, marks_set xs k x hx] at this
  exact this
def array_Copy.f (l0 : List S32) : Option (List S32) := if l0.length < 1759218604441 ∧ (∀ x ∈ l0, x.f1.length < 17592186044416 ∧ x.f2.length < 17592186044416 ∧ x.f3.length < 8796093022208) then some l0 else none
theorem at_world {P : Program} {c : Code} {Q : Exit → Act → World → Prop} {a : Act} {W : World} (p : World → Prop) (hp : p W) (h : ∀ W2, p W2 → c.wp P Q a W2) : c.wp P Q a W := h W hp
def kA : Kd S32 where
  sz := k32.sz
  E := k32.E
  K := k32.K
  M := fun w base ok x cs => k32.M w base ok x cs ∧ ∀ (v1 v2 : Value) (b : Nat), cs[1]? = some v1 → cs[2]? = some v2 → v1.ownBlock = some b → v2.ownBlock ≠ some b
  K_len := k32.K_len
  K_one := k32.K_one
  K_below := k32.K_below
  K_of_M := fun h => k32.K_of_M h.1
  M_mono := fun hok h => ⟨k32.M_mono hok h.1, h.2⟩
  M_bound := fun h => ⟨k32.M_bound h.1, h.2⟩
  M_move := fun hm h => ⟨k32.M_move hm h.1, h.2⟩
  M_lower := fun hb h => ⟨k32.M_lower hb h.1, h.2⟩
theorem S_kA {e base : Nat} {ok : Nat → Prop} {w : World} {v : Value} {xs : List S32} (h : Kd.S kA e w base ok v xs) : Kd.S k32 e w base ok v xs := by
  obtain ⟨f, h0, inner, ho, hr⟩ := h
  exact ⟨f, h0, inner, ho, hr.1, fun j p hj => (hr.2 j p hj).1⟩
theorem lend1 {W : World} {base g n cap : Nat} {okY : Nat → Prop} {ys : List S32} {i : Int} (h : Kd.S kA 32 W base okY (.slice (some ⟨g, 0, none⟩) n cap) ys) (h0 : 0 ≤ i) (h1 : i < n) :
    ∃ v1 v2 v3 : Value, (∀ j u, ([.int .i64 (rd_T32 ys i).f0, v1, v2, v3] : List Value)[j]? = some u → W.cell? ⟨g, i.toNat * 4 + j, none⟩ = some u) ∧ (∀ j, W.frozen? ⟨g, i.toNat * 4 + j, none⟩ = false) ∧
      (Kd.int .i64).R 3 W base okY v1 (rd_T32 ys i).f1 ∧ (∀ k, v1.ownBlock = some k → okY k ∧ k ≠ g) ∧
      ∀ (w1 : World) (v1' : Value) (l' : List Int), W.grownBy w1 v1.ownBlock → (Kd.int .i64).R 3 w1 base (fun k => some k = v1.ownBlock ∨ W.heap.size ≤ k) v1' l' →
        Kd.S kA 32 (w1.setCells g (i.toNat * 4 + 1) [v1']) base (fun k => okY k ∨ W.heap.size ≤ k) (.slice (some ⟨g, 0, none⟩) n cap) (ys.set i.toNat ⟨(rd_T32 ys i).f0, l', (rd_T32 ys i).f2, (rd_T32 ys i).f3⟩) ∧ w1.grownBy (w1.setCells g (i.toNat * 4 + 1) [v1']) (some g) := by
  have hgW : g < W.heap.size := Kd.S_lt h g rfl
  have h' : Kd.S kA 32 W base (fun k => (okY k ∨ W.heap.size ≤ k) ∧ ¬ W.heap.size ≤ k) (.slice (some ⟨g, 0, none⟩) n cap) ys := Kd.S_mono (Kd.S_bound h) (fun k hk => ⟨.inl hk.1, Nat.not_le.2 hk.2.2.1⟩)
  obtain ⟨oki, c, hcl, hM, hcc, hfr, hoki, hH⟩ := Kd.S_elem h' z32 i h0 h1
  obtain ⟨v1, v2, v3, rfl, r1, r2, r3⟩ := k32_openM hM.1
  have ap := hM.2 v1 v2
  have hoi : ∀ k, oki k → okY k := fun k hk => (hoki k hk).1.1.elim id (fun e => absurd e (hoki k hk).1.2)
  refine ⟨v1, v2, v3, hcc, hfr, Kd.R_mono r1 hoi, fun k hk => ⟨hoi k (r1.1 k hk), (hoki k (r1.1 k hk)).2⟩, fun w1 v1' l' hg hR => ?_⟩
  have hH1 := Kd.H_grown hH hg (fun k hk => r1.1 k hk)
  refine Kd.S_seg (d := kA) (ok := fun k => okY k ∨ W.heap.size ≤ k) (okg := fun k => W.heap.size ≤ k) (okp := fun k => oki k ∨ W.heap.size ≤ k) hH1 h0 h1 (seg := [v1']) (j := 1) (show 1 + 1 ≤ 4 by decide) ?_ (fun k hk => hk) (fun k hk => ⟨.inr hk, J28⟩)
  have r2' : (Kd.int .i64).R 3 w1 base oki v2 (rd_T32 ys i).f2 := Kd.R_mono (Kd.R_grown (Kd.R_tight rfl r2) hg (fun k hk e => ap k rfl rfl e.symm hk.symm)) (fun k hk => r2.1 k hk.symm)
  have r3' : k41.R 41 w1 base oki v3 (rd_T32 ys i).f3 := Kd.R_over' r3 (Kd.R_typed r1) J17 hg
  refine ⟨k32_mkM w1 base _ (⟨(rd_T32 ys i).f0, l', (rd_T32 ys i).f2, (rd_T32 ys i).f3⟩ : S32) (Kd.R_mono hR (fun k hk => hk.elim (fun e => .inl (r1.1 k e.symm)) .inr)) (Kd.R_mono r2' (fun k hk => .inl hk)) (Kd.R_mono r3' (fun k hk => .inl hk)), ?_⟩
  intro a1 a2 b e1 e2 hb hb2
  obtain rfl : v1' = a1 := Option.some.inj e1
  obtain rfl : v2 = a2 := Option.some.inj e2
  rcases hR.1 b hb with e | e
  · exact ap b rfl rfl e.symm hb2
  · have := Kd.R_lt r2 b hb2
    omega
theorem lend2 {W : World} {base g n cap : Nat} {okY : Nat → Prop} {ys : List S32} {i : Int} (h : Kd.S kA 32 W base okY (.slice (some ⟨g, 0, none⟩) n cap) ys) (h0 : 0 ≤ i) (h1 : i < n) :
    ∃ v1 v2 v3 : Value, (∀ j u, ([.int .i64 (rd_T32 ys i).f0, v1, v2, v3] : List Value)[j]? = some u → W.cell? ⟨g, i.toNat * 4 + j, none⟩ = some u) ∧ (∀ j, W.frozen? ⟨g, i.toNat * 4 + j, none⟩ = false) ∧
      (Kd.int .i64).R 3 W base okY v2 (rd_T32 ys i).f2 ∧ (∀ k, v2.ownBlock = some k → okY k ∧ k ≠ g) ∧
      ∀ (w1 : World) (v2' : Value) (l' : List Int), W.grownBy w1 v2.ownBlock → (Kd.int .i64).R 3 w1 base (fun k => some k = v2.ownBlock ∨ W.heap.size ≤ k) v2' l' →
        Kd.S kA 32 (w1.setCells g (i.toNat * 4 + 2) [v2']) base (fun k => okY k ∨ W.heap.size ≤ k) (.slice (some ⟨g, 0, none⟩) n cap) (ys.set i.toNat ⟨(rd_T32 ys i).f0, (rd_T32 ys i).f1, l', (rd_T32 ys i).f3⟩) ∧ w1.grownBy (w1.setCells g (i.toNat * 4 + 2) [v2']) (some g) := by
  have hgW : g < W.heap.size := Kd.S_lt h g rfl
  have h' : Kd.S kA 32 W base (fun k => (okY k ∨ W.heap.size ≤ k) ∧ ¬ W.heap.size ≤ k) (.slice (some ⟨g, 0, none⟩) n cap) ys := Kd.S_mono (Kd.S_bound h) (fun k hk => ⟨.inl hk.1, Nat.not_le.2 hk.2.2.1⟩)
  obtain ⟨oki, c, hcl, hM, hcc, hfr, hoki, hH⟩ := Kd.S_elem h' z32 i h0 h1
  obtain ⟨v1, v2, v3, rfl, r1, r2, r3⟩ := k32_openM hM.1
  have ap := hM.2 v1 v2
  have hoi : ∀ k, oki k → okY k := fun k hk => (hoki k hk).1.1.elim id (fun e => absurd e (hoki k hk).1.2)
  refine ⟨v1, v2, v3, hcc, hfr, Kd.R_mono r2 hoi, fun k hk => ⟨hoi k (r2.1 k hk), (hoki k (r2.1 k hk)).2⟩, fun w1 v2' l' hg hR => ?_⟩
  have hH1 := Kd.H_grown hH hg (fun k hk => r2.1 k hk)
  refine Kd.S_seg (d := kA) (ok := fun k => okY k ∨ W.heap.size ≤ k) (okg := fun k => W.heap.size ≤ k) (okp := fun k => oki k ∨ W.heap.size ≤ k) hH1 h0 h1 (seg := [v2']) (j := 2) (show 2 + 1 ≤ 4 by decide) ?_ (fun k hk => hk) (fun k hk => ⟨.inr hk, J28⟩)
  have r1' : (Kd.int .i64).R 3 w1 base oki v1 (rd_T32 ys i).f1 := Kd.R_mono (Kd.R_grown (Kd.R_tight rfl r1) hg (fun k hk e => ap k rfl rfl hk.symm e.symm)) (fun k hk => r1.1 k hk.symm)
  have r3' : k41.R 41 w1 base oki v3 (rd_T32 ys i).f3 := Kd.R_over' r3 (Kd.R_typed r2) J17 hg
  refine ⟨k32_mkM w1 base _ (⟨(rd_T32 ys i).f0, (rd_T32 ys i).f1, l', (rd_T32 ys i).f3⟩ : S32) (Kd.R_mono r1' (fun k hk => .inl hk)) (Kd.R_mono hR (fun k hk => hk.elim (fun e => .inl (r2.1 k e.symm)) .inr)) (Kd.R_mono r3' (fun k hk => .inl hk)), ?_⟩
  intro a1 a2 b e1 e2 hb hb2
  obtain rfl : v1 = a1 := Option.some.inj e1
  obtain rfl : v2' = a2 := Option.some.inj e2
  rcases hR.1 b hb2 with e | e
  · exact ap b rfl rfl hb e.symm
  · have := Kd.R_lt r1 b hb
    omega
theorem same_block {w w1 : World} {g : Nat} (h : w1.heap[g]? = w.heap[g]?) : (∀ j, w1.cell? ⟨g, j, none⟩ = w.cell? ⟨g, j, none⟩) ∧ ∀ j, w1.frozen? ⟨g, j, none⟩ = w.frozen? ⟨g, j, none⟩ :=
  ⟨fun j => by simp [World.cell?, h], fun j => by simp [World.frozen?, h]⟩
set_option maxHeartbeats 8000000 in
set_option maxRecDepth 100000 in
theorem array_Copy.callsA (A0 : Option Addr) (c0 : Nat) (l0 : List S32) (r : List S32) (w : World) (hr0 : Kd.C k32 w A0 l0.length l0) (hc0 : l0.length ≤ c0) (h : array_Copy.f l0 = some r) :
    Calls Try.prog 13 #[.slice A0 l0.length c0] w fun e w' => ∃ v0_ : Value, e = .returned (v0_) ∧ Kd.S kA 32 w' w.heap.size (fun _ => True) v0_ r ∧ Below w.heap.size w w' := by
  unfold array_Copy.f at h
  by_cases h0 : l0.length < 1759218604441 ∧ (∀ x ∈ l0, x.f1.length < 17592186044416 ∧ x.f2.length < 17592186044416 ∧ x.f3.length < 8796093022208)
  · rw [if_pos h0] at h
    obtain rfl := Option.some.inj h
    clear h
    obtain ⟨hlen, hin0⟩ := h0
    have HIN := Aside0.mk hin0
    clear hin0
    have A1_ := Aside0.mk (show api_Node_31.f l0 = some l0 by unfold api_Node_31.f; rw [Option.bind_some, List.length_nil, Nat.zero_add, if_pos hlen, List.nil_append])
    have HV := Aside0.mk (show Kd.V k32 32 w w.heap.size (fun k_ => k_ < w.heap.size) (.slice A0 l0.length c0) l0 from Kd.V_mk hc0 (Kd.C_F k32_heap hr0))
    clear hr0 hc0
    have HL := Aside0.mk hlen
    clear hlen
    go_enter Try.func13, Try.ntmps13
    go_wp2_with (first | ((with_reducible refine gate_callee (f := 31) rfl ?_); refine goesL_ (some 7) rfl rfl Try.func31 J8 rfl #[.slice A0 l0.length c0] rfl (by (try simp only [List.map_toArray, List.map_cons, List.map_nil]); first | done | rfl) ?_; (with_reducible refine (api_Node_31.calls _ A0 c0 l0 l0 _ HV.out A1_.out).mono ?_); rintro e w1 ⟨v1, rfl, ho, hb⟩; refine ⟨_, rfl, ?_⟩; obtain ⟨Ao, co, eo⟩ := Kd.N_slice ho; subst eo; have HN := Aside0.mk ho; have HB1 := Aside0.mk hb; clear ho hb))
    have hle : l0.length ≤ 1759218604441 := Nat.le_of_lt HL.out
    go_loopg [10] l0.length (fun kq v10 w' => ∃ (k : Nat) (f : Nat → Nat), v10 = .int .i64 (k : Int) ∧ Aside0 (kq + k = l0.length) ∧ Aside0 ((half f kA w1 (fun b => some b ≠ (Value.slice Ao l0.length co).ownBlock)).R 32 w' w.heap.size (fun _ => True) (.slice Ao l0.length co) (marks l0 k)) ∧ Aside0 (Below w.heap.size w w') ∧ Aside0 (w1.grownBy w' (Value.slice Ao l0.length co).ownBlock))
    case atStart => exact ⟨0, fun _ => 0, rfl, ⟨J28⟩, ⟨half_of_N (d := kA) _ (show Kd.N kA 32 _ _ _ _ _ from Kd.N_mono HN.out (fun _ _ => trivial))⟩, HB1, ⟨World.grownBy.refl _ _⟩⟩
    case round =>
      obtain ⟨k, f, rfl, HQ, HR, HB, HG⟩ := hrel
      by_cases hk : k < l0.length
      · obtain ⟨g, cap, eg, hg1, hg2, hg3⟩ := Kd.R_form HR.out (by rw [marks_length]; omega)
        have HGE := Aside0.mk hg1
        have HGL := Aside0.mk hg2
        rw [marks_length] at eg
        injection eg with eg1 _ eg2
        subst eg1 eg2
        have hx : l0[k]? = some l0[k] := List.getElem?_eq_getElem hk
        obtain ⟨x, hxe⟩ : ∃ x, x = l0[k] := ⟨_, rfl⟩
        rw [← hxe] at hx
        have HX := Aside0.mk hx
        have hxm : x ∈ l0 := by rw [hxe]; exact List.getElem_mem hk
        obtain ⟨b1, b2, b3⟩ := HIN.out x hxm
        clear hx hxe hxm
        have A1 := Aside0.mk (show slices_Clone_int_int.f x.f1 = some x.f1 by unfold slices_Clone_int_int.f; rw [Option.bind_some, List.length_nil, Nat.zero_add, if_pos b1, List.nil_append])
        have A2 := Aside0.mk (show slices_Clone_int_int.f x.f2 = some x.f2 by unfold slices_Clone_int_int.f; rw [Option.bind_some, List.length_nil, Nat.zero_add, if_pos b2, List.nil_append])
        have A3 := Aside0.mk (show api_Dec_33.f x.f3 = some x.f3 by unfold api_Dec_33.f; rw [Option.bind_some, List.length_nil, Nat.zero_add, if_pos b3, List.nil_append])
        clear b1 b2 b3
        obtain ⟨f', hf', hR'⟩ := half_retag HR.out k
        have HF := Aside0.mk hf'
        have HR2 := Aside0.mk hR'
        clear HR hf' hR'
        obtain ⟨c, hcl, hFK, hcc, hfr⟩ := half_elem HR2.out HX.out
        have hK := hFK wr (fun b hb1 hb2 => HG.out.block b hb2 hb1)
        obtain ⟨B1, d1, B2, d2, B3, d3, rfl, l1, g1, l2, g2, l3, g3⟩ := k32_open hK
        clear hFK hK hcl
        have HC1 := Aside0.mk g1
        have HC2 := Aside0.mk g2
        have HC3 := Aside0.mk g3
        have HL1 := Aside0.mk l1
        have HL2 := Aside0.mk l2
        have HL3 := Aside0.mk l3
        clear g1 g2 g3 l1 l2 l3
        have hc0 : wr.cell? ⟨g, k * 4, none⟩ = some (.int .i64 x.f0) := hcc 0 _ rfl
        have hc1 : wr.cell? ⟨g, k * 4 + 1, none⟩ = some (.slice B1 x.f1.length d1) := hcc 1 _ rfl
        have hc2 : wr.cell? ⟨g, k * 4 + 2, none⟩ = some (.slice B2 x.f2.length d2) := hcc 2 _ rfl
        have hc3 : wr.cell? ⟨g, k * 4 + 3, none⟩ = some (.slice B3 x.f3.length d3) := hcc 3 _ rfl
        clear hcc hfr
        have hp1 : (0 : Int) ≤ (k : Int) := Int.natCast_nonneg k
        have hp2 : (k : Int) < (l0.length : Int) := Int.ofNat_lt.2 hk
        have hd := decide_eq_true hk
        go_wp2
        refine at_world (fun W2 => W2.heap.size = wr.heap.size + 1 ∧ W2.heap[wr.heap.size]? = some (.cells #[.int .i64 x.f0, .slice B1 x.f1.length d1, .slice B2 x.f2.length d2, .slice B3 x.f3.length d3] 32 (0, 0)) ∧ Below wr.heap.size wr W2) ⟨J21, heap_alloc_new wr _, below_alloc (Below.refl _ _) _⟩ ?_
        rintro w2 ⟨hsz, hbx, hb2⟩
        have HS := Aside0.mk hsz
        have BK := Aside0.mk hbx
        have HW := Aside0.mk hb2
        clear hsz hbx hb2 hc0 hc1 hc2 hc3
        have hz0 : w2.cell? ⟨wr.heap.size, 0, none⟩ = some (.int .i64 x.f0) := (blk_cell BK.out 0).trans rfl
        have hz1 : w2.cell? ⟨wr.heap.size, 1, none⟩ = some (.slice B1 x.f1.length d1) := (blk_cell BK.out 1).trans rfl
        have hz2 : w2.cell? ⟨wr.heap.size, 2, none⟩ = some (.slice B2 x.f2.length d2) := (blk_cell BK.out 2).trans rfl
        have hz3 : w2.cell? ⟨wr.heap.size, 3, none⟩ = some (.slice B3 x.f3.length d3) := (blk_cell BK.out 3).trans rfl
        have hne1 : (wr.heap.size = g) = False := eq_false J28
        have hne2 : (g = wr.heap.size) = False := eq_false J28
        go_region_held3 (fun w' => w'.cell? ⟨wr.heap.size, 0, none⟩ = some (.int .i64 x.f0) ∧ w'.cell? ⟨wr.heap.size, 1, none⟩ = some (.slice B1 x.f1.length d1) ∧ w'.cell? ⟨wr.heap.size, 2, none⟩ = some (.slice B2 x.f2.length d2) ∧ w'.cell? ⟨wr.heap.size, 3, none⟩ = some (.slice B3 x.f3.length d3)) (go_keep)
          (first
            | (go_at_call 32; refine (slices_Clone_int_int.calls B1 d1 x.f1 x.f1 _ (by first | exact Kd.C_below HC1.out HW.out | exact Kd.C_below HC1.out (below_drew HW.out)) HL1.out A1.out).mono ?_; rintro e w3 ⟨v1, rfl, ho, hb⟩; obtain ⟨E1, e1, rfl⟩ := Kd.R_slice ho; have n0_ := Aside0.mk (blk_below (by first | exact BK.out | exact blk_drew BK.out) hb); have n1_ := Aside0.mk (Kd.R_lower ho (below_size J39)); have n2_ := Aside0.mk (below_step J39 hb); clear BK HW ho hb; have BK := n0_; have HO1 := n1_; have HW := n2_; clear n0_ n1_ n2_; have hz0 : w3.cell? ⟨wr.heap.size, 0, none⟩ = some (.int .i64 x.f0) := (blk_cell BK.out 0).trans rfl; have hz1 : w3.cell? ⟨wr.heap.size, 1, none⟩ = some (.slice B1 x.f1.length d1) := (blk_cell BK.out 1).trans rfl; have hz2 : w3.cell? ⟨wr.heap.size, 2, none⟩ = some (.slice B2 x.f2.length d2) := (blk_cell BK.out 2).trans rfl; have hz3 : w3.cell? ⟨wr.heap.size, 3, none⟩ = some (.slice B3 x.f3.length d3) := (blk_cell BK.out 3).trans rfl)
            | (go_at_call 32; refine (slices_Clone_int_int.calls B2 d2 x.f2 x.f2 _ (by first | exact Kd.C_below HC2.out HW.out | exact Kd.C_below HC2.out (below_drew HW.out)) HL2.out A2.out).mono ?_; rintro e w4 ⟨v2, rfl, ho, hb⟩; obtain ⟨E2, e2, rfl⟩ := Kd.R_slice ho; have HAP := Aside0.mk (show ∀ b, (Value.slice E1 x.f1.length e1).ownBlock = some b → (Value.slice E2 x.f2.length e2).ownBlock ≠ some b from fun b h1 h2 => Nat.lt_irrefl _ (Nat.lt_of_lt_of_le (Kd.R_lt (by first | exact HO1.out | exact Kd.R_drew HO1.out) b h1) (Kd.R_base ho b h2))); have n0_ := Aside0.mk (blk_below (by first | exact BK.out | exact blk_drew BK.out) hb); have n1_ := Aside0.mk (Kd.R_lower ho (below_size J39)); have n2_ := Aside0.mk (below_step J39 hb); have n3_ := Aside0.mk (Kd.R_below (by first | exact HO1.out | exact Kd.R_drew HO1.out) hb); clear BK HW HO1 ho hb; have BK := n0_; have HO2 := n1_; have HW := n2_; have HO1 := n3_; clear n0_ n1_ n2_ n3_; have hz0 : w4.cell? ⟨wr.heap.size, 0, none⟩ = some (.int .i64 x.f0) := (blk_cell BK.out 0).trans rfl; have hz1 : w4.cell? ⟨wr.heap.size, 1, none⟩ = some (.slice B1 x.f1.length d1) := (blk_cell BK.out 1).trans rfl; have hz2 : w4.cell? ⟨wr.heap.size, 2, none⟩ = some (.slice B2 x.f2.length d2) := (blk_cell BK.out 2).trans rfl; have hz3 : w4.cell? ⟨wr.heap.size, 3, none⟩ = some (.slice B3 x.f3.length d3) := (blk_cell BK.out 3).trans rfl)
            | (go_at_call 33; refine (api_Dec_33.calls B3 d3 x.f3 x.f3 _ (by first | exact Kd.C_below HC3.out HW.out | exact Kd.C_below HC3.out (below_drew HW.out)) HL3.out A3.out).mono ?_; rintro e w5 ⟨v3, rfl, ho, hb⟩; obtain ⟨E3, e3, rfl⟩ := Kd.R_slice ho; have n0_ := Aside0.mk (blk_below (by first | exact BK.out | exact blk_drew BK.out) hb); have n1_ := Aside0.mk (Kd.R_lower ho (below_size J39)); have n2_ := Aside0.mk (below_step J39 hb); have n3_ := Aside0.mk (Kd.R_below (by first | exact HO1.out | exact Kd.R_drew HO1.out) hb); have n4_ := Aside0.mk (Kd.R_below (by first | exact HO2.out | exact Kd.R_drew HO2.out) hb); clear BK HW HO1 HO2 ho hb; have BK := n0_; have HO3 := n1_; have HW := n2_; have HO1 := n3_; have HO2 := n4_; clear n0_ n1_ n2_ n3_ n4_; have HR5 := Aside0.mk (Kd.R_below HR2.out HW.out); obtain ⟨c5, _, hFK5, hcc5, hfr5⟩ := half_elem HR5.out HX.out; obtain ⟨G1, q1, G2, q2, G3, q3, rfl, _, _, _, _, _, _⟩ := k32_open (Kd.FK_now hFK5); clear hFK5; have hs0 : w5.cell? ⟨g, k * 4, none⟩ = some (.int .i64 x.f0) := hcc5 0 _ rfl; have hs1 : w5.cell? ⟨g, k * 4 + 1, none⟩ = some (.slice G1 x.f1.length q1) := hcc5 1 _ rfl; have hs2 : w5.cell? ⟨g, k * 4 + 2, none⟩ = some (.slice G2 x.f2.length q2) := hcc5 2 _ rfl; have hs3 : w5.cell? ⟨g, k * 4 + 3, none⟩ = some (.slice G3 x.f3.length q3) := hcc5 3 _ rfl; have hg0 : w5.frozen? ⟨g, k * 4, none⟩ = false := hfr5 0; have hg1 : w5.frozen? ⟨g, k * 4 + 1, none⟩ = false := hfr5 1; have hg2 : w5.frozen? ⟨g, k * 4 + 2, none⟩ = false := hfr5 2; have hg3 : w5.frozen? ⟨g, k * 4 + 3, none⟩ = false := hfr5 3; clear hcc5 hfr5; have hz0 : w5.cell? ⟨wr.heap.size, 0, none⟩ = some (.int .i64 x.f0) := (blk_cell BK.out 0).trans rfl; have hz1 : w5.cell? ⟨wr.heap.size, 1, none⟩ = some (.slice B1 x.f1.length d1) := (blk_cell BK.out 1).trans rfl; have hz2 : w5.cell? ⟨wr.heap.size, 2, none⟩ = some (.slice B2 x.f2.length d2) := (blk_cell BK.out 2).trans rfl; have hz3 : w5.cell? ⟨wr.heap.size, 3, none⟩ = some (.slice B3 x.f3.length d3) := (blk_cell BK.out 3).trans rfl))
        go_wp2
        go_roundg (l0.length - (k + 1))
        case measure => have := HQ.out; omega
        case rel =>
          have hM0 : k32.M w5 w.heap.size (fun b => wr.heap.size ≤ b) x [.int .i64 x.f0, .slice E1 x.f1.length e1, .slice E2 x.f2.length e2, .slice E3 x.f3.length e3] := k32_mkM _ _ _ x (Kd.R_lower (Kd.R_mono (Kd.R_bound HO1.out) (fun _ hk => hk.2.1)) (below_size HB.out)) (Kd.R_lower (Kd.R_mono (Kd.R_bound HO2.out) (fun _ hk => hk.2.1)) (below_size HB.out)) (Kd.R_lower (Kd.R_mono (Kd.R_bound HO3.out) (fun _ hk => hk.2.1)) (below_size HB.out))
          have hM : kA.M w5 w.heap.size (fun b => wr.heap.size ≤ b) x [.int .i64 x.f0, .slice E1 x.f1.length e1, .slice E2 x.f2.length e2, .slice E3 x.f3.length e3] := ⟨hM0, fun a1 a2 b_ e1_ e2_ h1_ => by obtain rfl := Option.some.inj e1_; obtain rfl := Option.some.inj e2_; exact HAP.out b_ h1_⟩
          have hP := half_put HR5.out HX.out hM (fun b hb => ⟨⟨trivial, fun e_ => by subst e_; exact Nat.lt_irrefl _ (Nat.lt_of_lt_of_le HGL.out hb)⟩, HF.out b hb⟩)
          exact ⟨k + 1, f', rfl, ⟨by have := HQ.out; omega⟩, ⟨hP.1⟩, ⟨below_set (below_set (below_set (below_set (below_step HB.out HW.out) HGE.out) HGE.out) HGE.out) HGE.out⟩, ⟨(HG.out.trans (grown_of_below HW.out _)).trans hP.2⟩⟩
      · have c1 : decide (k < l0.length) = false := decide_eq_false hk
        have HK := Aside0.mk (show k = l0.length by have := HQ.out; omega)
        clear hk
        go_wp2
        go_ret
        exact ⟨_, rfl, S_of_half (by have h_ := HR.out; rw [HK.out] at h_; exact h_), HB.out⟩
  · rw [if_neg h0] at h
    cases h
theorem array_Copy.calls (A0 : Option Addr) (c0 : Nat) (l0 : List S32) (r : List S32) (w : World) (hr0 : Kd.C k32 w A0 l0.length l0) (hc0 : l0.length ≤ c0) (h : array_Copy.f l0 = some r) :
    Calls Try.prog 13 #[.slice A0 l0.length c0] w fun e w' => ∃ v0_ : Value, e = .returned (v0_) ∧ Kd.S k32 32 w' w.heap.size (fun _ => True) v0_ r ∧ Below w.heap.size w w' :=
  (array_Copy.callsA A0 c0 l0 r w hr0 hc0 h).mono fun e w' hx => by obtain ⟨v, he, hs, hb⟩ := hx; exact ⟨v, he, S_kA hs, hb⟩
def shape_Count_1.f (a0 : Int) : Option (Bool) := if a0 < 0 then (some true) else (some (decide (a0 > 1048576)))
set_option maxHeartbeats 8000000 in
set_option maxRecDepth 100000 in
theorem shape_Count_1.calls (a0 : Int) (r : Bool) (w : World) (h : shape_Count_1.f a0 = some r) :
    Calls Try.prog 39 #[.int .i64 a0] w fun e w' => e = .returned (.bool r) ∧ Drawn0 w w' := by
  have H : (if a0 < 0 then (some true) else (some (decide (a0 > 1048576)))) = some r := h
  clear h
  by_cases c2 : a0 < 0
  rotate_left
  · rw [if_neg c2] at H
    have c2b0 := decide_eq_false c2
    clear c2
    obtain rfl := Option.some.inj H
    go_enter Try.func39, Try.ntmps39
    go_wp2
    go_ret
    exact ⟨J5, J6⟩
  rw [if_pos c2] at H
  have c2b0 := decide_eq_true c2
  clear c2
  obtain rfl := Option.some.inj H
  go_enter Try.func39, Try.ntmps39
  go_wp2
  go_ret
  exact ⟨J5, J6⟩
theorem goesLv_ {P : Program} {ops : Array Oper} {Q : Exit → Act → World → Prop} {rest : List Oper} {oi : Oper} {a : Act} {w : World} (N : Option Tmp) (hd : oi.dst = N) (hg : oi.guard = none) {f : FuncId} {fn : Func} {as_ : Array Operand} {ts : Array TypeId} (hf : P.funcs[f]? = some fn) (hname : (fn.name == "runtime.NumGoroutine") = false) (hb : fn.body.isSome = true) (args : Array Value) (x : Operand)
    (hop : oi.op = .call { callee := .value x, args := as_, argTypes := ts }) (hx : a.eval x = .func (.func f) #[] #[]) (hargs : as_.map a.eval = args)
    (h : Calls P f args w fun e w' => ∃ v, e = .returned v ∧ wpList P ops Q rest (a.put N v) w') : wpList P ops Q (oi :: rest) a w := by
  refine wpList_plain hg fun K hK => ?_
  have he := enters_ hf hname hb args w
  have hrun : (execOp a.eval oi).run P w = .ok (.enter f args) w := by
    unfold execOp
    simp [hop, hx, resolve, Deferred.ofValue, invoke, hargs, he]
  unfold Oper.wp
  rw [hrun, Oper.upon_enter]
  refine h.mono fun e w'' hh => ?_
  obtain ⟨v, rfl, hk⟩ := hh
  subst hd
  exact hK _ _ hk
def slices_IndexFunc_int_int.l0 : Nat → List Int → Int → Int → Option (Int)
  | 0, _, _, _ => none
  | k + 1, x0, x7, x8 => if x8 < x7 then (if 0 ≤ x8 then (if x8 < (x0.length : Int) then ((shape_Count_1.f (rd x0 x8)).bind fun t120 => (if t120 = true then (some x8) else (slices_IndexFunc_int_int.l0 k x0 x7 (wrap64 (x8 + 1))))) else (none)) else (none)) else (some (-1))
def slices_IndexFunc_int_int.f (k : Nat) (l0 : List Int) : Option (Int) := slices_IndexFunc_int_int.l0 k l0 (l0.length : Int) 0
theorem slices_IndexFunc_int_int.mono_l : ∀ k, (∀ y0 y1 y2, LeO (slices_IndexFunc_int_int.l0 k y0 y1 y2) (slices_IndexFunc_int_int.l0 (k + 1) y0 y1 y2))
  | 0 => fun _ _ _ r h => by simp [slices_IndexFunc_int_int.l0] at h
  | k + 1 => by
    have ih0 := slices_IndexFunc_int_int.mono_l k
    · intro y0 y1 y2
      unfold slices_IndexFunc_int_int.l0
      repeat' first
      | (with_reducible exact ih0 _ _ _)
      | (with_reducible exact LeO.refl _)
      | (with_reducible exact LeO.none _)
      | (with_reducible refine LeO.ite ?_ ?_)
      | (with_reducible refine LeO.bind ?_ (fun _ => ?_))
      | exact ih0 _ _ _
      | exact LeO.none _
      | refine LeO.ite ?_ ?_
      | refine LeO.bind ?_ (fun _ => ?_)
theorem slices_IndexFunc_int_int.mono : ∀ a0 k, LeO (slices_IndexFunc_int_int.f k a0) (slices_IndexFunc_int_int.f (k + 1) a0) := by
  intro a0 k
  have ih0 := slices_IndexFunc_int_int.mono_l k
  unfold slices_IndexFunc_int_int.f
  repeat' first
      | (with_reducible exact ih0 _ _ _)
      | (with_reducible exact LeO.refl _)
      | (with_reducible exact LeO.none _)
      | (with_reducible refine LeO.ite ?_ ?_)
      | (with_reducible refine LeO.bind ?_ (fun _ => ?_))
      | exact ih0 _ _ _
      | exact LeO.none _
      | refine LeO.ite ?_ ?_
      | refine LeO.bind ?_ (fun _ => ?_)
set_option maxHeartbeats 8000000 in
set_option maxRecDepth 100000 in
theorem slices_IndexFunc_int_int.calls (k : Nat) (A0 : Option Addr) (c0 : Nat) (l0 : List Int) (r : Int) (w : World) (hr0 : Kd.C (Kd.int .i64) w A0 l0.length l0) (hc0 : l0.length ≤ c0) (h : slices_IndexFunc_int_int.f k l0 = some r) :
    Calls Try.prog 47 #[.slice A0 l0.length c0, .func (.func 39) #[] #[]] w fun e w' => e = .returned (.int .i64 r) ∧ Drawn0 w w' := by
  have HR0 := Aside0.mk hr0
  have HC0 := Aside0.mk hc0
  clear hr0 hc0
  have H : (slices_IndexFunc_int_int.l0 k l0 (l0.length : Int) 0) = some r := h
  clear h
  have H' := Aside0.mk H
  clear H
  go_enter Try.func47, Try.ntmps47
  go_wp2
  go_loopg [8] k (fun kq v8 w' => ∃ (x8_1 : Int), v8 = .int .i64 x8_1 ∧ Aside0 (slices_IndexFunc_int_int.l0 kq l0 (l0.length : Int) x8_1 = some r) ∧ Aside0 (kq ≤ k) ∧ Drawn0 w w')
  case atStart => exact ⟨(0), J5, H', ⟨Nat.le_refl _⟩, J6⟩
  case round =>
    clear H'
    obtain ⟨x8_1, rfl, HA, HK1, ⟨m1, rfl⟩⟩ := hrel
    cases gk with
    | zero => exact absurd HA.out (by simp [slices_IndexFunc_int_int.l0])
    | succ k1 =>
      have H := HA.out
      clear HA
      simp only [slices_IndexFunc_int_int.l0] at H
      by_cases c2 : x8_1 < (l0.length : Int)
      rotate_left
      · rw [if_neg c2] at H
        have c2b0 := decide_eq_false c2
        clear c2
        obtain rfl := Option.some.inj H
        go_wp2
        go_ret
        exact ⟨J5, J6⟩
      rw [if_pos c2] at H
      have c2b0 := decide_eq_true c2
      clear c2
      by_cases c3 : 0 ≤ x8_1
      rotate_left
      · rw [if_neg c3] at H
        exact absurd H J21
      rw [if_pos c3] at H
      have c3b0 := decide_eq_true c3
      clear c3
      by_cases c4 : x8_1 < (l0.length : Int)
      rotate_left
      · rw [if_neg c4] at H
        exact absurd H J21
      rw [if_pos c4] at H
      have c4b0 := decide_eq_true c4
      clear c4
      replace H := Option.bind_eq_some_iff.mp H
      obtain ⟨t120, A50, H⟩ := H
      have A5 := Aside0.mk A50
      clear A50
      by_cases c6 : t120 = true
      · subst c6
        have H1 : (some x8_1) = some r := J14
        clear H
        have H := H1
        clear H1
        obtain rfl := Option.some.inj H
        have p119 : 0 ≤ (x8_1 : Int) := of_decide_eq_true J2
        have q119 : x8_1 < (l0.length : Int) := of_decide_eq_true J2
        obtain ⟨ad119, e119, hx119_0⟩ := Kd.at_int HR0.out x8_1 p119 q119
        cases e119
        replace p119 := eq_true p119
        replace q119 := eq_true q119
        go_wp2_with (first | ((with_reducible refine gate_dst (N := 16) rfl ?_); refine goesLv_ (some 16) rfl rfl Try.func39 J8 rfl #[.int .i64 (rd l0 x8_1)] (.tmp 11) rfl rfl J1 ?_; (with_reducible refine (shape_Count_1.calls (rd l0 x8_1) true _ A5.out).mono ?_); rintro e w' ⟨rfl, ⟨nd, rfl⟩⟩; refine ⟨_, rfl, ?_⟩))
        go_ret
        exact ⟨J5, J6⟩
      replace c6 := Bool.eq_false_iff.mpr c6
      subst c6
      have H1 : (slices_IndexFunc_int_int.l0 k1 l0 (l0.length : Int) (wrap64 (x8_1 + 1))) = some r := J7
      clear H
      have H := H1
      clear H1
      have H' := Aside0.mk H
      clear H
      have p119 : 0 ≤ (x8_1 : Int) := of_decide_eq_true J2
      have q119 : x8_1 < (l0.length : Int) := of_decide_eq_true J2
      obtain ⟨ad119, e119, hx119_0⟩ := Kd.at_int HR0.out x8_1 p119 q119
      cases e119
      replace p119 := eq_true p119
      replace q119 := eq_true q119
      go_wp2_with (first | ((with_reducible refine gate_dst (N := 16) rfl ?_); refine goesLv_ (some 16) rfl rfl Try.func39 J8 rfl #[.int .i64 (rd l0 x8_1)] (.tmp 11) rfl rfl J1 ?_; (with_reducible refine (shape_Count_1.calls (rd l0 x8_1) false _ A5.out).mono ?_); rintro e w' ⟨rfl, ⟨nd, rfl⟩⟩; refine ⟨_, rfl, ?_⟩))
      go_roundg k1
      case measure => have := HK1.out; omega
      case rel => exact ⟨(wrap64 (x8_1 + 1)), J5, H', ⟨J41⟩, J6⟩
def slices_ContainsFunc_int_int.f (k : Nat) (l0 : List Int) : Option (Bool) := (slices_IndexFunc_int_int.f k l0).bind fun t121 => (some (decide (t121 ≥ 0)))
theorem slices_ContainsFunc_int_int.mono : ∀ a0 k, LeO (slices_ContainsFunc_int_int.f k a0) (slices_ContainsFunc_int_int.f (k + 1) a0) := by
  intro a0 k
  unfold slices_ContainsFunc_int_int.f
  repeat' first
      | (with_reducible exact slices_IndexFunc_int_int.mono _ _)
      | (with_reducible exact LeO.refl _)
      | (with_reducible exact LeO.none _)
      | (with_reducible refine LeO.ite ?_ ?_)
      | (with_reducible refine LeO.bind ?_ (fun _ => ?_))
      | exact slices_IndexFunc_int_int.mono _ _
      | exact LeO.none _
      | refine LeO.ite ?_ ?_
      | refine LeO.bind ?_ (fun _ => ?_)
set_option maxHeartbeats 8000000 in
set_option maxRecDepth 100000 in
theorem slices_ContainsFunc_int_int.calls (k : Nat) (A0 : Option Addr) (c0 : Nat) (l0 : List Int) (r : Bool) (w : World) (hr0 : Kd.C (Kd.int .i64) w A0 l0.length l0) (hc0 : l0.length ≤ c0) (h : slices_ContainsFunc_int_int.f k l0 = some r) :
    Calls Try.prog 40 #[.slice A0 l0.length c0, .func (.func 39) #[] #[]] w fun e w' => e = .returned (.bool r) ∧ Drawn0 w w' := by
  have HR0 := Aside0.mk hr0
  have HC0 := Aside0.mk hc0
  clear hr0 hc0
  have H : ((slices_IndexFunc_int_int.f k l0).bind fun t121 => (some (decide (t121 ≥ 0)))) = some r := h
  clear h
  replace H := Option.bind_eq_some_iff.mp H
  obtain ⟨t121, A20, H⟩ := H
  have A2 := Aside0.mk A20
  clear A20
  obtain rfl := Option.some.inj H
  go_enter Try.func40, Try.ntmps40
  go_wp2_with (first | ((with_reducible refine gate_callee (f := 47) rfl ?_); refine goesL_ (some 7) rfl rfl Try.func47 J8 rfl #[.slice A0 l0.length c0, .func (.func 39) #[] #[]] rfl J1 ?_; (with_reducible refine (slices_IndexFunc_int_int.calls k _ _ l0 t121 _ ?side1 ?side2 A2.out).mono ?_); (case side1 => repeat (first | exact HR0.out | (with_reducible refine Kd.C_alloc ?_ _) | (with_reducible refine Kd.C_drewN ?_ _) | (with_reducible refine Kd.C_drew ?_))); (case side2 => exact HC0.out); rintro e w' ⟨rfl, ⟨nd, rfl⟩⟩; refine ⟨_, rfl, ?_⟩))
  go_ret
  exact ⟨J5, J6⟩
def slices_Index_int_int.l0 : Nat → List Int → Int → Int → Int → Option (Int)
  | 0, _, _, _, _ => none
  | k + 1, x0, x1, x7, x8 => if x8 < x7 then (if 0 ≤ x8 then (if x8 < (x0.length : Int) then (if x1 = (rd x0 x8) then (some x8) else (slices_Index_int_int.l0 k x0 x1 x7 (wrap64 (x8 + 1)))) else (none)) else (none)) else (some (-1))
def slices_Index_int_int.f (k : Nat) (l0 : List Int) (a1 : Int) : Option (Int) := slices_Index_int_int.l0 k l0 a1 (l0.length : Int) 0
theorem slices_Index_int_int.mono_l : ∀ k, (∀ y0 y1 y2 y3, LeO (slices_Index_int_int.l0 k y0 y1 y2 y3) (slices_Index_int_int.l0 (k + 1) y0 y1 y2 y3))
  | 0 => fun _ _ _ _ r h => by simp [slices_Index_int_int.l0] at h
  | k + 1 => by
    have ih0 := slices_Index_int_int.mono_l k
    · intro y0 y1 y2 y3
      unfold slices_Index_int_int.l0
      repeat' first
      | (with_reducible exact ih0 _ _ _ _)
      | (with_reducible exact LeO.refl _)
      | (with_reducible exact LeO.none _)
      | (with_reducible refine LeO.ite ?_ ?_)
      | (with_reducible refine LeO.bind ?_ (fun _ => ?_))
      | exact ih0 _ _ _ _
      | exact LeO.none _
      | refine LeO.ite ?_ ?_
      | refine LeO.bind ?_ (fun _ => ?_)
theorem slices_Index_int_int.mono : ∀ a0 a1 k, LeO (slices_Index_int_int.f k a0 a1) (slices_Index_int_int.f (k + 1) a0 a1) := by
  intro a0 a1 k
  have ih0 := slices_Index_int_int.mono_l k
  unfold slices_Index_int_int.f
  repeat' first
      | (with_reducible exact ih0 _ _ _ _)
      | (with_reducible exact LeO.refl _)
      | (with_reducible exact LeO.none _)
      | (with_reducible refine LeO.ite ?_ ?_)
      | (with_reducible refine LeO.bind ?_ (fun _ => ?_))
      | exact ih0 _ _ _ _
      | exact LeO.none _
      | refine LeO.ite ?_ ?_
      | refine LeO.bind ?_ (fun _ => ?_)
set_option maxHeartbeats 8000000 in
set_option maxRecDepth 100000 in
theorem slices_Index_int_int.calls (k : Nat) (A0 : Option Addr) (c0 : Nat) (l0 : List Int) (a1 : Int) (r : Int) (w : World) (hr0 : Kd.C (Kd.int .i64) w A0 l0.length l0) (hc0 : l0.length ≤ c0) (h : slices_Index_int_int.f k l0 a1 = some r) :
    Calls Try.prog 48 #[.slice A0 l0.length c0, .int .i64 a1] w fun e w' => e = .returned (.int .i64 r) ∧ Drawn0 w w' := by
  have HR0 := Aside0.mk hr0
  have HC0 := Aside0.mk hc0
  clear hr0 hc0
  have H : (slices_Index_int_int.l0 k l0 a1 (l0.length : Int) 0) = some r := h
  clear h
  have H' := Aside0.mk H
  clear H
  go_enter Try.func48, Try.ntmps48
  go_wp2
  go_loopg [8] k (fun kq v8 w' => ∃ (x8_1 : Int), v8 = .int .i64 x8_1 ∧ Aside0 (slices_Index_int_int.l0 kq l0 a1 (l0.length : Int) x8_1 = some r) ∧ Aside0 (kq ≤ k) ∧ Drawn0 w w')
  case atStart => exact ⟨(0), J5, H', ⟨Nat.le_refl _⟩, J6⟩
  case round =>
    clear H'
    try clear p2
    obtain ⟨x8_1, rfl, HA, HK1, ⟨m1, rfl⟩⟩ := hrel
    cases gk with
    | zero => exact absurd HA.out (by simp [slices_Index_int_int.l0])
    | succ k1 =>
      have H := HA.out
      clear HA
      simp only [slices_Index_int_int.l0] at H
      by_cases c3 : x8_1 < (l0.length : Int)
      rotate_left
      · rw [if_neg c3] at H
        have c3b0 := decide_eq_false c3
        clear c3
        obtain rfl := Option.some.inj H
        go_wp2
        go_ret
        exact ⟨J5, J6⟩
      rw [if_pos c3] at H
      have c3b0 := decide_eq_true c3
      clear c3
      by_cases c4 : 0 ≤ x8_1
      rotate_left
      · rw [if_neg c4] at H
        exact absurd H J21
      rw [if_pos c4] at H
      have c4b0 := decide_eq_true c4
      clear c4
      by_cases c5 : x8_1 < (l0.length : Int)
      rotate_left
      · rw [if_neg c5] at H
        exact absurd H J21
      rw [if_pos c5] at H
      have c5b0 := decide_eq_true c5
      clear c5
      by_cases c6 : a1 = (rd l0 x8_1)
      · rw [if_pos c6] at H
        have c6b0 : (a1 == (rd l0 x8_1)) = true := beq_iff_eq.mpr c6
        have c6b1 : (a1 != (rd l0 x8_1)) = false := bne_eq_false_iff_eq.mpr c6
        clear c6
        obtain rfl := Option.some.inj H
        have p122 : 0 ≤ (x8_1 : Int) := of_decide_eq_true J2
        have q122 : x8_1 < (l0.length : Int) := of_decide_eq_true J2
        obtain ⟨ad122, e122, hx122_0⟩ := Kd.at_int HR0.out x8_1 p122 q122
        cases e122
        replace p122 := eq_true p122
        replace q122 := eq_true q122
        go_wp2
        go_ret
        exact ⟨J5, J6⟩
      rw [if_neg c6] at H
      have c6b0 : (a1 == (rd l0 x8_1)) = false := beq_eq_false_iff_ne.mpr c6
      have c6b1 : (a1 != (rd l0 x8_1)) = true := bne_iff_ne.mpr c6
      have H' := Aside0.mk H
      clear H
      have p122 : 0 ≤ (x8_1 : Int) := of_decide_eq_true J2
      have q122 : x8_1 < (l0.length : Int) := of_decide_eq_true J2
      obtain ⟨ad122, e122, hx122_0⟩ := Kd.at_int HR0.out x8_1 p122 q122
      cases e122
      replace p122 := eq_true p122
      replace q122 := eq_true q122
      go_wp2
      go_roundg k1
      case measure => have := HK1.out; omega
      case rel => exact ⟨(wrap64 (x8_1 + 1)), J5, H', ⟨J41⟩, J6⟩
def slices_Contains_int_int.f (k : Nat) (l0 : List Int) (a1 : Int) : Option (Bool) := (slices_Index_int_int.f k l0 a1).bind fun t123 => (some (decide (t123 ≥ 0)))
theorem slices_Contains_int_int.mono : ∀ a0 a1 k, LeO (slices_Contains_int_int.f k a0 a1) (slices_Contains_int_int.f (k + 1) a0 a1) := by
  intro a0 a1 k
  unfold slices_Contains_int_int.f
  repeat' first
      | (with_reducible exact slices_Index_int_int.mono _ _ _)
      | (with_reducible exact LeO.refl _)
      | (with_reducible exact LeO.none _)
      | (with_reducible refine LeO.ite ?_ ?_)
      | (with_reducible refine LeO.bind ?_ (fun _ => ?_))
      | exact slices_Index_int_int.mono _ _ _
      | exact LeO.none _
      | refine LeO.ite ?_ ?_
      | refine LeO.bind ?_ (fun _ => ?_)
set_option maxHeartbeats 8000000 in
set_option maxRecDepth 100000 in
theorem slices_Contains_int_int.calls (k : Nat) (A0 : Option Addr) (c0 : Nat) (l0 : List Int) (a1 : Int) (r : Bool) (w : World) (hr0 : Kd.C (Kd.int .i64) w A0 l0.length l0) (hc0 : l0.length ≤ c0) (h : slices_Contains_int_int.f k l0 a1 = some r) :
    Calls Try.prog 41 #[.slice A0 l0.length c0, .int .i64 a1] w fun e w' => e = .returned (.bool r) ∧ Drawn0 w w' := by
  have HR0 := Aside0.mk hr0
  have HC0 := Aside0.mk hc0
  clear hr0 hc0
  have H : ((slices_Index_int_int.f k l0 a1).bind fun t123 => (some (decide (t123 ≥ 0)))) = some r := h
  clear h
  replace H := Option.bind_eq_some_iff.mp H
  obtain ⟨t123, A30, H⟩ := H
  have A3 := Aside0.mk A30
  clear A30
  obtain rfl := Option.some.inj H
  go_enter Try.func41, Try.ntmps41
  go_wp2_with (first | ((with_reducible refine gate_callee (f := 48) rfl ?_); refine goesL_ (some 7) rfl rfl Try.func48 J8 rfl #[.slice A0 l0.length c0, .int .i64 a1] rfl J1 ?_; (with_reducible refine (slices_Index_int_int.calls k _ _ l0 a1 t123 _ ?side1 ?side2 A3.out).mono ?_); (case side1 => repeat (first | exact HR0.out | (with_reducible refine Kd.C_alloc ?_ _) | (with_reducible refine Kd.C_drewN ?_ _) | (with_reducible refine Kd.C_drew ?_))); (case side2 => exact HC0.out); rintro e w' ⟨rfl, ⟨nd, rfl⟩⟩; refine ⟨_, rfl, ?_⟩))
  go_ret
  exact ⟨J5, J6⟩
end Go.Proofs.Ytgbmbcippldhnaa.HArraySame
