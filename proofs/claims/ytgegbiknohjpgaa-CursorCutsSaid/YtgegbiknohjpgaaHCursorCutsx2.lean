-- Written by the session's program hy.py.
import Derived.Test.YtgegbiknohjpgaaHCursorCutsx0
namespace Go.Proofs.Ytgegbiknohjpgaa.HCursorCuts
open Go.RowKit Go.Proofs.YtgegbiknohjpgaaW.PrintWords Go.Proofs.YtgegbiknohjpgaaW.PrintLast Go.Proofs.YtgegbiknohjpgaaW.PrintMore
attribute [local go_sem] max2_int min2_int max_two min_two max_three min_three max_four min_four   -- for this text's walks alone
set_option linter.unusedVariables false
set_option linter.unusedSimpArgs false

/-! ### slices_Clone_byte_byte: function 31 -/
def slices_Clone_byte_byte.f (l0 : List Int) : Option (List Int) := (some (([] : List Int) : List Int)).bind fun y101 => (if y101.length + l0.length < 140737488355328 then (some (y101 ++ l0)) else (none))
set_option maxHeartbeats 8000000 in
set_option maxRecDepth 100000 in
theorem slices_Clone_byte_byte.calls (A0 : Option Addr) (c0 : Nat) (l0 : List Int) (r : List Int) (w : World) (hr0 : Kd.C (Kd.int .u8) w A0 l0.length l0) (hc0 : l0.length ≤ c0) (h : slices_Clone_byte_byte.f l0 = some r) :
    Calls Try.prog 31 #[.slice A0 l0.length c0] w fun e w' => ∃ v0_ : Value, e = .returned (v0_) ∧ Kd.R (Kd.int .u8) 5 w' w.heap.size (fun _ => True) v0_ r ∧ Below w.heap.size w w' := by
  cases A0 with
  | none =>
    obtain rfl : l0 = [] := by
      cases l0 with
      | nil => rfl
      | cons x_ y_ =>
        obtain ⟨ad_, c_, e_, _⟩ := Kd.C_get hr0 0 0 (by omega) (by rw [List.length_cons]; omega)
        exact absurd e_ (by simp)
    have hn_ : ∀ W : World, (binOp .eql 22 (.slice none 0 c0) (.slice none 0 0)).run Try.prog W = .ok (.bool true) W := fun W => Lib.run_eql_slice_nil W 22 5 none _ c0 0 0 Try.underlying22
    rw [show ([] : List Int).length = 0 from rfl]
    go_enter Try.func31, Try.ntmps31
    go_wp2
    go_ret
    obtain rfl : r = [] := by simpa [slices_Clone_byte_byte.f] using h.symm
    exact ⟨_, rfl, Kd.R_nil _ _ _ _ _, Below.refl _ _⟩
  | some a0_ =>
    have hn_ : ∀ W : World, (binOp .eql 22 (.slice (some a0_) l0.length c0) (.slice none 0 0)).run Try.prog W = .ok (.bool false) W := fun W => Lib.run_eql_slice_nil W 22 5 (some a0_) _ c0 0 0 Try.underlying22
    have HR0 := Aside0.mk hr0
    have HC0 := Aside0.mk hc0
    clear hr0 hc0
    have HB := Aside0.mk (Below.refl w.heap.size w)
    have H : ((some (([] : List Int) : List Int)).bind fun y101 => (if y101.length + l0.length < 140737488355328 then (some (y101 ++ l0)) else (none))) = some r := h
    clear h
    obtain ⟨y101, hy101⟩ : ∃ y_ : List Int, y_ = (([] : List Int)) := ⟨_, rfl⟩
    replace H : (if y101.length + l0.length < 140737488355328 then (some (y101 ++ l0)) else (none)) = some r := by first | (rw [hy101]; with_reducible exact H) | (have H2_ := (Option.bind_some _ _).symm.trans H; rw [hy101]; with_reducible exact H2_) | (have H2_ := (Option.bind_some _ _).symm.trans H; with_reducible exact H2_) | with_reducible exact H | (rw [hy101]; exact H) | exact H
    have Ny101 := Aside0.mk hy101
    clear hy101
    by_cases c2 : y101.length + l0.length < 140737488355328
    · rw [if_pos c2] at H
      have LMc2 := Aside0.mk c2
      clear c2
      obtain ⟨y104, hy104⟩ : ∃ y_ : List Int, y_ = (y101 ++ l0) := ⟨_, rfl⟩
      replace H : (some y104) = some r := by first | (rw [hy104]; with_reducible exact H) | (have H2_ := (Option.bind_some _ _).symm.trans H; rw [hy104]; with_reducible exact H2_) | (have H2_ := (Option.bind_some _ _).symm.trans H; with_reducible exact H2_) | with_reducible exact H | (rw [hy104]; exact H) | exact H
      have Ny104 := Aside0.mk hy104
      clear hy104
      obtain rfl := Option.some.inj H
      go_enter Try.func31, Try.ntmps31
      go_wp2_with (first | ((with_reducible refine gate_dst (N := 5) rfl ?_); refine Kd.R_lit (Kd.int .u8) _ 5 ?hg (N := 5) ?hd (xs := ([] : List Int)) (inner := []) (ok := fun _ => True) (okp := fun _ => True) ?hr ?hp (fun _ hk => hk) trivial (Below.refl _ _) (Nat.le_refl _) (by simp) ?_; (case hd => rfl); (case hg => rfl); (case hr => first | (go_simp; done) | (go_simp; rfl)); (case hp => exact (Reps.none _ _)); intro v102 w3 ho4 hb hg_ hnew_; clear hg_ hnew_; (first | rw [← Ny101.out] at ho4 | (simp only [Int.reduceToNat] at ho4; rw [← Ny101.out] at ho4)); have n0_ := Aside0.mk (Kd.R_lower ho4 (below_size (by repeat (first | (with_reducible first | exact HB.out | apply below_alloc | apply pw_below_drewN | apply below_drew1) | exact HB.out)))); have n1_ := Aside0.mk (below_step (by repeat (first | (with_reducible first | exact HB.out | apply below_alloc | apply pw_below_drewN | apply below_drew1) | exact HB.out)) hb); clear HB; have HO103 := n0_; have HB := n1_; clear n0_ n1_; clear hb ho4) | ((with_reducible refine gate_builtin (b := .append) (xs := #[.tmp 5, .tmp 6]) rfl ?_); at_builtin; refine Kd.R_append_rows (Kd.int .u8) (w0 := w) w.heap.size rfl (.tmp 5) (.tmp 6) 22 5 (.int .u8 0) 1 rfl Try.underlying22 info5 rfl (by decide) (by omega) v102 y101 l0 _ _ _ (fun _ => True) (fun _ => False) rfl rfl ?aO ?aR (fun _ _ h => h) (fun _ h => h.elim) ?aF ?aB ?aS ?aL ?_; (case aR => repeat (first | exact (Kd.C_below HR0.out HB.out) | (with_reducible refine Kd.C_alloc ?_ _) | (with_reducible refine Kd.C_drewN ?_ _) | (with_reducible refine Kd.C_drew ?_))); (case aB => exact (by repeat (first | (with_reducible first | exact HB.out | apply below_alloc | apply pw_below_drewN | apply below_drew1) | exact HB.out))); (case aF => exact (fun _ _ => trivial)); (case aO => exact (by (with_reducible repeat (first | apply Kd.R_alloc | apply Kd.R_drewN | apply Kd.R_drew)); exact HO103.out)); (case aS => exact (below_size (by repeat (first | (with_reducible first | exact HB.out | apply below_alloc | apply pw_below_drewN | apply below_drew1) | exact HB.out)))); (case aL => have := LMc2.out; omega); intro v105 w5 ho hb hg hat; rw [← Ny104.out] at ho; have n0_ := Aside0.mk (hb); have n1_ := Aside0.mk (ho); clear HB; clear HO103; have HB := n0_; have HO106 := n1_; clear n0_ n1_; clear ho hb hg hat))
      go_ret
      exact ⟨_, by first | rfl | (simp [errW_none, errW_some] <;> rfl) | (simp [*, errW_none, errW_some] <;> rfl), by (with_reducible repeat (first | apply Kd.R_alloc | apply Kd.R_drewN | apply Kd.R_drew)); exact HO106.out, by repeat (first | (with_reducible first | exact HB.out | apply below_alloc | apply pw_below_drewN | apply below_drew1) | exact HB.out)⟩
    · rw [if_neg c2] at H
      exact absurd H (by simp)

set_option maxHeartbeats 8000000 in
set_option maxRecDepth 100000 in
theorem slices_Clone_byte_byte.calls0 (A0 : Option Addr) (c0 : Nat) (w : World) :
    Calls Try.prog 31 #[.slice A0 0 c0] w fun e w' => ∃ A_ : Option Addr, e = .returned (.slice A_ 0 0) ∧ Kd.R (Kd.int .u8) 5 w' w.heap.size (fun _ => True) (.slice A_ 0 0) ([] : List Int) ∧ Below w.heap.size w w' := by
  cases A0 with
  | none =>
    have hn_ : ∀ W : World, (binOp .eql 22 (.slice none 0 c0) (.slice none 0 0)).run Try.prog W = .ok (.bool true) W := fun W => Lib.run_eql_slice_nil W 22 5 none _ c0 0 0 Try.underlying22
    go_enter Try.func31, Try.ntmps31
    go_wp2
    go_ret
    exact ⟨_, rfl, Kd.R_nil _ _ _ _ _, Below.refl _ _⟩
  | some a0_ =>
    have hn_ : ∀ W : World, (binOp .eql 22 (.slice (some a0_) 0 c0) (.slice none 0 0)).run Try.prog W = .ok (.bool false) W := fun W => Lib.run_eql_slice_nil W 22 5 (some a0_) _ c0 0 0 Try.underlying22
    go_enter Try.func31, Try.ntmps31
    go_wp2
    go_ret
    exact ⟨_, rfl, ⟨fun _ _ => trivial, [], ⟨by simp, .inr ⟨w.heap.size, 0, #[], rfl, Nat.le_refl _, heap_alloc_new w _, Nat.le_refl _, Nat.zero_le _, rfl, rfl⟩⟩, Reps.none _ _⟩, (Below.refl _ _).alloc (Nat.le_refl _) _⟩

/-- A state of type 35 at block g of W; what its slices lead to came in by w0. -/
def TypeAt (W : World) (b : Nat) (t : TypeId) : Prop := ∃ cs, W.heap[b]? = some (Obj.cells cs t (0, 0))
theorem TypeAt.mk {W : World} {b : Nat} {t : TypeId} {cs : Array Value} (h : W.heap[b]? = some (Obj.cells cs t (0, 0))) : TypeAt W b t := ⟨cs, h⟩
theorem TypeAt.set {W : World} {b : Nat} {t : TypeId} (h : TypeAt W b t) (b' j : Nat) (u : Value) : TypeAt (W.setCell ⟨b', j, none⟩ u) b t := by
  obtain ⟨cs, h⟩ := h
  by_cases e : b = b'
  · subst e
    exact ⟨_, blk_set h j u⟩
  · exact ⟨cs, blk_far h e u⟩
theorem TypeAt.below {W W' : World} {b : Nat} {t : TypeId} (h : TypeAt W b t) (hw : Below W.heap.size W W') : TypeAt W' b t := by
  obtain ⟨cs, h⟩ := h
  exact ⟨cs, blk_below h hw⟩
theorem TypeAt.alloc {W : World} {b : Nat} {t : TypeId} (h : TypeAt W b t) (o : Obj) : TypeAt (W.alloc o) b t := h.below (below_alloc (Below.refl _ _) o)
theorem TypeAt.drewN {W : World} {b : Nat} {t : TypeId} (h : TypeAt W b t) (m : Nat) : TypeAt (W.drewN m) b t := h
theorem TypeAt.drew {W : World} {b : Nat} {t : TypeId} (h : TypeAt W b t) : TypeAt W.drew b t := h
def RowIn (W : World) (L G : Nat) (A : Option Addr) (l : List Int) : Prop := Kd.C (Kd.int .u8) W A l.length l ∧ ∀ ad, A = some ad → 0 < l.length → (L ≤ ad.block ∧ ad.block < G) ∧ ∃ cs fr, W.heap[ad.block]? = some (Obj.cells cs 5 fr)
theorem RowIn.step {W W' : World} {L G : Nat} {A : Option Addr} {l : List Int} (h : RowIn W L G A l) (hs : ∀ (b : Nat) (cs : Array Value) (fr : Nat × Nat), L ≤ b → b < G → W.heap[b]? = some (Obj.cells cs 5 fr) → W'.heap[b]? = some (Obj.cells cs 5 fr)) : RowIn W' L G A l := by
  refine ⟨⟨rfl, h.1.2.1, fun hp => ?_⟩, fun ad e hp => ?_⟩
  · obtain ⟨ad, e, hc⟩ := h.1.2.2 hp
    obtain ⟨⟨hL, hG⟩, cs, fr, hb⟩ := h.2 ad e hp
    have hb' := hs _ _ _ hL hG hb
    refine ⟨ad, e, fun j p hj => ?_⟩
    obtain ⟨c, h1, h2, h3⟩ := hc j p hj
    refine ⟨c, h1, h2, fun i u hu => ?_⟩
    have h4 := h3 i u hu
    simp only [World.cell?, add_block, hb] at h4
    simp only [World.cell?, add_block, hb']
    exact h4
  · obtain ⟨⟨hL, hG⟩, cs, fr, hb⟩ := h.2 ad e hp
    exact ⟨⟨hL, hG⟩, cs, fr, hs _ _ _ hL hG hb⟩
theorem RowIn.below {W W' : World} {L G : Nat} {A : Option Addr} {l : List Int} (h : RowIn W L G A l) (hw : Below W.heap.size W W') : RowIn W' L G A l := h.step fun b cs fr _ _ hb => blk_below hb hw
theorem RowIn.unlike {W : World} {g b : Nat} {t : TypeId} {cs cs' : Array Value} {fr fr' : Nat × Nat} (hg : W.heap[g]? = some (Obj.cells cs t fr)) (ht : t ≠ 5) (hb : W.heap[b]? = some (Obj.cells cs' 5 fr')) : b ≠ g := by
  rintro rfl
  rw [hg] at hb
  injection hb with hb
  injection hb with _ h2
  exact ht h2
theorem RowIn.set {W : World} {L G : Nat} {g : Nat} {t : TypeId} {cs : Array Value} {fr : Nat × Nat} {A : Option Addr} {l : List Int} (h : RowIn W L G A l) (hg : W.heap[g]? = some (Obj.cells cs t fr)) (ht : t ≠ 5) (j : Nat) (u : Value) : RowIn (W.setCell ⟨g, j, none⟩ u) L G A l :=
  h.step fun b cs' fr' _ _ hb => (Below.heap_setCell W ⟨g, j, none⟩ u b (RowIn.unlike hg ht hb)).trans hb
theorem RowIn.keep {W W' : World} {L G : Nat} {g : Nat} {A : Option Addr} {l : List Int} (h : RowIn W L G A l) (hk : KeepBut W W' g none) (hg : ∃ t cs fr, t ≠ 5 ∧ W.heap[g]? = some (Obj.cells cs t fr)) : RowIn W' L G A l := by
  obtain ⟨t, cs, fr, ht, hg⟩ := hg
  exact h.step fun b cs' fr' _ _ hb => (hk.2 b (blk_lt hb) (RowIn.unlike hg ht hb) (by simp)).trans hb
theorem RowIn.grown {W W' : World} {L G : Nat} {row : Option Nat} {A : Option Addr} {l : List Int} (h : RowIn W L G A l) (hw : W.grownBy W' row) (hr : ∀ k, row = some k → G < k ∨ k < L) : RowIn W' L G A l :=
  h.step fun b cs' fr' hL hG hb => (hw.block b (blk_lt hb) (fun e => by have := hr b e.symm; omega)).trans hb
theorem RowIn.lower {W : World} {L L' G : Nat} {A : Option Addr} {l : List Int} (h : RowIn W L G A l) (hL : L' ≤ L) : RowIn W L' G A l :=
  ⟨h.1, fun ad e hp => by obtain ⟨⟨h1, h2⟩, h3⟩ := h.2 ad e hp; exact ⟨⟨Nat.le_trans hL h1, h2⟩, h3⟩⟩
theorem RowIn.nil (W : World) (L G : Nat) : RowIn W L G none [] := ⟨Kd.C_nil _ W, fun ad e => by cases e⟩
theorem RowIn.of_R {W : World} {L G : Nat} {base : Nat} {ok : Nat → Prop} {A : Option Addr} {n c : Nat} {l : List Int} (h : Kd.R (Kd.int .u8) 5 W base ok (.slice A n c) l) (hG : ∀ k, (Value.slice A n c).ownBlock = some k → k < G) (hL : L ≤ base) : n = l.length ∧ l.length ≤ c ∧ RowIn W L G A l := by
  obtain ⟨hn, hc, hC⟩ := Kd.R_reads' h
  refine ⟨hn, by omega, hC, fun ad e hp => ?_⟩
  subst e
  obtain ⟨inner, ho⟩ := Kd.R_own h
  obtain ⟨cells, hb⟩ := own_typed ho ad.block (by simp [Value.ownBlock])
  exact ⟨⟨Nat.le_trans hL (Kd.R_base h _ (by simp [Value.ownBlock])), hG _ (by simp [Value.ownBlock])⟩, cells, _, hb⟩
theorem RowIn.drop {W : World} {L G : Nat} {A : Option Addr} {l : List Int} {m c : Nat} (h : RowIn W L G A l) (hm : m ≤ l.length) (hc : l.length ≤ c) : RowIn W L G (if c = m then A else A.map (·.add m)) (l.drop m) := by
  have h1 := Kd.C_drop h.1 hm hc
  have h0 : m * (Kd.int .u8).sz = m := Nat.mul_one m
  rw [h0] at h1
  refine ⟨h1, fun ad e hp => ?_⟩
  rw [List.length_drop] at hp
  rw [if_neg (by omega)] at e
  cases A with
  | none => simp at e
  | some a =>
    simp only [Option.map_some, Option.some.injEq] at e
    obtain ⟨hLG, cs, fr, hb⟩ := h.2 a rfl (by omega)
    subst e
    rw [add_block]
    exact ⟨hLG, cs, fr, hb⟩
def IsS35 (w0 W : World) (g : Nat) (f0 : Int) (f1 : Int) (f2 : Int) (f3 : Int) (f4 : (List Int)) : Prop := (∃ A_ c_, W.heap[g]? = some (.cells #[.int .i64 f0, .int .i64 f1, .int .i64 f2, .int .i64 f3, .slice A_ (f4).length c_] 35 (0, 0)) ∧ f4.length ≤ c_ ∧ RowIn W w0.heap.size g A_ f4) ∧ w0.heap.size ≤ g
theorem IsS35.cells {w0 W : World} {g : Nat} {f0 : Int} {f1 : Int} {f2 : Int} {f3 : Int} {f4 : (List Int)} (h : IsS35 w0 W g f0 f1 f2 f3 f4) : ∃ t cs fr, t ≠ 5 ∧ W.heap[g]? = some (Obj.cells cs t fr) := by
  obtain ⟨⟨A_, c_, hb, hcap, hr⟩, hg⟩ := h
  exact ⟨35, _, _, by decide, hb⟩
theorem IsS35.keepS {w0 W : World} {g : Nat} {f0 : Int} {f1 : Int} {f2 : Int} {f3 : Int} {f4 : (List Int)} {W' : World} {g' : Nat} (h : IsS35 w0 W g f0 f1 f2 f3 f4) (hk : KeepBut W W' g' none) (hne : g ≠ g') (hc : ∃ t cs fr, t ≠ 5 ∧ W.heap[g']? = some (Obj.cells cs t fr)) : IsS35 w0 W' g f0 f1 f2 f3 f4 := by
  obtain ⟨⟨A_, c_, hb, hcap, hr⟩, hg⟩ := h
  exact ⟨⟨A_, c_, hk.blk hb hne (by simp), hcap, hr.keep hk hc⟩, hg⟩
theorem IsS35.lower {w0 W : World} {g : Nat} {f0 : Int} {f1 : Int} {f2 : Int} {f3 : Int} {f4 : (List Int)} {w1 : World} (h : IsS35 w1 W g f0 f1 f2 f3 f4) (hle : w0.heap.size ≤ w1.heap.size) : IsS35 w0 W g f0 f1 f2 f3 f4 := by
  obtain ⟨⟨A_, c_, hb, hcap, hr⟩, hg⟩ := h
  exact ⟨⟨A_, c_, hb, hcap, hr.lower hle⟩, Nat.le_trans hle hg⟩
theorem IsS35.grown {w0 W : World} {g : Nat} {f0 : Int} {f1 : Int} {f2 : Int} {f3 : Int} {f4 : (List Int)} {W1 : World} {row : Option Nat} (h : IsS35 w0 W g f0 f1 f2 f3 f4) (hw : W.grownBy W1 row) (hne : some g ≠ row) (hr : ∀ k, row = some k → g < k ∨ k < w0.heap.size) : IsS35 w0 W1 g f0 f1 f2 f3 f4 := by
  obtain ⟨⟨A_, c_, hb, hcap, h1⟩, hg⟩ := h
  exact ⟨⟨A_, c_, blk_grown hb hw hne, hcap, h1.grown hw hr⟩, hg⟩
theorem IsS35.own_neN {w0 W : World} {g : Nat} {f0 : Int} {f1 : Int} {f2 : Int} {f3 : Int} {f4 : (List Int)} {α : Type} {d : Kd α} {e : Nat} {base : Nat} {ok : Nat → Prop} {v : Value} {xs : List α} (h : IsS35 w0 W g f0 f1 f2 f3 f4) (ho : Kd.N d e W base ok v xs) (ht : e ≠ 35) : some g ≠ v.ownBlock := by
  obtain ⟨⟨A_, c_, hb, hcap, hr⟩, hg⟩ := h
  exact Kd.N_ne ho hb ht
theorem IsS35.fresh {w0 W : World} {g : Nat} {f0 : Int} {f1 : Int} {f2 : Int} {f3 : Int} {f4 : (List Int)} (h : IsS35 w0 W g f0 f1 f2 f3 f4) : ∀ k, W.heap.size ≤ k → k ≠ g := by
  obtain ⟨⟨A_, c_, hb, hcap, hr⟩, hg⟩ := h
  exact Kd.freshB hb
theorem IsS35.below {w0 W : World} {g : Nat} {f0 : Int} {f1 : Int} {f2 : Int} {f3 : Int} {f4 : (List Int)} {W1 : World} (h : IsS35 w0 W g f0 f1 f2 f3 f4) (hw : Below W.heap.size W W1) : IsS35 w0 W1 g f0 f1 f2 f3 f4 := by
  obtain ⟨⟨A_, c_, hb, hcap, hr⟩, hg⟩ := h
  exact ⟨⟨A_, c_, blk_below hb hw, hcap, hr.below hw⟩, hg⟩
theorem IsS35.alloc {w0 W : World} {g : Nat} {f0 : Int} {f1 : Int} {f2 : Int} {f3 : Int} {f4 : (List Int)} (h : IsS35 w0 W g f0 f1 f2 f3 f4) (o : Obj) : IsS35 w0 (W.alloc o) g f0 f1 f2 f3 f4 := h.below (below_alloc (Below.refl _ _) o)
theorem IsS35.drewN {w0 W : World} {g : Nat} {f0 : Int} {f1 : Int} {f2 : Int} {f3 : Int} {f4 : (List Int)} (h : IsS35 w0 W g f0 f1 f2 f3 f4) (m : Nat) : IsS35 w0 (W.drewN m) g f0 f1 f2 f3 f4 := h
theorem IsS35.drew {w0 W : World} {g : Nat} {f0 : Int} {f1 : Int} {f2 : Int} {f3 : Int} {f4 : (List Int)} (h : IsS35 w0 W g f0 f1 f2 f3 f4) : IsS35 w0 W.drew g f0 f1 f2 f3 f4 := h
theorem IsS35.at_ {w0 W : World} {g : Nat} {f0 : Int} {f1 : Int} {f2 : Int} {f3 : Int} {f4 : (List Int)} {w' : World} {m : Nat} (hq : W.drewN m = w') (h : IsS35 w0 W g f0 f1 f2 f3 f4) : IsS35 w0 w' g f0 f1 f2 f3 f4 := by subst hq; exact IsS35.drewN h m
theorem IsS35.apart {w0 W : World} {g : Nat} {f0 : Int} {f1 : Int} {f2 : Int} {f3 : Int} {f4 : (List Int)} {α : Type} {d : Kd α} {e : Nat} {base : Nat} {ok : Nat → Prop} {v : Value} {xs : List α} (h : IsS35 w0 W g f0 f1 f2 f3 f4) (ho : d.R e W base ok v xs) (ht : ∀ q, q ∈ e :: d.E → q ≠ 35) : d.R e W base (fun k => ok k ∧ k ≠ g) v xs := by
  obtain ⟨⟨A_, c_, hb, hcap, hr⟩, hg⟩ := h
  exact Kd.R_types ho hb ht
theorem IsS35.own_ne {w0 W : World} {g : Nat} {f0 : Int} {f1 : Int} {f2 : Int} {f3 : Int} {f4 : (List Int)} {α : Type} {d : Kd α} {e : Nat} {base : Nat} {ok : Nat → Prop} {v : Value} {xs : List α} (h : IsS35 w0 W g f0 f1 f2 f3 f4) (ho : d.R e W base ok v xs) (ht : e ≠ 35) : some g ≠ v.ownBlock := by
  obtain ⟨⟨A_, c_, hb, hcap, hr⟩, hg⟩ := h
  exact Kd.R_ne ho hb ht
theorem IsS35.apartQ {w0 W : World} {g : Nat} {f0 : Int} {f1 : Int} {f2 : Int} {f3 : Int} {f4 : (List Int)} {α : Type} {d : Kd α} {e : Nat} {base : Nat} {ok : Nat → Prop} {v : Value} {xs : List α} (h : IsS35 w0 W g f0 f1 f2 f3 f4) (ho : d.Q e W base ok v xs) (ht : ∀ q, q ∈ e :: d.E → q ≠ 35) : d.Q e W base (fun k => ok k ∧ k ≠ g) v xs := by
  obtain ⟨⟨A_, c_, hb, hcap, hr⟩, hg⟩ := h
  exact Kd.Q_types ho hb ht
theorem IsS35.own_neQ {w0 W : World} {g : Nat} {f0 : Int} {f1 : Int} {f2 : Int} {f3 : Int} {f4 : (List Int)} {α : Type} {d : Kd α} {e : Nat} {base : Nat} {ok : Nat → Prop} {v : Value} {xs : List α} (h : IsS35 w0 W g f0 f1 f2 f3 f4) (ho : d.Q e W base ok v xs) (ht : e ≠ 35) : some g ≠ v.ownBlock := by
  obtain ⟨⟨A_, c_, hb, hcap, hr⟩, hg⟩ := h
  exact Kd.Q_ne ho hb ht
theorem IsS35.apartS {w0 W : World} {g : Nat} {f0 : Int} {f1 : Int} {f2 : Int} {f3 : Int} {f4 : (List Int)} {α : Type} {d : Kd α} {e : Nat} {base : Nat} {ok : Nat → Prop} {v : Value} {xs : List α} (h : IsS35 w0 W g f0 f1 f2 f3 f4) (ho : d.S e W base ok v xs) (ht : ∀ q, q ∈ e :: d.E → q ≠ 35) : d.S e W base (fun k => ok k ∧ k ≠ g) v xs := by
  obtain ⟨⟨A_, c_, hb, hcap, hr⟩, hg⟩ := h
  exact Kd.S_types ho hb ht
theorem IsS35.own_neS {w0 W : World} {g : Nat} {f0 : Int} {f1 : Int} {f2 : Int} {f3 : Int} {f4 : (List Int)} {α : Type} {d : Kd α} {e : Nat} {base : Nat} {ok : Nat → Prop} {v : Value} {xs : List α} (h : IsS35 w0 W g f0 f1 f2 f3 f4) (ho : d.S e W base ok v xs) (ht : e ≠ 35) : some g ≠ v.ownBlock := by
  obtain ⟨⟨A_, c_, hb, hcap, hr⟩, hg⟩ := h
  exact Kd.S_ne ho hb ht
theorem IsS35.lt {w0 W : World} {g : Nat} {f0 : Int} {f1 : Int} {f2 : Int} {f3 : Int} {f4 : (List Int)} (h : IsS35 w0 W g f0 f1 f2 f3 f4) : g < W.heap.size := by
  obtain ⟨⟨A_, c_, hb, hcap, hr⟩, hg⟩ := h
  exact blk_lt hb
theorem IsS35.ge {w0 W : World} {g : Nat} {f0 : Int} {f1 : Int} {f2 : Int} {f3 : Int} {f4 : (List Int)} (h : IsS35 w0 W g f0 f1 f2 f3 f4) : w0.heap.size ≤ g := by
  obtain ⟨⟨A_, c_, hb, hcap, hr⟩, hg⟩ := h
  exact hg
theorem IsS35.ne_blk {w0 W : World} {g : Nat} {f0 : Int} {f1 : Int} {f2 : Int} {f3 : Int} {f4 : (List Int)} {a : Nat} {cs : Array Value} {t : TypeId} {fr : Nat × Nat} (h : IsS35 w0 W g f0 f1 f2 f3 f4) (hb2 : W.heap[a]? = some (.cells cs t fr)) (ht : t ≠ 35) : g ≠ a := by
  obtain ⟨⟨A_, c_, hb, hcap, hr⟩, hg⟩ := h
  rintro rfl
  rw [hb] at hb2
  injection hb2 with hb2
  injection hb2 with _ ht2
  exact ht ht2.symm
theorem IsS35.far {w0 W : World} {g : Nat} {f0 : Int} {f1 : Int} {f2 : Int} {f3 : Int} {f4 : (List Int)} {p : Addr} (h : IsS35 w0 W g f0 f1 f2 f3 f4) (hne : g ≠ p.block) {t : TypeId} (hp : TypeAt W p.block t) (ht : t ≠ 5) (u : Value) : IsS35 w0 (W.setCell p u) g f0 f1 f2 f3 f4 := by
  obtain ⟨⟨A_, c_, hb, hcap, hr⟩, hg⟩ := h
  obtain ⟨cs, hp⟩ := hp
  exact ⟨⟨A_, c_, blk_far hb hne u, hcap, hr.step fun b cs' fr' _ _ hb' => (Below.heap_setCell W p u b (RowIn.unlike hp ht hb')).trans hb'⟩, hg⟩
theorem cellS35_0 {W : World} {g : Nat} {A_ : Option Addr} {c_ : Nat} {f0 : Int} {f1 : Int} {f2 : Int} {f3 : Int} {f4 : (List Int)} (h : W.heap[g]? = some (.cells #[.int .i64 f0, .int .i64 f1, .int .i64 f2, .int .i64 f3, .slice A_ (f4).length c_] 35 (0, 0))) : W.cell? ⟨g, 0, none⟩ = some (.int .i64 f0) := (blk_cell h 0).trans rfl
theorem IsS35.set_0 {w0 W : World} {g : Nat} {f0 : Int} {f1 : Int} {f2 : Int} {f3 : Int} {f4 : (List Int)} (h : IsS35 w0 W g f0 f1 f2 f3 f4) (x : Int) : IsS35 w0 (W.setCell ⟨g, 0, none⟩ (.int .i64 x)) g x f1 f2 f3 f4 := by
  obtain ⟨⟨A_, c_, hb, hcap, hr⟩, hg⟩ := h
  exact ⟨⟨A_, c_, by simpa using blk_set hb 0 (.int .i64 x), hcap, hr.set hb (by decide) _ _⟩, hg⟩
theorem cellS35_1 {W : World} {g : Nat} {A_ : Option Addr} {c_ : Nat} {f0 : Int} {f1 : Int} {f2 : Int} {f3 : Int} {f4 : (List Int)} (h : W.heap[g]? = some (.cells #[.int .i64 f0, .int .i64 f1, .int .i64 f2, .int .i64 f3, .slice A_ (f4).length c_] 35 (0, 0))) : W.cell? ⟨g, 1, none⟩ = some (.int .i64 f1) := (blk_cell h 1).trans rfl
theorem IsS35.set_1 {w0 W : World} {g : Nat} {f0 : Int} {f1 : Int} {f2 : Int} {f3 : Int} {f4 : (List Int)} (h : IsS35 w0 W g f0 f1 f2 f3 f4) (x : Int) : IsS35 w0 (W.setCell ⟨g, 1, none⟩ (.int .i64 x)) g f0 x f2 f3 f4 := by
  obtain ⟨⟨A_, c_, hb, hcap, hr⟩, hg⟩ := h
  exact ⟨⟨A_, c_, by simpa using blk_set hb 1 (.int .i64 x), hcap, hr.set hb (by decide) _ _⟩, hg⟩
theorem cellS35_2 {W : World} {g : Nat} {A_ : Option Addr} {c_ : Nat} {f0 : Int} {f1 : Int} {f2 : Int} {f3 : Int} {f4 : (List Int)} (h : W.heap[g]? = some (.cells #[.int .i64 f0, .int .i64 f1, .int .i64 f2, .int .i64 f3, .slice A_ (f4).length c_] 35 (0, 0))) : W.cell? ⟨g, 2, none⟩ = some (.int .i64 f2) := (blk_cell h 2).trans rfl
theorem IsS35.set_2 {w0 W : World} {g : Nat} {f0 : Int} {f1 : Int} {f2 : Int} {f3 : Int} {f4 : (List Int)} (h : IsS35 w0 W g f0 f1 f2 f3 f4) (x : Int) : IsS35 w0 (W.setCell ⟨g, 2, none⟩ (.int .i64 x)) g f0 f1 x f3 f4 := by
  obtain ⟨⟨A_, c_, hb, hcap, hr⟩, hg⟩ := h
  exact ⟨⟨A_, c_, by simpa using blk_set hb 2 (.int .i64 x), hcap, hr.set hb (by decide) _ _⟩, hg⟩
theorem cellS35_3 {W : World} {g : Nat} {A_ : Option Addr} {c_ : Nat} {f0 : Int} {f1 : Int} {f2 : Int} {f3 : Int} {f4 : (List Int)} (h : W.heap[g]? = some (.cells #[.int .i64 f0, .int .i64 f1, .int .i64 f2, .int .i64 f3, .slice A_ (f4).length c_] 35 (0, 0))) : W.cell? ⟨g, 3, none⟩ = some (.int .i64 f3) := (blk_cell h 3).trans rfl
theorem IsS35.set_3 {w0 W : World} {g : Nat} {f0 : Int} {f1 : Int} {f2 : Int} {f3 : Int} {f4 : (List Int)} (h : IsS35 w0 W g f0 f1 f2 f3 f4) (x : Int) : IsS35 w0 (W.setCell ⟨g, 3, none⟩ (.int .i64 x)) g f0 f1 f2 x f4 := by
  obtain ⟨⟨A_, c_, hb, hcap, hr⟩, hg⟩ := h
  exact ⟨⟨A_, c_, by simpa using blk_set hb 3 (.int .i64 x), hcap, hr.set hb (by decide) _ _⟩, hg⟩
theorem cellS35_4 {W : World} {g : Nat} {A_ : Option Addr} {c_ : Nat} {f0 : Int} {f1 : Int} {f2 : Int} {f3 : Int} {f4 : (List Int)} (h : W.heap[g]? = some (.cells #[.int .i64 f0, .int .i64 f1, .int .i64 f2, .int .i64 f3, .slice A_ (f4).length c_] 35 (0, 0))) : W.cell? ⟨g, 4, none⟩ = some (.slice A_ (f4).length c_) := (blk_cell h 4).trans rfl
theorem IsS35.set_4 {w0 W : World} {g : Nat} {f0 : Int} {f1 : Int} {f2 : Int} {f3 : Int} {f4 : (List Int)} (h : IsS35 w0 W g f0 f1 f2 f3 f4) : IsS35 w0 (W.setCell ⟨g, 4, none⟩ (.slice none 0 0)) g f0 f1 f2 f3 [] := by
  obtain ⟨⟨A_, c_, hb, hcap, hr⟩, hg⟩ := h
  exact ⟨⟨none, 0, by simpa using blk_set hb 4 (.slice none 0 0), by simp, RowIn.nil _ _ _⟩, hg⟩
theorem IsS35.put {w0 W : World} {g : Nat} {f0 : Int} {f1 : Int} {f2 : Int} {f3 : Int} {f4 : (List Int)} (h : IsS35 w0 W g f0 f1 f2 f3 f4) (l : List Int) (A : Option Addr) (c : Nat) (hc : l.length ≤ c) (hr : RowIn W w0.heap.size g A l) : IsS35 w0 (W.setCell ⟨g, 4, none⟩ (.slice A l.length c)) g f0 f1 f2 f3 l := by
  obtain ⟨⟨A_, c_, hb, hcap, _⟩, hg⟩ := h
  exact ⟨⟨A, c, by simpa using blk_set hb 4 (.slice A l.length c), hc, hr.set hb (by decide) _ _⟩, hg⟩

/-! ### cursor_Open: function 9 -/
def cursor_Open.f (l0 : List Int) (a1 : Int) : Option (Int × Int × Int × Int × (List Int)) := (slices_Clone_byte_byte.f l0).bind fun t107 => (some (mn (mx a1 0) 1099511627776, 0, 0, 0, t107))
set_option maxHeartbeats 8000000 in
set_option maxRecDepth 100000 in
theorem cursor_Open.calls (A0 : Option Addr) (c0 : Nat) (l0 : List Int) (a1 : Int) (r1 : Int) (r2 : Int) (r3 : Int) (r4 : Int) (r5 : (List Int)) (w0 w : World) (hB : Below w0.heap.size w0 w) (hr0 : Kd.C (Kd.int .u8) w A0 l0.length l0) (hc0 : l0.length ≤ c0) (h : cursor_Open.f l0 a1 = some (r1, r2, r3, r4, r5)) :
    Calls Try.prog 9 #[.slice A0 l0.length c0, .int .i64 a1] w fun e w' => ∃ g_ : Nat, e = .returned (.pointer (some ⟨g_, 0, none⟩)) ∧ IsS35 w0 w' g_ r1 r2 r3 r4 r5 ∧ Below w0.heap.size w0 w' ∧ Below w.heap.size w w' := by
  have hu33 := Try.underlying33
  have hu35 := Try.underlying35
  have HR0 := Aside0.mk hr0
  have HC0 := Aside0.mk hc0
  clear hr0 hc0
  have HBW := Aside0.mk (Below.refl w.heap.size w)
  have HW0 := Aside0.mk hB.size
  have HB := Aside0.mk hB
  clear hB
  have H : ((slices_Clone_byte_byte.f l0).bind fun t107 => (some (mn (mx a1 0) 1099511627776, 0, 0, 0, t107))) = some (r1, r2, r3, r4, r5) := h
  clear h
  obtain ⟨ji3, hji3⟩ : ∃ j_ : Int, (mx a1 0) = j_ := ⟨_, rfl⟩
  replace H : ((slices_Clone_byte_byte.f l0).bind fun t107 => (some (mn (ji3) 1099511627776, 0, 0, 0, t107))) = some (r1, r2, r3, r4, r5) := by first | (rw [hji3] at H; exact H) | (simp only [hji3] at H ⊢; exact H)
  (try (have hji3l : 0 ≤ ji3 := by (rw [← hji3]; unfold mx; (repeat' split) <;> omega)))
  (try (have hji3m : 0 ≤ ji3 := by omega))
  have hji3_ : (if a1 < 0 then 0 else a1) = ji3 := hji3
  obtain ⟨ji4, hji4⟩ : ∃ j_ : Int, (mn (ji3) 1099511627776) = j_ := ⟨_, rfl⟩
  replace H : ((slices_Clone_byte_byte.f l0).bind fun t107 => (some (ji4, 0, 0, 0, t107))) = some (r1, r2, r3, r4, r5) := by first | (rw [hji4] at H; exact H) | (simp only [hji4] at H ⊢; exact H)
  have hji4_ : (if 1099511627776 < (ji3) then 1099511627776 else (ji3)) = ji4 := hji4
  replace H := Option.bind_eq_some_iff.mp H
  obtain ⟨t107, A50, H⟩ := H
  replace H : (some (ji4, 0, 0, 0, t107)) = some (r1, r2, r3, r4, r5) := H
  have A5 := Aside0.mk A50
  clear A50
  simp only [Option.some.injEq, Prod.mk.injEq] at H
  obtain ⟨rfl, rfl, rfl, rfl, rfl⟩ := H
  go_enter Try.func9, Try.ntmps9
  go_wp2_with (first | ((with_reducible refine gate_callee (f := 31) rfl ?_); refine goesL_ (some 10) rfl rfl Try.func31 (by kernel_rfl) rfl #[.slice A0 l0.length c0] rfl (by (try simp only [List.map_toArray, List.map_cons, List.map_nil]); first | done | rfl | (simp only [List.length_drop, List.length_take]; rfl)) ?_; (with_reducible refine (slices_Clone_byte_byte.calls _ _ l0 t107 _ ?side1 ?side2 A5.out).mono ?_); (case side1 => repeat (first | exact HR0.out | (with_reducible refine Kd.C_alloc ?_ _) | (with_reducible refine Kd.C_drewN ?_ _) | (with_reducible refine Kd.C_drew ?_))); (case side2 => exact HC0.out); rintro e w6 ⟨v108, rfl, ho0, hb⟩; refine ⟨_, rfl, ?_⟩; have n0_ := Aside0.mk (Kd.R_lower ho0 (below_size (by repeat (first | (with_reducible first | exact HBW.out | apply below_alloc | apply pw_below_drewN | apply below_drew1) | exact HBW.out)))); have n1_ := Aside0.mk (below_step (by repeat (first | (with_reducible first | exact HB.out | apply below_alloc | apply pw_below_drewN | apply below_drew1) | exact HB.out)) hb); have nw_ := Aside0.mk (below_step HBW.out hb); clear HB; clear HBW; have HO109 := n0_; have HB := n1_; have HBW := nw_; clear n0_ n1_ nw_; (try clear hb); (try clear hb2); (try clear hk); (try clear hi); (try clear ho0); obtain ⟨Ao7, co7, eo7⟩ := Kd.R_slice HO109.out; subst eo7) | ((with_reducible refine gate_dst (N := 12) rfl ?_); refine box_event ?hg (N := 12) ?hd (cs := #[.int .i64 ji4, .int .i64 0, .int .i64 0, .int .i64 0, .slice Ao7 t107.length co7]) (t := 35) ?hr ?_; (case hd => rfl); (case hg => rfl); (case hr => first | (go_simp; done) | (go_simp; rfl)); intro gb110 hg w8 hbox hb; have HLTG := Aside0.mk (show ∀ k, (_ : Value).ownBlock = some k → k < gb110 from by rw [hg]; exact Kd.R_lt (by (with_reducible repeat (first | apply Kd.R_alloc | apply Kd.R_drewN | apply Kd.R_drew)); exact HO109.out)); have n0_ := Aside0.mk (Kd.R_below (by (with_reducible repeat (first | apply Kd.R_alloc | apply Kd.R_drewN | apply Kd.R_drew)); exact HO109.out) hb); have n1_ := Aside0.mk (below_step HBW.out hb); have n2_ := Aside0.mk (below_step (by repeat (first | (with_reducible first | exact HB.out | apply below_alloc | apply pw_below_drewN | apply below_drew1) | exact HB.out)) hb); have n3_ := Aside0.mk (hbox); have n4_ := Aside0.mk ((by rw [hg]; exact (below_size (by repeat (first | (with_reducible first | exact HBW.out | apply below_alloc | apply pw_below_drewN | apply below_drew1) | exact HBW.out))) : w.heap.size ≤ gb110)); have n5_ := Aside0.mk ((Nat.le_trans HW0.out (by rw [hg]; exact (below_size (by repeat (first | (with_reducible first | exact HBW.out | apply below_alloc | apply pw_below_drewN | apply below_drew1) | exact HBW.out))) : w.heap.size ≤ gb110) : w0.heap.size ≤ gb110)); clear HO109; clear HBW; clear HB; have HO109 := n0_; have HBW := n1_; have HB := n2_; have BK110 := n3_; have GW110 := n4_; have GE110 := n5_; clear n0_ n1_ n2_ n3_ n4_ n5_; clear hb hbox hg))
  go_ret
  exact ⟨_, rfl, (show IsS35 w0 _ gb110 ji4 0 0 0 t107 from ⟨⟨_, _, by (with_reducible repeat (first | refine blk_drewN ?_ _ | refine blk_drew ?_ | refine blk_alloc ?_ _)); exact BK110.out, (RowIn.of_R HO109.out HLTG.out HW0.out).2.1, (RowIn.of_R HO109.out HLTG.out HW0.out).2.2⟩, GE110.out⟩), by repeat (first | (with_reducible first | exact HB.out | apply below_alloc | apply pw_below_drewN | apply below_drew1 | refine below_set ?_ GE110.out) | exact HB.out), by repeat (first | (with_reducible first | exact HBW.out | apply below_alloc | apply pw_below_drewN | apply below_drew1 | refine below_set ?_ GW110.out) | exact HBW.out)⟩

/-! ### cursor_Cursor_Left: function 10 -/
def cursor_Cursor_Left.f (s0_0 : Int) (s0_1 : Int) (s0_2 : Int) (s0_3 : Int) (s0_4 : (List Int)) : Option (Int × Int × Int × Int × Int × (List Int)) := some ((s0_4.length : Int), s0_0, s0_1, s0_2, s0_3, s0_4)
set_option maxHeartbeats 8000000 in
set_option maxRecDepth 100000 in
theorem cursor_Cursor_Left.calls (g : Nat) (s0_0 : Int) (s0_1 : Int) (s0_2 : Int) (s0_3 : Int) (s0_4 : (List Int)) (r1 : Int) (r2 : Int) (r3 : Int) (r4 : Int) (r5 : Int) (r6 : (List Int)) (w0 w : World) (hI : IsS35 w0 w g s0_0 s0_1 s0_2 s0_3 s0_4) (hB : Below w0.heap.size w0 w) (h : cursor_Cursor_Left.f s0_0 s0_1 s0_2 s0_3 s0_4 = some (r1, r2, r3, r4, r5, r6)) :
    Calls Try.prog 10 #[.pointer (some ⟨g, 0, none⟩)] w fun e w' => e = .returned (.int .i64 r1) ∧ IsS35 w0 w' g r2 r3 r4 r5 r6 ∧ Below w0.heap.size w0 w' ∧ KeepBut w w' g none := by
  have HI0 := Aside0.mk hI
  have HK := Aside0.mk (KeepBut.refl w g none)
  have HL := Aside0.mk hB.size
  clear hI
  have HW0 := Aside0.mk hB.size
  have HB := Aside0.mk hB
  clear hB
  have H : (some ((s0_4.length : Int), s0_0, s0_1, s0_2, s0_3, s0_4)) = some (r1, r2, r3, r4, r5, r6) := h
  clear h
  simp only [Option.some.injEq, Prod.mk.injEq] at H
  obtain ⟨rfl, rfl, rfl, rfl, rfl, rfl⟩ := H
  obtain ⟨⟨A_, c_, HGz2, hcapz2, HRz2⟩, hgz2⟩ := HI0.out
  have HCz2 := HRz2.1
  have hcz2_0 := cellS35_0 HGz2
  have hcz2_1 := cellS35_1 HGz2
  have hcz2_2 := cellS35_2 HGz2
  have hcz2_3 := cellS35_3 HGz2
  have hcz2_4 := cellS35_4 HGz2
  have hfz2_0 := blk_frozen HGz2 0
  have hfz2_1 := blk_frozen HGz2 1
  have hfz2_2 := blk_frozen HGz2 2
  have hfz2_3 := blk_frozen HGz2 3
  have hfz2_4 := blk_frozen HGz2 4
  clear HGz2 hgz2
  go_enter Try.func10, Try.ntmps10
  go_wp2
  go_ret
  exact ⟨by first | rfl | (simp [errW_none, errW_some] <;> rfl) | (simp [*, errW_none, errW_some] <;> rfl), by repeat (first | (with_reducible first | exact HI0.out | apply IsS35.alloc | apply IsS35.drewN | apply IsS35.drew | apply IsS35.set_0 | apply IsS35.set_1 | apply IsS35.set_2 | apply IsS35.set_3 | apply IsS35.set_4) | exact HI0.out), by repeat (first | (with_reducible first | exact HB.out | apply below_alloc | apply pw_below_drewN | apply below_drew1 | refine below_set ?_ (IsS35.ge HI0.out)) | exact HB.out), by repeat (first | (with_reducible first | exact HK.out | apply KeepBut.set_ | apply keep_drewN | apply keep_drew | apply keep_alloc) | exact HK.out)⟩

/-! ### cursor_place_At: function 12 -/
def cursor_place_At.f (s0_0 : Int) (s0_1 : Int) (s0_2 : Int) (s0_3 : Int) (s0_4 : (List Int)) : Option (Int × Int × Int × Int × Int × (List Int)) := some (s0_0, s0_0, s0_1, s0_2, s0_3, s0_4)
set_option maxHeartbeats 8000000 in
set_option maxRecDepth 100000 in
theorem cursor_place_At.calls (g : Nat) (s0_0 : Int) (s0_1 : Int) (s0_2 : Int) (s0_3 : Int) (s0_4 : (List Int)) (r1 : Int) (r2 : Int) (r3 : Int) (r4 : Int) (r5 : Int) (r6 : (List Int)) (w0 w : World) (hI : IsS35 w0 w g s0_0 s0_1 s0_2 s0_3 s0_4) (hB : Below w0.heap.size w0 w) (h : cursor_place_At.f s0_0 s0_1 s0_2 s0_3 s0_4 = some (r1, r2, r3, r4, r5, r6)) :
    Calls Try.prog 12 #[.pointer (some ⟨g, 0, none⟩)] w fun e w' => e = .returned (.int .i64 r1) ∧ IsS35 w0 w' g r2 r3 r4 r5 r6 ∧ Below w0.heap.size w0 w' ∧ KeepBut w w' g none := by
  have HI0 := Aside0.mk hI
  have HK := Aside0.mk (KeepBut.refl w g none)
  have HL := Aside0.mk hB.size
  clear hI
  have HW0 := Aside0.mk hB.size
  have HB := Aside0.mk hB
  clear hB
  have H : (some (s0_0, s0_0, s0_1, s0_2, s0_3, s0_4)) = some (r1, r2, r3, r4, r5, r6) := h
  clear h
  simp only [Option.some.injEq, Prod.mk.injEq] at H
  obtain ⟨rfl, rfl, rfl, rfl, rfl, rfl⟩ := H
  obtain ⟨⟨A_, c_, HGz2, hcapz2, HRz2⟩, hgz2⟩ := HI0.out
  have HCz2 := HRz2.1
  have hcz2_0 := cellS35_0 HGz2
  have hcz2_1 := cellS35_1 HGz2
  have hcz2_2 := cellS35_2 HGz2
  have hcz2_3 := cellS35_3 HGz2
  have hcz2_4 := cellS35_4 HGz2
  have hfz2_0 := blk_frozen HGz2 0
  have hfz2_1 := blk_frozen HGz2 1
  have hfz2_2 := blk_frozen HGz2 2
  have hfz2_3 := blk_frozen HGz2 3
  have hfz2_4 := blk_frozen HGz2 4
  clear HGz2 hgz2
  go_enter Try.func12, Try.ntmps12
  go_wp2
  go_ret
  exact ⟨by first | rfl | (simp [errW_none, errW_some] <;> rfl) | (simp [*, errW_none, errW_some] <;> rfl), by repeat (first | (with_reducible first | exact HI0.out | apply IsS35.alloc | apply IsS35.drewN | apply IsS35.drew | apply IsS35.set_0 | apply IsS35.set_1 | apply IsS35.set_2 | apply IsS35.set_3 | apply IsS35.set_4) | exact HI0.out), by repeat (first | (with_reducible first | exact HB.out | apply below_alloc | apply pw_below_drewN | apply below_drew1 | refine below_set ?_ (IsS35.ge HI0.out)) | exact HB.out), by repeat (first | (with_reducible first | exact HK.out | apply KeepBut.set_ | apply keep_drewN | apply keep_drew | apply keep_alloc) | exact HK.out)⟩

/-! ### cursor_place_Fault: function 13 -/
def cursor_place_Fault.f (s0_0 : Int) (s0_1 : Int) (s0_2 : Int) (s0_3 : Int) (s0_4 : (List Int)) : Option (Int × Int × Int × Int × Int × Int × Int × (List Int)) := some (s0_1, s0_2, s0_3, s0_0, s0_1, s0_2, s0_3, s0_4)
set_option maxHeartbeats 8000000 in
set_option maxRecDepth 100000 in
theorem cursor_place_Fault.calls (g : Nat) (s0_0 : Int) (s0_1 : Int) (s0_2 : Int) (s0_3 : Int) (s0_4 : (List Int)) (r1 : Int) (r2 : Int) (r3 : Int) (r4 : Int) (r5 : Int) (r6 : Int) (r7 : Int) (r8 : (List Int)) (w0 w : World) (hI : IsS35 w0 w g s0_0 s0_1 s0_2 s0_3 s0_4) (hB : Below w0.heap.size w0 w) (h : cursor_place_Fault.f s0_0 s0_1 s0_2 s0_3 s0_4 = some (r1, r2, r3, r4, r5, r6, r7, r8)) :
    Calls Try.prog 13 #[.pointer (some ⟨g, 0, none⟩)] w fun e w' => e = .returned (.agg #[.int .i64 r1, .int .i64 r2, .int .i64 r3]) ∧ IsS35 w0 w' g r4 r5 r6 r7 r8 ∧ Below w0.heap.size w0 w' ∧ KeepBut w w' g none := by
  have hu31 := Try.underlying31
  have HI0 := Aside0.mk hI
  have HK := Aside0.mk (KeepBut.refl w g none)
  have HL := Aside0.mk hB.size
  clear hI
  have HW0 := Aside0.mk hB.size
  have HB := Aside0.mk hB
  clear hB
  have H : (some (s0_1, s0_2, s0_3, s0_0, s0_1, s0_2, s0_3, s0_4)) = some (r1, r2, r3, r4, r5, r6, r7, r8) := h
  clear h
  simp only [Option.some.injEq, Prod.mk.injEq] at H
  obtain ⟨rfl, rfl, rfl, rfl, rfl, rfl, rfl, rfl⟩ := H
  go_enter Try.func13, Try.ntmps13
  go_wp2_with (first | ((with_reducible refine gate_dst (N := 2) rfl ?_); refine box_event ?hg (N := 2) ?hd (cs := #[.int .i64 0, .int .i64 0, .int .i64 0]) (t := 31) ?hr ?_; (case hd => rfl); (case hg => rfl); (case hr => first | (go_simp; done) | (go_simp; rfl)); intro gb111 hg w2 hbox hb; have n0_ := Aside0.mk (IsS35.below (by repeat (first | (with_reducible first | exact HI0.out | apply IsS35.alloc | apply IsS35.drewN | apply IsS35.drew | apply IsS35.set_0 | apply IsS35.set_1 | apply IsS35.set_2 | apply IsS35.set_3 | apply IsS35.set_4) | exact HI0.out)) hb); have n1_ := Aside0.mk (KeepBut.trans (by repeat (first | (with_reducible first | exact HK.out | apply KeepBut.set_ | apply keep_drewN | apply keep_drew | apply keep_alloc) | exact HK.out)) (KeepBut.of_below hb g none) (.inl rfl)); have n2_ := Aside0.mk (below_step (by repeat (first | (with_reducible first | exact HB.out | apply below_alloc | apply pw_below_drewN | apply below_drew1 | refine below_set ?_ (IsS35.ge HI0.out)) | exact HB.out)) hb); have n3_ := Aside0.mk (hbox); have n4_ := Aside0.mk ((by rw [hg]; exact (keep_size (w := w) (g := g) (row := none) (by repeat (first | (with_reducible first | exact HK.out | apply KeepBut.set_ | apply keep_drewN | apply keep_drew | apply keep_alloc) | exact HK.out))) : w.heap.size ≤ gb111)); have n5_ := Aside0.mk ((Nat.le_trans HW0.out (by rw [hg]; exact (keep_size (w := w) (g := g) (row := none) (by repeat (first | (with_reducible first | exact HK.out | apply KeepBut.set_ | apply keep_drewN | apply keep_drew | apply keep_alloc) | exact HK.out))) : w.heap.size ≤ gb111) : w0.heap.size ≤ gb111)); have n6_ := Aside0.mk ((by rw [hg]; exact Nat.ne_of_lt (IsS35.lt (show IsS35 w0 _ g s0_0 s0_1 s0_2 s0_3 s0_4 from by repeat (first | (with_reducible first | exact HI0.out | apply IsS35.alloc | apply IsS35.drewN | apply IsS35.drew | apply IsS35.set_0 | apply IsS35.set_1 | apply IsS35.set_2 | apply IsS35.set_3 | apply IsS35.set_4) | exact HI0.out))) : g ≠ gb111)); have n7_ := Aside0.mk ((by rw [hg]; exact Nat.ne_of_gt (IsS35.lt (show IsS35 w0 _ g s0_0 s0_1 s0_2 s0_3 s0_4 from by repeat (first | (with_reducible first | exact HI0.out | apply IsS35.alloc | apply IsS35.drewN | apply IsS35.drew | apply IsS35.set_0 | apply IsS35.set_1 | apply IsS35.set_2 | apply IsS35.set_3 | apply IsS35.set_4) | exact HI0.out))) : gb111 ≠ g)); clear HI0; clear HK; clear HB; have HI0 := n0_; have HK := n1_; have HB := n2_; have BK111 := n3_; have GW111 := n4_; have GE111 := n5_; have NB0_111 := n6_; have NB111_0 := n7_; clear n0_ n1_ n2_ n3_ n4_ n5_ n6_ n7_; clear hb hbox hg; obtain ⟨⟨A_, c_, HGz3, hcapz3, HRz3⟩, hgz3⟩ := HI0.out; have HCz3 := HRz3.1; have hcz3_0 := cellS35_0 HGz3; have hcz3_1 := cellS35_1 HGz3; have hcz3_2 := cellS35_2 HGz3; have hcz3_3 := cellS35_3 HGz3; have hcz3_4 := cellS35_4 HGz3; have hfz3_0 := blk_frozen HGz3 0; have hfz3_1 := blk_frozen HGz3 1; have hfz3_2 := blk_frozen HGz3 2; have hfz3_3 := blk_frozen HGz3 3; have hfz3_4 := blk_frozen HGz3 4; clear HGz3 hgz3; have hnb4 := NB111_0.out; have hnc4 := NB0_111.out; have hcz5_0 : w2.cell? ⟨gb111, 0, none⟩ = some (.int .i64 0) := (blk_cell BK111.out 0).trans rfl; have hcz5_1 : w2.cell? ⟨gb111, 1, none⟩ = some (.int .i64 0) := (blk_cell BK111.out 1).trans rfl; have hcz5_2 : w2.cell? ⟨gb111, 2, none⟩ = some (.int .i64 0) := (blk_cell BK111.out 2).trans rfl; have hfz5_0 := blk_frozen BK111.out 0; have hfz5_1 := blk_frozen BK111.out 1; have hfz5_2 := blk_frozen BK111.out 2))
  refine bodyPost_ret (results_cell_row rfl _ _ gb111 31 #[.int .i64 s0_1, .int .i64 s0_2, .int .i64 s0_3] (0, 0) _ rfl (by (with_reducible repeat (first | refine blk_drewN ?_ _ | refine blk_drew ?_ | refine blk_alloc ?_ _)); refine blk_put (cs := #[.int .i64 s0_1, .int .i64 s0_2, .int .i64 0]) ?_ 2 _ rfl; (with_reducible repeat (first | refine blk_drewN ?_ _ | refine blk_drew ?_ | refine blk_alloc ?_ _)); refine blk_put (cs := #[.int .i64 s0_1, .int .i64 0, .int .i64 0]) ?_ 1 _ rfl; (with_reducible repeat (first | refine blk_drewN ?_ _ | refine blk_drew ?_ | refine blk_alloc ?_ _)); refine blk_put (cs := #[.int .i64 0, .int .i64 0, .int .i64 0]) ?_ 0 _ rfl; (with_reducible repeat (first | refine blk_drewN ?_ _ | refine blk_drew ?_ | refine blk_alloc ?_ _)); exact BK111.out) Try.underlying31 rfl (by kernel_rfl)) rfl ?_
  exact ⟨by first | rfl | (simp [errW_none, errW_some] <;> rfl) | (simp [*, errW_none, errW_some] <;> rfl), by repeat (first | (with_reducible first | exact HI0.out | apply IsS35.alloc | apply IsS35.drewN | apply IsS35.drew | apply IsS35.set_0 | apply IsS35.set_1 | apply IsS35.set_2 | apply IsS35.set_3 | apply IsS35.set_4 | refine IsS35.far ?_ NB0_111.out (by repeat (first | exact TypeAt.mk BK111.out | apply TypeAt.set | apply TypeAt.alloc | apply TypeAt.drewN | apply TypeAt.drew)) (by decide) _) | exact HI0.out), by repeat (first | (with_reducible first | exact HB.out | apply below_alloc | apply pw_below_drewN | apply below_drew1 | refine below_set ?_ (IsS35.ge HI0.out) | refine below_set ?_ GE111.out) | exact HB.out), by repeat (first | (with_reducible first | exact HK.out | apply KeepBut.set_ | apply keep_drewN | apply keep_drew | apply keep_alloc | refine keep_far ?_ GW111.out _) | exact HK.out)⟩

/-! ### cursor_place_note: function 37 -/
def cursor_place_note.f (s0_0 : Int) (s0_1 : Int) (s0_2 : Int) (s0_3 : Int) (s0_4 : (List Int)) (a1 : Int) : Option (Int × Int × Int × Int × (List Int)) := if s0_1 = 0 then (some (s0_0, a1, 0, s0_0, s0_4)) else (some (s0_0, s0_1, s0_2, s0_3, s0_4))
set_option maxHeartbeats 8000000 in
set_option maxRecDepth 100000 in
theorem cursor_place_note.calls (g : Nat) (s0_0 : Int) (s0_1 : Int) (s0_2 : Int) (s0_3 : Int) (s0_4 : (List Int)) (a1 : Int) (r1 : Int) (r2 : Int) (r3 : Int) (r4 : Int) (r5 : (List Int)) (w0 w : World) (hI : IsS35 w0 w g s0_0 s0_1 s0_2 s0_3 s0_4) (hB : Below w0.heap.size w0 w) (h : cursor_place_note.f s0_0 s0_1 s0_2 s0_3 s0_4 a1 = some (r1, r2, r3, r4, r5)) :
    Calls Try.prog 37 #[.pointer (some ⟨g, 0, none⟩), .int .i64 a1] w fun e w' => e = .returned (.tuple #[]) ∧ IsS35 w0 w' g r1 r2 r3 r4 r5 ∧ Below w0.heap.size w0 w' ∧ KeepBut w w' g none := by
  have hu31 := Try.underlying31
  have HI0 := Aside0.mk hI
  have HK := Aside0.mk (KeepBut.refl w g none)
  have HL := Aside0.mk hB.size
  clear hI
  have HW0 := Aside0.mk hB.size
  have HB := Aside0.mk hB
  clear hB
  have H : (if s0_1 = 0 then (some (s0_0, a1, 0, s0_0, s0_4)) else (some (s0_0, s0_1, s0_2, s0_3, s0_4))) = some (r1, r2, r3, r4, r5) := h
  clear h
  by_cases c3 : s0_1 = 0
  · rw [if_pos c3] at H
    have c3b0 : (s0_1 == 0) = true := beq_iff_eq.mpr c3
    have c3b1 : (s0_1 != 0) = false := bne_eq_false_iff_eq.mpr c3
    clear c3
    simp only [Option.some.injEq, Prod.mk.injEq] at H
    obtain ⟨rfl, rfl, rfl, rfl, rfl⟩ := H
    obtain ⟨⟨A_, c_, HGz4, hcapz4, HRz4⟩, hgz4⟩ := HI0.out
    have HCz4 := HRz4.1
    have hcz4_0 := cellS35_0 HGz4
    have hcz4_1 := cellS35_1 HGz4
    have hcz4_2 := cellS35_2 HGz4
    have hcz4_3 := cellS35_3 HGz4
    have hcz4_4 := cellS35_4 HGz4
    have hfz4_0 := blk_frozen HGz4 0
    have hfz4_1 := blk_frozen HGz4 1
    have hfz4_2 := blk_frozen HGz4 2
    have hfz4_3 := blk_frozen HGz4 3
    have hfz4_4 := blk_frozen HGz4 4
    clear HGz4 hgz4
    go_enter Try.func37, Try.ntmps37
    go_wp2
    first | go_end0 | ((try simp only [Exit.inBlock, Exit.then]); refine bodyPost_ret (results_none rfl _ _ _) rfl ?_)
    exact ⟨by first | rfl | (simp [errW_none, errW_some] <;> rfl) | (simp [*, errW_none, errW_some] <;> rfl), by repeat (first | (with_reducible first | exact HI0.out | apply IsS35.alloc | apply IsS35.drewN | apply IsS35.drew | apply IsS35.set_0 | apply IsS35.set_1 | apply IsS35.set_2 | apply IsS35.set_3 | apply IsS35.set_4) | exact HI0.out), by repeat (first | (with_reducible first | exact HB.out | apply below_alloc | apply pw_below_drewN | apply below_drew1 | refine below_set ?_ (IsS35.ge HI0.out)) | exact HB.out), by repeat (first | (with_reducible first | exact HK.out | apply KeepBut.set_ | apply keep_drewN | apply keep_drew | apply keep_alloc) | exact HK.out)⟩
  · rw [if_neg c3] at H
    have c3b0 : (s0_1 == 0) = false := beq_eq_false_iff_ne.mpr c3
    have c3b1 : (s0_1 != 0) = true := bne_iff_ne.mpr c3
    simp only [Option.some.injEq, Prod.mk.injEq] at H
    obtain ⟨rfl, rfl, rfl, rfl, rfl⟩ := H
    obtain ⟨⟨A_, c_, HGz5, hcapz5, HRz5⟩, hgz5⟩ := HI0.out
    have HCz5 := HRz5.1
    have hcz5_0 := cellS35_0 HGz5
    have hcz5_1 := cellS35_1 HGz5
    have hcz5_2 := cellS35_2 HGz5
    have hcz5_3 := cellS35_3 HGz5
    have hcz5_4 := cellS35_4 HGz5
    have hfz5_0 := blk_frozen HGz5 0
    have hfz5_1 := blk_frozen HGz5 1
    have hfz5_2 := blk_frozen HGz5 2
    have hfz5_3 := blk_frozen HGz5 3
    have hfz5_4 := blk_frozen HGz5 4
    clear HGz5 hgz5
    go_enter Try.func37, Try.ntmps37
    go_wp2
    first | go_end0 | ((try simp only [Exit.inBlock, Exit.then]); refine bodyPost_ret (results_none rfl _ _ _) rfl ?_)
    exact ⟨by first | rfl | (simp [errW_none, errW_some] <;> rfl) | (simp [*, errW_none, errW_some] <;> rfl), by repeat (first | (with_reducible first | exact HI0.out | apply IsS35.alloc | apply IsS35.drewN | apply IsS35.drew | apply IsS35.set_0 | apply IsS35.set_1 | apply IsS35.set_2 | apply IsS35.set_3 | apply IsS35.set_4) | exact HI0.out), by repeat (first | (with_reducible first | exact HB.out | apply below_alloc | apply pw_below_drewN | apply below_drew1 | refine below_set ?_ (IsS35.ge HI0.out)) | exact HB.out), by repeat (first | (with_reducible first | exact HK.out | apply KeepBut.set_ | apply keep_drewN | apply keep_drew | apply keep_alloc) | exact HK.out)⟩

/-! ### cursor_Cursor_Fail: function 22 -/
def cursor_Cursor_Fail.f (s0_0 : Int) (s0_1 : Int) (s0_2 : Int) (s0_3 : Int) (s0_4 : (List Int)) (a1 : Int) : Option (Int × Int × Int × Int × (List Int)) := if a1 = 0 then (some (s0_0, s0_1, s0_2, s0_3, s0_4)) else ((cursor_place_note.f s0_0 s0_1 s0_2 s0_3 s0_4 a1).bind fun bt112 => (some (bt112.1, bt112.2.1, bt112.2.2.1, bt112.2.2.2.1, ([] : (List Int)))))
set_option maxHeartbeats 8000000 in
set_option maxRecDepth 100000 in
theorem cursor_Cursor_Fail.calls (g : Nat) (s0_0 : Int) (s0_1 : Int) (s0_2 : Int) (s0_3 : Int) (s0_4 : (List Int)) (a1 : Int) (r1 : Int) (r2 : Int) (r3 : Int) (r4 : Int) (r5 : (List Int)) (w0 w : World) (hI : IsS35 w0 w g s0_0 s0_1 s0_2 s0_3 s0_4) (hB : Below w0.heap.size w0 w) (h : cursor_Cursor_Fail.f s0_0 s0_1 s0_2 s0_3 s0_4 a1 = some (r1, r2, r3, r4, r5)) :
    Calls Try.prog 22 #[.pointer (some ⟨g, 0, none⟩), .int .i64 a1] w fun e w' => e = .returned (.tuple #[]) ∧ IsS35 w0 w' g r1 r2 r3 r4 r5 ∧ Below w0.heap.size w0 w' ∧ KeepBut w w' g none := by
  have HI0 := Aside0.mk hI
  have HK := Aside0.mk (KeepBut.refl w g none)
  have HL := Aside0.mk hB.size
  clear hI
  have HW0 := Aside0.mk hB.size
  have HB := Aside0.mk hB
  clear hB
  have H : (if a1 = 0 then (some (s0_0, s0_1, s0_2, s0_3, s0_4)) else ((cursor_place_note.f s0_0 s0_1 s0_2 s0_3 s0_4 a1).bind fun bt112 => (some (bt112.1, bt112.2.1, bt112.2.2.1, bt112.2.2.2.1, ([] : (List Int)))))) = some (r1, r2, r3, r4, r5) := h
  clear h
  by_cases c3 : a1 = 0
  · rw [if_pos c3] at H
    have c3b0 : (a1 == 0) = true := beq_iff_eq.mpr c3
    have c3b1 : (a1 != 0) = false := bne_eq_false_iff_eq.mpr c3
    clear c3
    simp only [Option.some.injEq, Prod.mk.injEq] at H
    obtain ⟨rfl, rfl, rfl, rfl, rfl⟩ := H
    go_enter Try.func22, Try.ntmps22
    go_wp2
    first | go_end0 | ((try simp only [Exit.inBlock, Exit.then]); refine bodyPost_ret (results_none rfl _ _ _) rfl ?_)
    exact ⟨by first | rfl | (simp [errW_none, errW_some] <;> rfl) | (simp [*, errW_none, errW_some] <;> rfl), by repeat (first | (with_reducible first | exact HI0.out | apply IsS35.alloc | apply IsS35.drewN | apply IsS35.drew | apply IsS35.set_0 | apply IsS35.set_1 | apply IsS35.set_2 | apply IsS35.set_3 | apply IsS35.set_4) | exact HI0.out), by repeat (first | (with_reducible first | exact HB.out | apply below_alloc | apply pw_below_drewN | apply below_drew1 | refine below_set ?_ (IsS35.ge HI0.out)) | exact HB.out), by repeat (first | (with_reducible first | exact HK.out | apply KeepBut.set_ | apply keep_drewN | apply keep_drew | apply keep_alloc) | exact HK.out)⟩
  · rw [if_neg c3] at H
    have c3b0 : (a1 == 0) = false := beq_eq_false_iff_ne.mpr c3
    have c3b1 : (a1 != 0) = true := bne_iff_ne.mpr c3
    replace H := Option.bind_eq_some_iff.mp H
    obtain ⟨⟨t112, t113, t114, t115, t116⟩, A40, H⟩ := H
    replace H : (some (t112, t113, t114, t115, ([] : (List Int)))) = some (r1, r2, r3, r4, r5) := H
    have A4 := Aside0.mk A40
    clear A40
    simp only [Option.some.injEq, Prod.mk.injEq] at H
    obtain ⟨rfl, rfl, rfl, rfl, rfl⟩ := H
    go_enter Try.func22, Try.ntmps22
    go_wp2_with (first | ((with_reducible refine gate_callee (f := 37) rfl ?_); refine goesL_ (some 10) rfl rfl Try.func37 (by kernel_rfl) rfl #[.pointer (some ⟨g, 0, none⟩), .int .i64 a1] rfl (by (try simp only [List.map_toArray, List.map_cons, List.map_nil]); first | done | rfl | (simp only [List.length_drop, List.length_take]; rfl)) ?_; (with_reducible refine (cursor_place_note.calls g s0_0 s0_1 s0_2 s0_3 s0_4 a1 t112 t113 t114 t115 t116 w0 _ ?side1 ?side2 A4.out).mono ?_); (case side1 => repeat (first | (with_reducible first | exact HI0.out | apply IsS35.alloc | apply IsS35.drewN | apply IsS35.drew | apply IsS35.set_0 | apply IsS35.set_1 | apply IsS35.set_2 | apply IsS35.set_3 | apply IsS35.set_4) | exact HI0.out)); (case side2 => repeat (first | (with_reducible first | exact HB.out | apply below_alloc | apply pw_below_drewN | apply below_drew1 | refine below_set ?_ (IsS35.ge HI0.out)) | exact HB.out)); rintro e w5 ⟨rfl, hi, hb, hk⟩; refine ⟨_, rfl, ?_⟩; have n0_ := Aside0.mk (KeepBut.trans (by repeat (first | (with_reducible first | exact HK.out | apply KeepBut.set_ | apply keep_drewN | apply keep_drew | apply keep_alloc) | exact HK.out)) hk (.inl rfl)); have n1_ := Aside0.mk (hb); have n2_ := Aside0.mk (hi); clear HK; clear HB; clear HI0; have HK := n0_; have HB := n1_; have HI0 := n2_; clear n0_ n1_ n2_; (try clear hb); (try clear hb2); (try clear hk); (try clear hi); obtain ⟨⟨A_, c_, HGz6, hcapz6, HRz6⟩, hgz6⟩ := HI0.out; have HCz6 := HRz6.1; have hcz6_0 := cellS35_0 HGz6; have hcz6_1 := cellS35_1 HGz6; have hcz6_2 := cellS35_2 HGz6; have hcz6_3 := cellS35_3 HGz6; have hcz6_4 := cellS35_4 HGz6; have hfz6_0 := blk_frozen HGz6 0; have hfz6_1 := blk_frozen HGz6 1; have hfz6_2 := blk_frozen HGz6 2; have hfz6_3 := blk_frozen HGz6 3; have hfz6_4 := blk_frozen HGz6 4; clear HGz6 hgz6))
    first | go_end0 | ((try simp only [Exit.inBlock, Exit.then]); refine bodyPost_ret (results_none rfl _ _ _) rfl ?_)
    exact ⟨by first | rfl | (simp [errW_none, errW_some] <;> rfl) | (simp [*, errW_none, errW_some] <;> rfl), by repeat (first | (with_reducible first | exact HI0.out | apply IsS35.alloc | apply IsS35.drewN | apply IsS35.drew | apply IsS35.set_0 | apply IsS35.set_1 | apply IsS35.set_2 | apply IsS35.set_3 | apply IsS35.set_4) | exact HI0.out), by repeat (first | (with_reducible first | exact HB.out | apply below_alloc | apply pw_below_drewN | apply below_drew1 | refine below_set ?_ (IsS35.ge HI0.out)) | exact HB.out), by repeat (first | (with_reducible first | exact HK.out | apply KeepBut.set_ | apply keep_drewN | apply keep_drew | apply keep_alloc) | exact HK.out)⟩

/-! ### cursor_Cursor_Take: function 11 -/
def cursor_Cursor_Take.f (s0_0 s0_1 s0_2 s0_3 : Int) (s0_4 : List Int) (a1 : Int) : Option (List Int × Int × Int × Int × Int × List Int) :=
  if a1 < 0 ∨ (s0_4.length : Int) < a1 then (cursor_Cursor_Fail.f s0_0 s0_1 s0_2 s0_3 s0_4 2).bind fun b => some ([], b.1, b.2.1, b.2.2.1, b.2.2.2.1, b.2.2.2.2)
  else (slices_Clone_byte_byte.f (s0_4.take a1.toNat)).bind fun t => some (t, wrap64 (s0_0 + a1), s0_1, s0_2, s0_3, s0_4.drop a1.toNat)
set_option maxHeartbeats 8000000 in
set_option maxRecDepth 100000 in
theorem cursor_Cursor_Take.calls (g : Nat) (s0_0 s0_1 s0_2 s0_3 : Int) (s0_4 : List Int) (a1 : Int) (r1 : List Int) (r2 r3 r4 r5 : Int) (r6 : List Int) (w0 w : World) (hI : IsS35 w0 w g s0_0 s0_1 s0_2 s0_3 s0_4) (hB : Below w0.heap.size w0 w) (h : cursor_Cursor_Take.f s0_0 s0_1 s0_2 s0_3 s0_4 a1 = some (r1, r2, r3, r4, r5, r6)) :
    Calls Try.prog 11 #[.pointer (some ⟨g, 0, none⟩), .int .i64 a1] w fun e w' => ∃ v0_ : Value, e = .returned (v0_) ∧ Kd.R (Kd.int .u8) 5 w' w.heap.size (fun _ => True) v0_ r1 ∧ IsS35 w0 w' g r2 r3 r4 r5 r6 ∧ Below w0.heap.size w0 w' ∧ KeepBut w w' g none := by
  unfold cursor_Cursor_Take.f at h
  obtain ⟨⟨A_, c_, HG, hcap, HR⟩, hg⟩ := hI
  have hcz_0 := cellS35_0 HG
  have hcz_4 := cellS35_4 HG
  have hfz_0 := blk_frozen HG 0
  have hfz_4 := blk_frozen HG 4
  have hI : Aside0 (IsS35 w0 w g s0_0 s0_1 s0_2 s0_3 s0_4) := ⟨⟨⟨A_, c_, HG, hcap, HR⟩, hg⟩⟩
  have HB := Aside0.mk hB
  by_cases c : a1 < 0 ∨ (s0_4.length : Int) < a1
  · rw [if_pos c] at h
    obtain ⟨⟨t1, t2, t3, t4, t5⟩, hF, h⟩ := Option.bind_eq_some_iff.mp h
    simp only [Option.some.injEq, Prod.mk.injEq] at h
    obtain ⟨rfl, rfl, rfl, rfl, rfl, rfl⟩ := h
    have HF := Aside0.mk hF
    clear hF
    by_cases c1 : a1 < 0
    · have c1b : decide (a1 < 0) = true := decide_eq_true c1
      clear c c1 HG HR hg hcap
      go_enter Try.func11, Try.ntmps11
      go_wp2_with (first | ((with_reducible refine gate_callee (f := 22) rfl ?_); refine goesL_ (some 18) rfl rfl Try.func22 (by kernel_rfl) rfl #[.pointer (some ⟨g, 0, none⟩), .int .i64 2] rfl (by (try simp only [List.map_toArray, List.map_cons, List.map_nil]); first | done | rfl) ?_; refine (cursor_Cursor_Fail.calls g s0_0 s0_1 s0_2 s0_3 s0_4 2 t1 t2 t3 t4 t5 w0 _ hI.out HB.out HF.out).mono ?_; rintro e w3 ⟨rfl, hJ, hB, hK⟩; refine ⟨_, rfl, ?_⟩))
      go_ret
      exact ⟨_, rfl, Kd.R_nil _ _ _ _ _, hJ, hB, hK⟩
    · have c1b : decide (a1 < 0) = false := decide_eq_false c1
      have c2b : decide (((s0_4.length : Nat) : Int) < a1) = true := decide_eq_true (by omega)
      clear c c1 HG HR hg hcap
      go_enter Try.func11, Try.ntmps11
      go_wp2_with (first | ((with_reducible refine gate_callee (f := 22) rfl ?_); refine goesL_ (some 18) rfl rfl Try.func22 (by kernel_rfl) rfl #[.pointer (some ⟨g, 0, none⟩), .int .i64 2] rfl (by (try simp only [List.map_toArray, List.map_cons, List.map_nil]); first | done | rfl) ?_; refine (cursor_Cursor_Fail.calls g s0_0 s0_1 s0_2 s0_3 s0_4 2 t1 t2 t3 t4 t5 w0 _ hI.out HB.out HF.out).mono ?_; rintro e w3 ⟨rfl, hJ, hB, hK⟩; refine ⟨_, rfl, ?_⟩))
      go_ret
      exact ⟨_, rfl, Kd.R_nil _ _ _ _ _, hJ, hB, hK⟩
  · rw [if_neg c] at h
    obtain ⟨t, hF, h⟩ := Option.bind_eq_some_iff.mp h
    simp only [Option.some.injEq, Prod.mk.injEq] at h
    obtain ⟨rfl, rfl, rfl, rfl, rfl, rfl⟩ := h
    have c1b : decide (a1 < 0) = false := decide_eq_false (by omega)
    have c2b : decide (((s0_4.length : Nat) : Int) < a1) = false := decide_eq_false (by omega)
    have q0 : 0 ≤ a1 := by omega
    have q1 : a1.toNat ≤ s0_4.length := by omega
    have q2 : a1 ≤ (c_ : Int) := by omega
    have q3 : a1 ≤ ((s0_4.length : Nat) : Int) := by omega
    have hl : (s0_4.take a1.toNat).length = a1.toNat := by rw [List.length_take]; omega
    have hu22 := Try.underlying22
    go_enter Try.func11, Try.ntmps11
    go_wp2_with (first | ((with_reducible refine gate_callee (f := 31) rfl ?_); refine goesL_ (some 25) rfl rfl Try.func31 (by kernel_rfl) rfl #[.slice A_ (s0_4.take a1.toNat).length c_] rfl (by (try simp only [List.map_toArray, List.map_cons, List.map_nil]); first | done | (rw [hl]; rfl)) ?_; refine (slices_Clone_byte_byte.calls A_ c_ (s0_4.take a1.toNat) t w (Kd.C_take HR.1 q1) (by rw [hl]; omega) hF).mono ?_; rintro e w3 ⟨v, rfl, hV, hb⟩; refine ⟨_, rfl, ?_⟩; have HG3 := blk_below HG hb; have hcy_0 := cellS35_0 HG3; have hcy_4 := cellS35_4 HG3; have hfy_0 := blk_frozen HG3 0; have hfy_4 := blk_frozen HG3 4; have HR3 := HR.below hb))
    clear c h hcz_0 hcz_4 hfz_0 hfz_4 hB hF
    have hI3 : IsS35 w0 w3 g s0_0 s0_1 s0_2 s0_3 s0_4 := ⟨⟨A_, c_, HG3, hcap, HR3⟩, hg⟩
    have hA := IsS35.apart hI3 hV (by decide)
    have hD := HR3.drop q1 hcap
    have HI3 := Aside0.mk hI3
    have HA := Aside0.mk hA
    have HD := Aside0.mk hD
    clear hI3 hA hD
    go_region
    all_goals go_wp2
    case inl =>
      have hA := HA.out
      have hD := HD.out
      have heq : c_ = a1.toNat := by assumption
      rw [if_pos heq] at hD
      have e : s0_4.length - a1.toNat = (s0_4.drop a1.toNat).length := (List.length_drop).symm
      rw [e]
      go_ret
      have hk := ((KeepBut.refl w3 g none).set_ 4 (.slice A_ (s0_4.drop a1.toNat).length 0)).set_ 0 (.int .i64 (wrap64 (s0_0 + a1)))
      have hcd : (s0_4.drop a1.toNat).length ≤ 0 := by rw [List.length_drop]; omega
      exact ⟨v, rfl, Kd.R_mono (Kd.R_keep hA hk (fun _ h => h.2)) (fun _ h => h.1), ((HI3.out.put (s0_4.drop a1.toNat) A_ 0 hcd hD).set_0 (wrap64 (s0_0 + a1))).drew, below_drew (below_set (below_set (below_step HB.out hb) hg) hg), KeepBut.trans (KeepBut.of_below hb g none) hk (.inl rfl)⟩
    case inr =>
      have heq : ¬ c_ = a1.toNat := by assumption
      have hA := HA.out
      have hD := HD.out
      rw [if_neg heq] at hD
      have e : s0_4.length - a1.toNat = (s0_4.drop a1.toNat).length := (List.length_drop).symm
      rw [e]
      go_ret
      have hk := ((KeepBut.refl w3 g none).set_ 4 (.slice (Option.map (fun x => x.add a1.toNat) A_) (s0_4.drop a1.toNat).length (c_ - a1.toNat))).set_ 0 (.int .i64 (wrap64 (s0_0 + a1)))
      have hcd : (s0_4.drop a1.toNat).length ≤ c_ - a1.toNat := by rw [List.length_drop]; omega
      exact ⟨v, rfl, Kd.R_mono (Kd.R_keep hA hk (fun _ h => h.2)) (fun _ h => h.1), ((HI3.out.put (s0_4.drop a1.toNat) (Option.map (fun x => x.add a1.toNat) A_) (c_ - a1.toNat) hcd hD).set_0 (wrap64 (s0_0 + a1))).drew, below_drew (below_set (below_set (below_step HB.out hb) hg) hg), KeepBut.trans (KeepBut.of_below hb g none) hk (.inl rfl)⟩

/-! ### cursor_Cursor_Byte: function 15 -/
def cursor_Cursor_Byte.f (s0_0 : Int) (s0_1 : Int) (s0_2 : Int) (s0_3 : Int) (s0_4 : (List Int)) : Option (Int × Int × Int × Int × Int × (List Int)) := (cursor_Cursor_Take.f s0_0 s0_1 s0_2 s0_3 s0_4 1).bind fun bt117 => (if (bt117.1.length : Int) = 1 then (if 0 < (bt117.1.length : Int) then (some (rd bt117.1 0, bt117.2.1, bt117.2.2.1, bt117.2.2.2.1, bt117.2.2.2.2.1, bt117.2.2.2.2.2)) else (none)) else (some (0, bt117.2.1, bt117.2.2.1, bt117.2.2.2.1, bt117.2.2.2.2.1, bt117.2.2.2.2.2)))
set_option maxHeartbeats 8000000 in
set_option maxRecDepth 100000 in
theorem cursor_Cursor_Byte.calls (g : Nat) (s0_0 : Int) (s0_1 : Int) (s0_2 : Int) (s0_3 : Int) (s0_4 : (List Int)) (r1 : Int) (r2 : Int) (r3 : Int) (r4 : Int) (r5 : Int) (r6 : (List Int)) (w0 w : World) (hI : IsS35 w0 w g s0_0 s0_1 s0_2 s0_3 s0_4) (hB : Below w0.heap.size w0 w) (h : cursor_Cursor_Byte.f s0_0 s0_1 s0_2 s0_3 s0_4 = some (r1, r2, r3, r4, r5, r6)) :
    Calls Try.prog 15 #[.pointer (some ⟨g, 0, none⟩)] w fun e w' => e = .returned (.int .u8 r1) ∧ IsS35 w0 w' g r2 r3 r4 r5 r6 ∧ Below w0.heap.size w0 w' ∧ KeepBut w w' g none := by
  have HI0 := Aside0.mk hI
  have HK := Aside0.mk (KeepBut.refl w g none)
  have HL := Aside0.mk hB.size
  clear hI
  have HW0 := Aside0.mk hB.size
  have HB := Aside0.mk hB
  clear hB
  have H : ((cursor_Cursor_Take.f s0_0 s0_1 s0_2 s0_3 s0_4 1).bind fun bt117 => (if (bt117.1.length : Int) = 1 then (if 0 < (bt117.1.length : Int) then (some (rd bt117.1 0, bt117.2.1, bt117.2.2.1, bt117.2.2.2.1, bt117.2.2.2.2.1, bt117.2.2.2.2.2)) else (none)) else (some (0, bt117.2.1, bt117.2.2.1, bt117.2.2.2.1, bt117.2.2.2.2.1, bt117.2.2.2.2.2)))) = some (r1, r2, r3, r4, r5, r6) := h
  clear h
  replace H := Option.bind_eq_some_iff.mp H
  obtain ⟨⟨t117, t120, t121, t122, t123, t124⟩, A20, H⟩ := H
  replace H : (if (t117.length : Int) = 1 then (if 0 < (t117.length : Int) then (some (rd t117 0, t120, t121, t122, t123, t124)) else (none)) else (some (0, t120, t121, t122, t123, t124))) = some (r1, r2, r3, r4, r5, r6) := H
  have A2 := Aside0.mk A20
  clear A20
  by_cases c3 : (t117.length : Int) = 1
  · rw [if_pos c3] at H
    have c3b0 : ((t117.length : Int) == 1) = true := beq_iff_eq.mpr c3
    have c3b1 : ((t117.length : Int) != 1) = false := bne_eq_false_iff_eq.mpr c3
    clear c3
    by_cases c4 : 0 < (t117.length : Int)
    · rw [if_pos c4] at H
      have c4b0 : decide (0 < (t117.length : Int)) = true := decide_eq_true c4
      have c4b1 : decide (0 < t117.length) = true := decide_eq_true (by omega)
      clear c4
      simp only [Option.some.injEq, Prod.mk.injEq] at H
      obtain ⟨rfl, rfl, rfl, rfl, rfl, rfl⟩ := H
      go_enter Try.func15, Try.ntmps15
      go_wp2_with (first | ((with_reducible refine gate_callee (f := 11) rfl ?_); refine goesL_ (some 5) rfl rfl Try.func11 (by kernel_rfl) rfl #[.pointer (some ⟨g, 0, none⟩), .int .i64 1] rfl (by (try simp only [List.map_toArray, List.map_cons, List.map_nil]); first | done | rfl | (simp only [List.length_drop, List.length_take]; rfl)) ?_; (with_reducible refine (cursor_Cursor_Take.calls g s0_0 s0_1 s0_2 s0_3 s0_4 1 t117 t120 t121 t122 t123 t124 w0 _ ?side1 ?side2 A2.out).mono ?_); (case side1 => repeat (first | (with_reducible first | exact HI0.out | apply IsS35.alloc | apply IsS35.drewN | apply IsS35.drew | apply IsS35.set_0 | apply IsS35.set_1 | apply IsS35.set_2 | apply IsS35.set_3 | apply IsS35.set_4) | exact HI0.out)); (case side2 => repeat (first | (with_reducible first | exact HB.out | apply below_alloc | apply pw_below_drewN | apply below_drew1 | refine below_set ?_ (IsS35.ge HI0.out)) | exact HB.out)); rintro e w5 ⟨v118, rfl, ho0, hi, hb, hk⟩; refine ⟨_, rfl, ?_⟩; have n0_ := Aside0.mk (Kd.R_lower ho0 (keep_size (w := w) (g := g) (row := none) (by repeat (first | (with_reducible first | exact HK.out | apply KeepBut.set_ | apply keep_drewN | apply keep_drew | apply keep_alloc) | exact HK.out)))); have n1_ := Aside0.mk (KeepBut.trans (by repeat (first | (with_reducible first | exact HK.out | apply KeepBut.set_ | apply keep_drewN | apply keep_drew | apply keep_alloc) | exact HK.out)) hk (.inl rfl)); have n2_ := Aside0.mk (hb); have n3_ := Aside0.mk (hi); clear HK; clear HB; clear HI0; have HO119 := n0_; have HK := n1_; have HB := n2_; have HI0 := n3_; clear n0_ n1_ n2_ n3_; (try clear hb); (try clear hb2); (try clear hk); (try clear hi); (try clear ho0); obtain ⟨Ao6, co6, eo6⟩ := Kd.R_slice HO119.out; subst eo6; have p125 : 0 ≤ (0 : Int) := (by omega); have q125 : 0 < (t117.length : Int) := of_decide_eq_true (by first | (with_reducible assumption) | assumption); obtain ⟨ad125, e125, hx125_0⟩ := Kd.at_int (Kd.R_reads' HO119.out).2.2 0 p125 q125; cases e125; have qi125 : (0 < t117.length) = True := eq_true (by omega); (try rw [show ((0 : Int)).toNat = 0 from rfl] at hx125_0); (try rw [Addr.add_zero'] at hx125_0); replace p125 := eq_true p125; replace q125 := eq_true q125))
      go_ret
      exact ⟨by first | rfl | (simp [errW_none, errW_some] <;> rfl) | (simp [*, errW_none, errW_some] <;> rfl), by repeat (first | (with_reducible first | exact HI0.out | apply IsS35.alloc | apply IsS35.drewN | apply IsS35.drew | apply IsS35.set_0 | apply IsS35.set_1 | apply IsS35.set_2 | apply IsS35.set_3 | apply IsS35.set_4) | exact HI0.out), by repeat (first | (with_reducible first | exact HB.out | apply below_alloc | apply pw_below_drewN | apply below_drew1 | refine below_set ?_ (IsS35.ge HI0.out)) | exact HB.out), by repeat (first | (with_reducible first | exact HK.out | apply KeepBut.set_ | apply keep_drewN | apply keep_drew | apply keep_alloc) | exact HK.out)⟩
    · rw [if_neg c4] at H
      exact absurd H (by simp)
  · rw [if_neg c3] at H
    have c3b0 : ((t117.length : Int) == 1) = false := beq_eq_false_iff_ne.mpr c3
    have c3b1 : ((t117.length : Int) != 1) = true := bne_iff_ne.mpr c3
    simp only [Option.some.injEq, Prod.mk.injEq] at H
    obtain ⟨rfl, rfl, rfl, rfl, rfl, rfl⟩ := H
    go_enter Try.func15, Try.ntmps15
    go_wp2_with (first | ((with_reducible refine gate_callee (f := 11) rfl ?_); refine goesL_ (some 5) rfl rfl Try.func11 (by kernel_rfl) rfl #[.pointer (some ⟨g, 0, none⟩), .int .i64 1] rfl (by (try simp only [List.map_toArray, List.map_cons, List.map_nil]); first | done | rfl | (simp only [List.length_drop, List.length_take]; rfl)) ?_; (with_reducible refine (cursor_Cursor_Take.calls g s0_0 s0_1 s0_2 s0_3 s0_4 1 t117 t120 t121 t122 t123 t124 w0 _ ?side1 ?side2 A2.out).mono ?_); (case side1 => repeat (first | (with_reducible first | exact HI0.out | apply IsS35.alloc | apply IsS35.drewN | apply IsS35.drew | apply IsS35.set_0 | apply IsS35.set_1 | apply IsS35.set_2 | apply IsS35.set_3 | apply IsS35.set_4) | exact HI0.out)); (case side2 => repeat (first | (with_reducible first | exact HB.out | apply below_alloc | apply pw_below_drewN | apply below_drew1 | refine below_set ?_ (IsS35.ge HI0.out)) | exact HB.out)); rintro e w7 ⟨v118, rfl, ho0, hi, hb, hk⟩; refine ⟨_, rfl, ?_⟩; have n0_ := Aside0.mk (Kd.R_lower ho0 (keep_size (w := w) (g := g) (row := none) (by repeat (first | (with_reducible first | exact HK.out | apply KeepBut.set_ | apply keep_drewN | apply keep_drew | apply keep_alloc) | exact HK.out)))); have n1_ := Aside0.mk (KeepBut.trans (by repeat (first | (with_reducible first | exact HK.out | apply KeepBut.set_ | apply keep_drewN | apply keep_drew | apply keep_alloc) | exact HK.out)) hk (.inl rfl)); have n2_ := Aside0.mk (hb); have n3_ := Aside0.mk (hi); clear HK; clear HB; clear HI0; have HO119 := n0_; have HK := n1_; have HB := n2_; have HI0 := n3_; clear n0_ n1_ n2_ n3_; (try clear hb); (try clear hb2); (try clear hk); (try clear hi); (try clear ho0); obtain ⟨Ao8, co8, eo8⟩ := Kd.R_slice HO119.out; subst eo8))
    go_ret
    exact ⟨by first | rfl | (simp [errW_none, errW_some] <;> rfl) | (simp [*, errW_none, errW_some] <;> rfl), by repeat (first | (with_reducible first | exact HI0.out | apply IsS35.alloc | apply IsS35.drewN | apply IsS35.drew | apply IsS35.set_0 | apply IsS35.set_1 | apply IsS35.set_2 | apply IsS35.set_3 | apply IsS35.set_4) | exact HI0.out), by repeat (first | (with_reducible first | exact HB.out | apply below_alloc | apply pw_below_drewN | apply below_drew1 | refine below_set ?_ (IsS35.ge HI0.out)) | exact HB.out), by repeat (first | (with_reducible first | exact HK.out | apply KeepBut.set_ | apply keep_drewN | apply keep_drew | apply keep_alloc) | exact HK.out)⟩

/-! ### varint_Take: function 33 -/
mutual
def varint_Take.l0 : Nat → Int → List Int → Int → Int → Option (Int × Int × Int)
  | 0, _, _, _, _ => none
  | k + 1, x2, x7, x8, x9 => if x9 < x8 then (if 0 ≤ x9 then (if x9 < (x7.length : Int) then (if x9 = 9 then (varint_Take.j1 k x2 x9 (rd x7 x9) x7 x8 x9 (decide ((rd x7 x9) > 1))) else (varint_Take.j1 k x2 x9 (rd x7 x9) x7 x8 x9 false)) else (none)) else (none)) else (some (0, 0, 2))
def varint_Take.j1 : Nat → Int → Int → Int → List Int → Int → Int → Bool → Option (Int × Int × Int)
  | 0, _, _, _, _, _, _, _ => none
  | k + 1, x2, x5, x6, x7, x8, x9, x14 => if x14 = true then (varint_Take.j2 k x2 x5 x6 x7 x8 x9 x14) else (if x5 > 0 then (varint_Take.j2 k x2 x5 x6 x7 x8 x9 (x6 == 0)) else (varint_Take.j2 k x2 x5 x6 x7 x8 x9 false))
def varint_Take.j2 : Nat → Int → Int → Int → List Int → Int → Int → Bool → Option (Int × Int × Int)
  | 0, _, _, _, _, _, _, _ => none
  | k + 1, x2, x5, x6, x7, x8, x9, x14 => if x14 = true then (some (0, 0, 3)) else (if 0 ≤ (wrap64 (7 * x5)) then (if x6 < 128 then (some (Go.bits .or .u64 x2 (shl .u64 (IntKind.u64.wrap (Go.bits .andNot .u8 x6 128)) (wrap64 (7 * x5))), wrap64 (x5 + 1), 0)) else (varint_Take.l0 k (Go.bits .or .u64 x2 (shl .u64 (IntKind.u64.wrap (Go.bits .andNot .u8 x6 128)) (wrap64 (7 * x5)))) x7 x8 (wrap64 (x9 + 1)))) else (none))
end
def varint_Take.f (k : Nat) (l0 : List Int) : Option (Int × Int × Int) := varint_Take.l0 k 0 l0 (l0.length : Int) 0
theorem varint_Take.mono_l : ∀ k, (∀ y0 y1 y2 y3, LeO (varint_Take.l0 k y0 y1 y2 y3) (varint_Take.l0 (k + 1) y0 y1 y2 y3)) ∧ (∀ y0 y1 y2 y3 y4 y5 y6, LeO (varint_Take.j1 k y0 y1 y2 y3 y4 y5 y6) (varint_Take.j1 (k + 1) y0 y1 y2 y3 y4 y5 y6)) ∧ (∀ y0 y1 y2 y3 y4 y5 y6, LeO (varint_Take.j2 k y0 y1 y2 y3 y4 y5 y6) (varint_Take.j2 (k + 1) y0 y1 y2 y3 y4 y5 y6))
  | 0 => ⟨fun _ _ _ _ r h => by simp [varint_Take.l0] at h, fun _ _ _ _ _ _ _ r h => by simp [varint_Take.j1] at h, fun _ _ _ _ _ _ _ r h => by simp [varint_Take.j2] at h⟩
  | k + 1 => by
    obtain ⟨ih0, ih1, ih2⟩ := varint_Take.mono_l k
    refine ⟨?_, ?_, ?_⟩
    · intro y0 y1 y2 y3
      unfold varint_Take.l0
      repeat' first
      | (with_reducible exact ih0 _ _ _ _)
      | (with_reducible exact ih1 _ _ _ _ _ _ _)
      | (with_reducible exact ih2 _ _ _ _ _ _ _)
      | (with_reducible exact LeO.refl _)
      | (with_reducible exact LeO.none _)
      | (with_reducible refine LeO.ite ?_ ?_)
      | (with_reducible refine LeO.bind ?_ (fun _ => ?_))
      | exact ih0 _ _ _ _
      | exact ih1 _ _ _ _ _ _ _
      | exact ih2 _ _ _ _ _ _ _
      | exact LeO.none _
      | refine LeO.ite ?_ ?_
      | refine LeO.bind ?_ (fun _ => ?_)
    · intro y0 y1 y2 y3 y4 y5 y6
      unfold varint_Take.j1
      repeat' first
      | (with_reducible exact ih0 _ _ _ _)
      | (with_reducible exact ih1 _ _ _ _ _ _ _)
      | (with_reducible exact ih2 _ _ _ _ _ _ _)
      | (with_reducible exact LeO.refl _)
      | (with_reducible exact LeO.none _)
      | (with_reducible refine LeO.ite ?_ ?_)
      | (with_reducible refine LeO.bind ?_ (fun _ => ?_))
      | exact ih0 _ _ _ _
      | exact ih1 _ _ _ _ _ _ _
      | exact ih2 _ _ _ _ _ _ _
      | exact LeO.none _
      | refine LeO.ite ?_ ?_
      | refine LeO.bind ?_ (fun _ => ?_)
    · intro y0 y1 y2 y3 y4 y5 y6
      unfold varint_Take.j2
      repeat' first
      | (with_reducible exact ih0 _ _ _ _)
      | (with_reducible exact ih1 _ _ _ _ _ _ _)
      | (with_reducible exact ih2 _ _ _ _ _ _ _)
      | (with_reducible exact LeO.refl _)
      | (with_reducible exact LeO.none _)
      | (with_reducible refine LeO.ite ?_ ?_)
      | (with_reducible refine LeO.bind ?_ (fun _ => ?_))
      | exact ih0 _ _ _ _
      | exact ih1 _ _ _ _ _ _ _
      | exact ih2 _ _ _ _ _ _ _
      | exact LeO.none _
      | refine LeO.ite ?_ ?_
      | refine LeO.bind ?_ (fun _ => ?_)
theorem varint_Take.mono : ∀ a0 k, LeO (varint_Take.f k a0) (varint_Take.f (k + 1) a0) := by
  intro a0 k
  obtain ⟨ih0, ih1, ih2⟩ := varint_Take.mono_l k
  unfold varint_Take.f
  repeat' first
      | (with_reducible exact ih0 _ _ _ _)
      | (with_reducible exact ih1 _ _ _ _ _ _ _)
      | (with_reducible exact ih2 _ _ _ _ _ _ _)
      | (with_reducible exact LeO.refl _)
      | (with_reducible exact LeO.none _)
      | (with_reducible refine LeO.ite ?_ ?_)
      | (with_reducible refine LeO.bind ?_ (fun _ => ?_))
      | exact ih0 _ _ _ _
      | exact ih1 _ _ _ _ _ _ _
      | exact ih2 _ _ _ _ _ _ _
      | exact LeO.none _
      | refine LeO.ite ?_ ?_
      | refine LeO.bind ?_ (fun _ => ?_)
set_option maxHeartbeats 8000000 in
set_option maxRecDepth 100000 in
theorem varint_Take.calls (k : Nat) (A0 : Option Addr) (c0 : Nat) (l0 : List Int) (r1 : Int) (r2 : Int) (r3 : Int) (w : World) (hr0 : Kd.C (Kd.int .u8) w A0 l0.length l0) (hc0 : l0.length ≤ c0) (h : varint_Take.f k l0 = some (r1, r2, r3)) :
    Calls Try.prog 33 #[.slice A0 l0.length c0] w fun e w' => e = .returned (.tuple #[.int .u64 r1, .int .i64 r2, .int .i64 r3]) ∧ Drawn0 w w' := by
  have HR0 := Aside0.mk hr0
  have HC0 := Aside0.mk hc0
  clear hr0 hc0
  have H : (varint_Take.l0 k 0 l0 (l0.length : Int) 0) = some (r1, r2, r3) := h
  clear h
  have H' := Aside0.mk H
  clear H
  go_enter Try.func33, Try.ntmps33
  go_wp2
  go_loopg [2, 9] k (fun kq v2 v9 w' => ∃ (x2_1 : Int) (x9_1 : Int), v2 = .int .u64 x2_1 ∧ v9 = .int .i64 x9_1 ∧ Aside0 (varint_Take.l0 kq x2_1 l0 (l0.length : Int) x9_1 = some (r1, r2, r3)) ∧ Aside0 (kq ≤ k) ∧ Drawn0 w w')
  case atStart => exact ⟨(0), (0), (by first | rfl | (simp; done) | (simp [*]; done)), (by first | rfl | (simp; done) | (simp [*]; done)), H', ⟨Nat.le_refl _⟩, by repeat (first | exact Drawn0.refl _ | apply Drawn0.step)⟩
  case round =>
    clear H'
    obtain ⟨x2_1, x9_1, rfl, rfl, HA, HK1, ⟨m1, rfl⟩⟩ := hrel
    cases gk with
    | zero => exact absurd HA.out (by simp [varint_Take.l0])
    | succ k1 =>
      have H := HA.out
      clear HA
      simp only [varint_Take.l0] at H
      by_cases c2 : x9_1 < (l0.length : Int)
      · rw [if_pos c2] at H
        have c2b0 : decide (x9_1 < (l0.length : Int)) = true := decide_eq_true c2
        clear c2
        by_cases c3 : 0 ≤ x9_1
        · rw [if_pos c3] at H
          have c3b0 : decide (0 ≤ x9_1) = true := decide_eq_true c3
          clear c3
          by_cases c4 : x9_1 < (l0.length : Int)
          · rw [if_pos c4] at H
            have c4b0 : decide (x9_1 < (l0.length : Int)) = true := decide_eq_true c4
            clear c4
            have HC5 := Aside0.mk H
            clear H
            have p126 : 0 ≤ (x9_1 : Int) := of_decide_eq_true (by first | (with_reducible assumption) | assumption)
            have q126 : x9_1 < (l0.length : Int) := of_decide_eq_true (by first | (with_reducible assumption) | assumption)
            obtain ⟨ad126, e126, hx126_0⟩ := Kd.at_int HR0.out x9_1 p126 q126
            cases e126
            replace p126 := eq_true p126
            replace q126 := eq_true q126
            go_upto_region 4 with (fail)
            go_cut [14] (fun v14 wc => ∃ (kq : Nat) (x14_4 : Bool), v14 = .bool x14_4 ∧ Aside0 (varint_Take.j1 kq x2_1 x9_1 (rd l0 x9_1) l0 (l0.length : Int) x9_1 x14_4 = some (r1, r2, r3)) ∧ Aside0 (kq ≤ k1) ∧ Drawn0 w wc)
            case first =>
              have H := HC5.out
              clear HC5
              by_cases c6 : x9_1 = 9
              · rw [if_pos c6] at H
                have c6b0 : (x9_1 == 9) = true := beq_iff_eq.mpr c6
                have c6b1 : (x9_1 != 9) = false := bne_eq_false_iff_eq.mpr c6
                clear c6
                (first | rw [c6b0] | (simp only [i64_w, i32_w]; rw [c6b0]) | skip)
                have H' := Aside0.mk H
                clear H
                go_wp2
                go_meet
                case rel => exact ⟨_, (decide ((rd l0 x9_1) > 1)), (by first | rfl | (simp; done) | (simp [*]; done)), H', ⟨by have := HK1.out; first | omega | exact Nat.le_refl _⟩, by repeat (first | exact Drawn0.refl _ | apply Drawn0.step)⟩
              · rw [if_neg c6] at H
                have c6b0 : (x9_1 == 9) = false := beq_eq_false_iff_ne.mpr c6
                have c6b1 : (x9_1 != 9) = true := bne_iff_ne.mpr c6
                (first | rw [c6b0] | (simp only [i64_w, i32_w]; rw [c6b0]) | skip)
                have H' := Aside0.mk H
                clear H
                go_wp2
                go_meet
                case rel => exact ⟨_, (false), (by first | rfl | (simp; done) | (simp [*]; done)), H', ⟨by have := HK1.out; first | omega | exact Nat.le_refl _⟩, by repeat (first | exact Drawn0.refl _ | apply Drawn0.step)⟩
            case rest =>
              clear HC5
              try clear p1
              try clear q1
              try clear hx1
              try clear c2
              try clear c2b0
              try clear p2
              try clear c3
              try clear c3b0
              try clear c4
              try clear c4b0
              try clear c6
              try clear c6b0
              try clear c6b1
              try clear hx126_0
              try clear p126
              try clear q126
              obtain ⟨kq, x14_4, rfl, HA, HJ4, ⟨mc4, rfl⟩⟩ := hcut
              cases kq with
              | zero => exact absurd HA.out (by simp [varint_Take.j1])
              | succ kj4 =>
                have H := HA.out
                clear HA
                simp only [varint_Take.j1] at H
                have HC7 := Aside0.mk H
                clear H
                go_upto_if 14 with (fail)
                go_cut [14] (fun v14 wc => ∃ (kq : Nat) (x14_6 : Bool), v14 = .bool x14_6 ∧ Aside0 (varint_Take.j2 kq x2_1 x9_1 (rd l0 x9_1) l0 (l0.length : Int) x9_1 x14_6 = some (r1, r2, r3)) ∧ Aside0 (kq ≤ kj4) ∧ Drawn0 w wc)
                case first =>
                  have H := HC7.out
                  clear HC7
                  by_cases c8 : x14_4 = true
                  · subst c8
                    have H1 : (varint_Take.j2 kj4 x2_1 x9_1 (rd l0 x9_1) l0 (l0.length : Int) x9_1 true) = some (r1, r2, r3) := by rw [if_pos rfl] at H; exact H
                    clear H
                    have H := H1
                    clear H1
                    have H' := Aside0.mk H
                    clear H
                    go_wp2
                    go_meet
                    case rel => exact ⟨_, (true), (by first | rfl | (simp; done) | (simp [*]; done)), H', ⟨by have := HK1.out; have := HJ4.out; first | omega | exact Nat.le_refl _⟩, by repeat (first | exact Drawn0.refl _ | apply Drawn0.step)⟩
                  · replace c8 := Bool.eq_false_iff.mpr c8
                    subst c8
                    have H1 : (if x9_1 > 0 then (varint_Take.j2 kj4 x2_1 x9_1 (rd l0 x9_1) l0 (l0.length : Int) x9_1 ((rd l0 x9_1) == 0)) else (varint_Take.j2 kj4 x2_1 x9_1 (rd l0 x9_1) l0 (l0.length : Int) x9_1 false)) = some (r1, r2, r3) := by rw [if_neg (show ¬ (false = true) by decide)] at H; exact H
                    clear H
                    have H := H1
                    clear H1
                    by_cases c9 : x9_1 > 0
                    · rw [if_pos c9] at H
                      have c9b0 : decide (0 < x9_1) = true := decide_eq_true c9
                      clear c9
                      (first | rw [c9b0] | (simp only [i64_w, i32_w]; rw [c9b0]) | skip)
                      have H' := Aside0.mk H
                      clear H
                      go_wp2
                      go_meet
                      case rel => exact ⟨_, (((rd l0 x9_1) == 0)), (by first | rfl | (simp; done) | (simp [*]; done)), H', ⟨by have := HK1.out; have := HJ4.out; first | omega | exact Nat.le_refl _⟩, by repeat (first | exact Drawn0.refl _ | apply Drawn0.step)⟩
                    · rw [if_neg c9] at H
                      have c9b0 : decide (0 < x9_1) = false := decide_eq_false c9
                      clear c9
                      (first | rw [c9b0] | (simp only [i64_w, i32_w]; rw [c9b0]) | skip)
                      have H' := Aside0.mk H
                      clear H
                      go_wp2
                      go_meet
                      case rel => exact ⟨_, (false), (by first | rfl | (simp; done) | (simp [*]; done)), H', ⟨by have := HK1.out; have := HJ4.out; first | omega | exact Nat.le_refl _⟩, by repeat (first | exact Drawn0.refl _ | apply Drawn0.step)⟩
                case rest =>
                  clear HC7
                  try clear p1
                  try clear q1
                  try clear hx1
                  try clear c2
                  try clear c2b0
                  try clear p2
                  try clear c3
                  try clear c3b0
                  try clear c4
                  try clear c4b0
                  try clear c6
                  try clear c6b0
                  try clear c6b1
                  try clear c8
                  try clear c9
                  try clear c9b0
                  try clear hx126_0
                  try clear p1
                  try clear p126
                  try clear p2
                  try clear q1
                  try clear q126
                  obtain ⟨kq, x14_6, rfl, HA, HJ6, ⟨mc6, rfl⟩⟩ := hcut
                  cases kq with
                  | zero => exact absurd HA.out (by simp [varint_Take.j2])
                  | succ kj6 =>
                    have H := HA.out
                    clear HA
                    simp only [varint_Take.j2] at H
                    by_cases c10 : x14_6 = true
                    · subst c10
                      have H1 : (some (0, 0, 3)) = some (r1, r2, r3) := by rw [if_pos rfl] at H; exact H
                      clear H
                      have H := H1
                      clear H1
                      simp only [Option.some.injEq, Prod.mk.injEq] at H
                      obtain ⟨rfl, rfl, rfl⟩ := H
                      go_wp2
                      go_ret3
                      exact ⟨by first | rfl | (simp; done) | (simp [*]; done), by repeat (first | exact Drawn0.refl _ | apply Drawn0.step)⟩
                    · replace c10 := Bool.eq_false_iff.mpr c10
                      subst c10
                      have H1 : (if 0 ≤ (wrap64 (7 * x9_1)) then (if (rd l0 x9_1) < 128 then (some (Go.bits .or .u64 x2_1 (shl .u64 (IntKind.u64.wrap (Go.bits .andNot .u8 (rd l0 x9_1) 128)) (wrap64 (7 * x9_1))), wrap64 (x9_1 + 1), 0)) else (varint_Take.l0 kj6 (Go.bits .or .u64 x2_1 (shl .u64 (IntKind.u64.wrap (Go.bits .andNot .u8 (rd l0 x9_1) 128)) (wrap64 (7 * x9_1)))) l0 (l0.length : Int) (wrap64 (x9_1 + 1)))) else (none)) = some (r1, r2, r3) := by rw [if_neg (show ¬ (false = true) by decide)] at H; exact H
                      clear H
                      have H := H1
                      clear H1
                      obtain ⟨ji11, hji11⟩ : ∃ j_ : Int, (wrap64 (7 * x9_1)) = j_ := ⟨_, rfl⟩
                      replace H : (if 0 ≤ (ji11) then (if (rd l0 x9_1) < 128 then (some (Go.bits .or .u64 x2_1 (shl .u64 (IntKind.u64.wrap (Go.bits .andNot .u8 (rd l0 x9_1) 128)) (ji11)), wrap64 (x9_1 + 1), 0)) else (varint_Take.l0 kj6 (Go.bits .or .u64 x2_1 (shl .u64 (IntKind.u64.wrap (Go.bits .andNot .u8 (rd l0 x9_1) 128)) (ji11))) l0 (l0.length : Int) (wrap64 (x9_1 + 1)))) else (none)) = some (r1, r2, r3) := by first | (rw [hji11] at H; exact H) | (simp only [hji11] at H ⊢; exact H)
                      have hji11w : (IntKind.i64.wrap (7 * x9_1)) = ji11 := (i64_w _).trans hji11
                      by_cases c12 : 0 ≤ (ji11)
                      · rw [if_pos c12] at H
                        have c12b0 := eq_true c12
                        have c12b1 : decide (0 ≤ (ji11)) = true := decide_eq_true c12
                        clear c12
                        obtain ⟨ji13, hji13⟩ : ∃ j_ : Int, (shl .u64 (IntKind.u64.wrap (Go.bits .andNot .u8 (rd l0 x9_1) 128)) (ji11)) = j_ := ⟨_, rfl⟩
                        replace H : (if (rd l0 x9_1) < 128 then (some (Go.bits .or .u64 x2_1 (ji13), wrap64 (x9_1 + 1), 0)) else (varint_Take.l0 kj6 (Go.bits .or .u64 x2_1 (ji13)) l0 (l0.length : Int) (wrap64 (x9_1 + 1)))) = some (r1, r2, r3) := by first | (rw [hji13] at H; exact H) | (simp only [hji13] at H ⊢; exact H)
                        have hji13_ : (IntKind.u64.wrap ((IntKind.u64.wrap (Go.bits .andNot .u8 (rd l0 x9_1) 128)) * 2 ^ min (ji11).toNat 64)) = ji13 := hji13
                        have hji13z : (ji11) ≤ 64 → (IntKind.u64.wrap ((IntKind.u64.wrap (Go.bits .andNot .u8 (rd l0 x9_1) 128)) * 2 ^ (ji11).toNat)) = ji13 := shl_small hji13
                        by_cases c14 : (rd l0 x9_1) < 128
                        · rw [if_pos c14] at H
                          have c14b0 : decide ((rd l0 x9_1) < 128) = true := decide_eq_true c14
                          clear c14
                          simp only [Option.some.injEq, Prod.mk.injEq] at H
                          obtain ⟨rfl, rfl, rfl⟩ := H
                          go_wp2
                          go_ret3
                          exact ⟨by first | rfl | (simp; done) | (simp only [← hji11, ← hji13] <;> (first | rfl | simp)) | (simp [*]; done), by repeat (first | exact Drawn0.refl _ | apply Drawn0.step)⟩
                        · rw [if_neg c14] at H
                          have c14b0 : decide ((rd l0 x9_1) < 128) = false := decide_eq_false c14
                          clear c14
                          have H' := Aside0.mk H
                          clear H
                          go_wp2
                          go_roundg kj6
                          case measure => have := HK1.out; have := HJ4.out; have := HJ6.out; omega
                          case rel => exact ⟨(Go.bits .or .u64 x2_1 (ji13)), (wrap64 (x9_1 + 1)), (by first | rfl | (simp; done) | (simp only [← hji13] <;> (first | rfl | simp)) | (simp [*]; done)), (by first | rfl | (simp; done) | (simp [*]; done)), H', ⟨by have := HK1.out; have := HJ4.out; have := HJ6.out; omega⟩, by repeat (first | exact Drawn0.refl _ | apply Drawn0.step)⟩
                      · rw [if_neg c12] at H
                        exact absurd H (by simp)
          · rw [if_neg c4] at H
            exact absurd H (by simp)
        · rw [if_neg c3] at H
          exact absurd H (by simp)
      · rw [if_neg c2] at H
        have c2b0 : decide (x9_1 < (l0.length : Int)) = false := decide_eq_false c2
        clear c2
        simp only [Option.some.injEq, Prod.mk.injEq] at H
        obtain ⟨rfl, rfl, rfl⟩ := H
        go_wp2
        go_ret3
        exact ⟨by first | rfl | (simp; done) | (simp [*]; done), by repeat (first | exact Drawn0.refl _ | apply Drawn0.step)⟩

end Go.Proofs.Ytgegbiknohjpgaa.HCursorCuts
