-- Written by the session's program hy.py.
import Derived.Test.YtgegbiknohjpgaaHCursorNumbersx0
import Derived.Test.YtgegbiknohjpgaaHCursorNumbersx1
import Derived.Test.YtgegbiknohjpgaaHCursorNumbersx2
import Derived.Test.YtgegbiknohjpgaaHCursorNumbersx3
import Derived.Test.YtgegbiknohjpgaaHCursorNumbersx4
namespace Go.Proofs.Ytgegbiknohjpgaa.HCursorNumbers
open Go.RowKit Go.Proofs.YtgegbiknohjpgaaW.PrintWords Go.Proofs.YtgegbiknohjpgaaW.PrintLast Go.Proofs.YtgegbiknohjpgaaW.PrintMore
attribute [local go_sem] max2_int min2_int max_two min_two max_three min_three max_four min_four   -- for this text's walks alone
set_option linter.unusedVariables false
set_option linter.unusedSimpArgs false

attribute [local go_sem high] eqA31
/-! ### varint_Put: function 29 -/
mutual
def varint_Put.l0 : Nat → List Int → List Int → Int → Int → Option (List Int)
  | 0, _, _, _, _ => none
  | k + 1, x5, x11, x12, x13 => if x13 < x12 then (if 0 ≤ x13 then (if x13 < (x11.length : Int) then (varint_Put.l1 k x5 (rd x11 x13) x11 x12 x13) else (none)) else (none)) else (some x5)
def varint_Put.l1 : Nat → List Int → Int → List Int → Int → Int → Option (List Int)
  | 0, _, _, _, _, _ => none
  | k + 1, x5, x7, x11, x12, x13 => if x7 ≥ 128 then (if x5.length < 140737488355328 then (varint_Put.l1 k (x5 ++ [Go.bits .or .u8 ((x7) % 256) 128]) (x7 / 128) x11 x12 x13) else (none)) else (if x5.length < 140737488355328 then (varint_Put.l0 k (x5 ++ [(x7) % 256]) x11 x12 (wrap64 (x13 + 1))) else (none))
end
def varint_Put.f (k : Nat) (l0 : List Int) (l1 : List Int) : Option (List Int) := if l0 = [] ∨ l1 ≠ [] then ((slices_Clone_byte_byte.f l0).bind fun t249 => (varint_Put.l0 k t249 l1 (l1.length : Int) 0)) else none
theorem varint_Put.mono_l : ∀ k, (∀ y0 y1 y2 y3, LeO (varint_Put.l0 k y0 y1 y2 y3) (varint_Put.l0 (k + 1) y0 y1 y2 y3)) ∧ (∀ y0 y1 y2 y3 y4, LeO (varint_Put.l1 k y0 y1 y2 y3 y4) (varint_Put.l1 (k + 1) y0 y1 y2 y3 y4))
  | 0 => ⟨fun _ _ _ _ r h => by simp [varint_Put.l0] at h, fun _ _ _ _ _ r h => by simp [varint_Put.l1] at h⟩
  | k + 1 => by
    obtain ⟨ih0, ih1⟩ := varint_Put.mono_l k
    refine ⟨?_, ?_⟩
    · intro y0 y1 y2 y3
      unfold varint_Put.l0
      repeat' first
      | (with_reducible exact ih0 _ _ _ _)
      | (with_reducible exact ih1 _ _ _ _ _)
      | (with_reducible exact LeO.refl _)
      | (with_reducible exact LeO.none _)
      | (with_reducible refine LeO.ite ?_ ?_)
      | (with_reducible refine LeO.bind ?_ (fun _ => ?_))
      | exact ih0 _ _ _ _
      | exact ih1 _ _ _ _ _
      | exact LeO.none _
      | refine LeO.ite ?_ ?_
      | refine LeO.bind ?_ (fun _ => ?_)
    · intro y0 y1 y2 y3 y4
      unfold varint_Put.l1
      repeat' first
      | (with_reducible exact ih0 _ _ _ _)
      | (with_reducible exact ih1 _ _ _ _ _)
      | (with_reducible exact LeO.refl _)
      | (with_reducible exact LeO.none _)
      | (with_reducible refine LeO.ite ?_ ?_)
      | (with_reducible refine LeO.bind ?_ (fun _ => ?_))
      | exact ih0 _ _ _ _
      | exact ih1 _ _ _ _ _
      | exact LeO.none _
      | refine LeO.ite ?_ ?_
      | refine LeO.bind ?_ (fun _ => ?_)
theorem varint_Put.mono : ∀ a0 a1 k, LeO (varint_Put.f k a0 a1) (varint_Put.f (k + 1) a0 a1) := by
  intro a0 a1 k
  obtain ⟨ih0, ih1⟩ := varint_Put.mono_l k
  unfold varint_Put.f
  repeat' first
      | (with_reducible exact ih0 _ _ _ _)
      | (with_reducible exact ih1 _ _ _ _ _)
      | (with_reducible exact LeO.refl _)
      | (with_reducible exact LeO.none _)
      | (with_reducible refine LeO.ite ?_ ?_)
      | (with_reducible refine LeO.bind ?_ (fun _ => ?_))
      | exact ih0 _ _ _ _
      | exact ih1 _ _ _ _ _
      | exact LeO.none _
      | refine LeO.ite ?_ ?_
      | refine LeO.bind ?_ (fun _ => ?_)
/-- What slices.Clip leaves of bytes: a row of one's own, or (where p) one that is full. -/
def RCF (p : Prop) (W : World) (base : Nat) (v : Value) (xs : List Int) : Prop :=
  Kd.R (Kd.int .u8) 5 W base (fun _ => True) v xs ∨ (p ∧ xs ≠ [] ∧ ∃ A, v = .slice A xs.length xs.length ∧ Kd.F (Kd.int .u8) W (fun k => base ≤ k) A xs.length xs)
theorem RCF.imp {p q : Prop} {W : World} {base : Nat} {v : Value} {xs : List Int} (h : RCF p W base v xs) (hq : p → q) : RCF q W base v xs := Or.imp id (fun x => ⟨hq x.1, x.2⟩) h
theorem RCF.done {p : Prop} {W : World} {base : Nat} {v : Value} {xs : List Int} (h : RCF p W base v xs) (hp : ¬ p) : Kd.R (Kd.int .u8) 5 W base (fun _ => True) v xs := Or.elim h id fun x => absurd x.1 hp
theorem RCF.below {p : Prop} {W W' : World} {base : Nat} {v : Value} {xs : List Int} (h : RCF p W base v xs) (hb : Below W.heap.size W W') : RCF p W' base v xs :=
  Or.imp (fun x => Kd.R_below x hb) (fun ⟨a, b, A, c, d⟩ => ⟨a, b, A, c, Kd.F_below d hb⟩) h
theorem RCF.lower {p : Prop} {W : World} {base base' : Nat} {v : Value} {xs : List Int} (h : RCF p W base v xs) (hb : base' ≤ base) : RCF p W base' v xs := Or.imp (fun x => Kd.R_lower x hb) (fun ⟨a, b, A, c, d⟩ => ⟨a, b, A, c, Kd.F_mono d (fun _ hk => Nat.le_trans hb hk)⟩) h
theorem RCF.V {p : Prop} {W : World} {base : Nat} {v : Value} {xs : List Int} (h : RCF p W base v xs) : Kd.V (Kd.int .u8) 5 W base (fun k => base ≤ k) v xs := by
  rcases h with h | ⟨_, _, A, rfl, hF⟩
  · obtain ⟨A, c, rfl⟩ := Kd.R_slice h
    have h2 := Kd.R_mono (ok' := fun k => base ≤ k) (Kd.R_bound h) (fun _ hk => hk.2.1)
    exact ⟨A, c, rfl, (Kd.R_reads' h).2.1, Kd.R_F h2⟩
  · exact ⟨A, _, rfl, Nat.le_refl _, hF⟩
theorem RCF.alloc {p : Prop} {W : World} {base : Nat} {v : Value} {xs : List Int} (h : RCF p W base v xs) (o : Obj) : RCF p (W.alloc o) base v xs := h.below (below_alloc (Below.refl _ _) o)
theorem RCF.drew {p : Prop} {W : World} {base : Nat} {v : Value} {xs : List Int} (h : RCF p W base v xs) : RCF p W.drew base v xs := h.below (below_drew (Below.refl _ _))
theorem RCF.drewN {p : Prop} {W : World} {base : Nat} {v : Value} {xs : List Int} (h : RCF p W base v xs) (m : Nat) : RCF p (W.drewN m) base v xs := h.below (pw_below_drewN (Below.refl _ _) m)
theorem RCF.append {p : Prop} {P : Program} {ops : Array Oper} {rest : List Oper} {o : Oper} {a : Act} {Q : Exit → Act → World → Prop} {w0 W : World} (base : Nat) (hgd : o.guard = none) (s x : Operand) (t e : TypeId) (z : Value) (bytes : Nat)
    (ho : o.op = .call { callee := .builtin .append, args := #[s, x], argTypes := #[t, t] })
    (ht : P.underlying t = some (.slice e)) (hinfo : (P.info? e).map (fun i => (i.zero, i.size, i.bytes)) = some (some z, 1, bytes)) (hz : z.cells.size = 1) (hs0 : 0 < 1) (hb0 : 0 < bytes) (he : e = 5)
    (v : Value) (xs : List Int) (y : Int) (hs : a.eval s = v) (hx : a.eval x = .slice (some ⟨W.heap.size, 0, none⟩) 1 1)
    (HO : RCF p W base v xs) (HB : Below base w0 W) (hbase : base ≤ W.heap.size) (hl : (xs.length + 1) * bytes ≤ 140737488355328)
    (h : ∀ v1 w1, Kd.R (Kd.int .u8) 5 w1 base (fun _ => True) v1 (xs ++ [y]) → Below base w0 w1 → wpList P ops Q rest (a.put o.dst v1) w1) :
    wpList P ops Q (o :: rest) a (W.alloc (.cells [Value.int .u8 y].toArray e)) := by
  subst he
  rcases HO with HO | ⟨_, hne, A, rfl, hF⟩
  · exact Kd.R_append (Kd.int .u8) (w0 := w0) base hgd s x t _ z bytes ho ht hinfo hz hs0 hb0 v xs y [.int .u8 y] (fun _ => True) (fun _ => False) hs hx rfl (fun _ hk => hk.elim) (fun _ _ => trivial) HO HB hbase hl fun v1 w1 h1 h2 _ _ => h v1 w1 h1 h2
  · obtain ⟨i0, hi, hzz⟩ := Option.map_eq_some_iff.1 hinfo
    simp only [Prod.mk.injEq] at hzz
    obtain ⟨hz0, hz1, hz2⟩ := hzz
    have hC := Kd.F_now hF
    have hlen : xs.length + 1 ≤ 140737488355328 := Nat.le_trans (Nat.le_mul_of_pos_right _ hb0) hl
    have hr := Kd.reads_of_C (d := (0 : Int)) (h1 := fun _ => rfl) (Kd.C_alloc hC (.cells [Value.int .u8 y].toArray 5))
    have hpos : 0 < xs.length := List.length_pos_iff.2 hne
    refine wpList_append_grows (W.alloc (.cells [Value.int .u8 y].toArray 5)) hgd s x t ho 5 i0 z 1 bytes ht hi hz0 hz1 hz2 hz (by omega) A xs.length xs.length (nums .u8 xs) hs ?_ (by simp [nums]) ?_ ⟨W.heap.size, 0, none⟩ 1 1 [.int .u8 y] hx rfl ?_ (by simp [Value.oneCell']) (by omega) (by simp only [maxLen]; omega) hl ?_
    · intro hA
      obtain ⟨ad, hA2, _⟩ := hr.2.2 hpos
      rw [hA] at hA2; cases hA2
    · intro b hb j u hj
      obtain ⟨ad, hA2, hc⟩ := hr.2.2 hpos
      rw [hb] at hA2
      obtain rfl := Option.some.inj hA2
      have hlt : j < xs.length := by
        rcases Nat.lt_or_ge j xs.length with g | g
        · exact g
        · rw [List.getElem?_eq_none (by simpa [nums] using g)] at hj; cases hj
      rw [hc j hlt]
      simp only [nums, List.getElem?_map, List.getElem?_eq_getElem hlt, Option.map_some] at hj
      rw [← hj, List.getD_eq_getElem?_getD, List.getElem?_eq_getElem hlt]; rfl
    · exact World.news_of_block (cs := #[.int .u8 y]) (t := 5) (fr := (0, 0)) (heap_alloc_new W _)
    · intro v1 w1 hown hg
      have hb1 : Below base w0 w1 := (HB.alloc hbase _).grown hg (by simp; omega) (fun _ hk => by cases hk)
      have hR : Kd.R (Kd.int .u8) 5 w1 (W.alloc (.cells [Value.int .u8 y].toArray 5)).heap.size (fun _ => True) v1 (xs ++ [y]) :=
        Kd.R_of_own (h1 := fun _ => rfl) (by simpa [nums, encs] using hown) (fun _ _ => trivial)
      exact h v1 w1 (Kd.R_lower hR (by simp; omega)) hb1

theorem clip_calls (A : Option Addr) (n c : Nat) (hn : n ≤ c) (w : World) : Calls Try.prog 38 #[.slice A n c] w fun e w' => e = .returned (.slice A n n) ∧ w = w' := by
  go_enter Try.func38, Try.ntmps38
  go_wp2
  go_ret
  exact ⟨by simp, rfl⟩
theorem clone_full (A0 : Option Addr) (c0 : Nat) (l0 : List Int) (w : World) (hr0 : Kd.C (Kd.int .u8) w A0 l0.length l0) (hc0 : l0.length ≤ c0) (hl : l0.length < 140737488355328) :
    Calls Try.prog 31 #[.slice A0 l0.length c0] w fun e w' => ∃ (Ac : Option Addr) (cc : Nat), e = .returned (.slice Ac l0.length cc) ∧ l0.length ≤ cc ∧ RCF (l0 ≠ []) w' w.heap.size (.slice Ac l0.length l0.length) l0 ∧ Below w.heap.size w w' := by
  by_cases h0 : l0 = []
  · subst h0
    refine (slices_Clone_byte_byte.calls0 A0 c0 w).mono ?_
    rintro e w' ⟨A, rfl, hR, hb⟩
    exact ⟨A, 0, rfl, Nat.le_refl _, .inl hR, hb⟩
  · have hf : slices_Clone_byte_byte.f l0 = some l0 := by
      unfold slices_Clone_byte_byte.f
      simp only [Option.bind_some, List.length_nil, List.nil_append]
      rw [if_pos (by omega)]
    refine (slices_Clone_byte_byte.calls A0 c0 l0 l0 w hr0 hc0 hf).mono ?_
    rintro e w' ⟨v, rfl, hR, hb⟩
    obtain ⟨A, c, rfl⟩ := Kd.R_slice hR
    obtain ⟨_, hle, _⟩ := Kd.R_reads' hR
    exact ⟨A, c, rfl, hle, .inr ⟨h0, h0, A, rfl, Kd.R_F (Kd.R_mono (ok' := fun k => w.heap.size ≤ k) (Kd.R_bound hR) (fun _ hk => hk.2.1))⟩, hb⟩
set_option maxHeartbeats 8000000 in
set_option maxRecDepth 100000 in
theorem varint_Put.calls (k : Nat) (A0 : Option Addr) (c0 : Nat) (l0 : List Int) (A1 : Option Addr) (c1 : Nat) (l1 : List Int) (r : List Int) (w : World) (hr0 : Kd.C (Kd.int .u8) w A0 l0.length l0) (hc0 : l0.length ≤ c0) (hr1 : Kd.C (Kd.int .u64) w A1 l1.length l1) (hc1 : l1.length ≤ c1) (h : varint_Put.f k l0 l1 = some r) :
    Calls Try.prog 29 #[.slice A0 l0.length c0, .slice A1 l1.length c1] w fun e w' => ∃ v0_ : Value, e = .returned (v0_) ∧ Kd.R (Kd.int .u8) 5 w' w.heap.size (fun _ => True) v0_ r ∧ Below w.heap.size w w' := by
  have HR0 := Aside0.mk hr0
  have HC0 := Aside0.mk hc0
  clear hr0 hc0
  have HR1 := Aside0.mk hr1
  have HC1 := Aside0.mk hc1
  clear hr1 hc1
  have HB := Aside0.mk (Below.refl w.heap.size w)
  unfold varint_Put.f at h
  by_cases hcase : l0 = [] ∨ l1 ≠ []
  case neg => rw [if_neg hcase] at h; exact absurd h (by simp)
  rw [if_pos hcase] at h
  have HNE := Aside0.mk hcase
  clear hcase
  have H : ((slices_Clone_byte_byte.f l0).bind fun t249 => (varint_Put.l0 k t249 l1 (l1.length : Int) 0)) = some r := h
  clear h
  replace H := Option.bind_eq_some_iff.mp H
  obtain ⟨t249, A30, H⟩ := H
  replace H : (varint_Put.l0 k t249 l1 (l1.length : Int) 0) = some r := H
  have A3 := Aside0.mk A30
  clear A30
  obtain ⟨HLL0, HTT⟩ : l0.length < 140737488355328 ∧ l0 = t249 := by
    have h_ := A3.out
    unfold slices_Clone_byte_byte.f at h_
    simp only [Option.bind_some, List.length_nil, List.nil_append] at h_
    by_cases c_ : 0 + l0.length < 140737488355328
    · rw [if_pos c_] at h_; exact ⟨by omega, Option.some.inj h_⟩
    · rw [if_neg c_] at h_; exact absurd h_ (by simp)
  have HLL := Aside0.mk HLL0
  clear HLL0 A3
  subst HTT
  have H' := Aside0.mk H
  clear H
  go_enter Try.func29, Try.ntmps29
  go_wp2_with (first | ((with_reducible refine gate_callee (f := 31) rfl ?_); refine goesL_ (some 9) rfl rfl Try.func31 (by kernel_rfl) rfl #[.slice A0 l0.length c0] rfl (by (try simp only [List.map_toArray, List.map_cons, List.map_nil]); first | done | rfl) ?_; (with_reducible refine (clone_full A0 c0 l0 _ ?side1 ?side2 ?side3).mono ?_); (case side1 => repeat (first | exact HR0.out | (with_reducible refine Kd.C_alloc ?_ _) | (with_reducible refine Kd.C_drewN ?_ _) | (with_reducible refine Kd.C_drew ?_))); (case side2 => exact HC0.out); (case side3 => exact HLL.out); rintro e w4 ⟨Ac, cc, rfl, hle, ho0, hb⟩; refine ⟨_, rfl, ?_⟩; have n0_ := Aside0.mk (RCF.lower ho0 (below_size (by repeat (first | (with_reducible first | exact HB.out | apply below_alloc | apply pw_below_drewN | apply below_drew1) | exact HB.out)))); have n1_ := Aside0.mk (below_step (by repeat (first | (with_reducible first | exact HB.out | apply below_alloc | apply pw_below_drewN | apply below_drew1) | exact HB.out)) hb); have HLE := Aside0.mk hle; clear HB; have HO251 := n0_; have HB := n1_; clear n0_ n1_; (try clear hb); (try clear ho0); clear hle) | ((with_reducible refine gate_callee (f := 38) rfl ?_); refine goesL_ (some 10) rfl rfl Try.func38 (by kernel_rfl) rfl #[.slice Ac l0.length cc] rfl (by (try simp only [List.map_toArray, List.map_cons, List.map_nil]); first | done | rfl) ?_; (with_reducible refine (clip_calls Ac l0.length cc HLE.out _).mono ?_); rintro e w5 ⟨rfl, rfl⟩; refine ⟨_, rfl, ?_⟩))
  go_loopg [5, 13] k (fun kq v5 v13 w' => ∃ (x5_1 : List Int) (x13_1 : Int), v13 = .int .i64 x13_1 ∧ Aside0 (varint_Put.l0 kq x5_1 l1 (l1.length : Int) x13_1 = some r) ∧ Aside0 (kq ≤ k) ∧ Aside0 (RCF (x13_1 = 0 ∧ l0 ≠ []) w' w.heap.size v5 x5_1) ∧ Aside0 (Below w.heap.size w w'))
  case atStart => exact ⟨(l0), (0), (by first | rfl | (simp; done) | (simp [*]; done)), H', ⟨Nat.le_refl _⟩, ⟨by (with_reducible repeat (first | apply RCF.alloc | apply RCF.drewN | apply RCF.drew)); exact RCF.imp HO251.out (fun h_ => ⟨rfl, h_⟩)⟩, ⟨by repeat (first | (with_reducible first | exact HB.out | apply below_alloc | apply pw_below_drewN | apply below_drew1) | exact HB.out)⟩⟩
  case round =>
    clear H'
    try clear c1
    try clear c2
    try clear p2
    try clear c3
    obtain ⟨x5_1, x13_1, rfl, HA, HK1, HO_5, HB⟩ := hrel
    cases gk with
    | zero => exact absurd HA.out (by simp [varint_Put.l0])
    | succ k1 =>
      have H := HA.out
      clear HA
      simp only [varint_Put.l0] at H
      by_cases c5 : x13_1 < (l1.length : Int)
      · rw [if_pos c5] at H
        have c5b0 : decide (x13_1 < (l1.length : Int)) = true := decide_eq_true c5
        clear c5
        by_cases c6 : 0 ≤ x13_1
        · rw [if_pos c6] at H
          have c6b0 : decide (0 ≤ x13_1) = true := decide_eq_true c6
          clear c6
          by_cases c7 : x13_1 < (l1.length : Int)
          · rw [if_pos c7] at H
            have c7b0 : decide (x13_1 < (l1.length : Int)) = true := decide_eq_true c7
            clear c7
            have H' := Aside0.mk H
            clear H
            have p252 : 0 ≤ (x13_1 : Int) := of_decide_eq_true (by first | (with_reducible assumption) | assumption)
            have q252 : x13_1 < (l1.length : Int) := of_decide_eq_true (by first | (with_reducible assumption) | assumption)
            obtain ⟨ad252, e252, hx252_0⟩ := Kd.at_int HR1.out x13_1 p252 q252
            cases e252
            replace hx252_0 := (HB.out.cell (World.block_lt_of_cell? w _ hx252_0)).trans hx252_0
            replace p252 := eq_true p252
            replace q252 := eq_true q252
            go_wp2
            go_loopg [5, 7] k1 (fun kq v5 v7 w' => ∃ (x5_2 : List Int) (x7_2 : Int), v7 = .int .u64 x7_2 ∧ Aside0 (varint_Put.l1 kq x5_2 x7_2 l1 (l1.length : Int) x13_1 = some r) ∧ Aside0 (kq ≤ k1) ∧ Aside0 (RCF True w' w.heap.size v5 x5_2) ∧ Aside0 (Below w.heap.size w w'))
            case atStart => exact ⟨(x5_1), (rd l1 x13_1), (by first | rfl | (simp; done) | (simp [*]; done)), H', ⟨Nat.le_refl _⟩, ⟨by (with_reducible repeat (first | apply RCF.alloc | apply RCF.drewN | apply RCF.drew)); exact RCF.imp HO_5.out (fun _ => trivial)⟩, ⟨by repeat (first | (with_reducible first | exact HB.out | apply below_alloc | apply pw_below_drewN | apply below_drew1) | exact HB.out)⟩⟩
            case round =>
              clear H'
              try clear c1
              try clear c2
              try clear p2
              try clear q2
              try clear hx2
              try clear c3
              try clear c5
              try clear c5b0
              try clear c6
              try clear c6b0
              try clear c7
              try clear c7b0
              try clear hx252_0
              try clear p2
              try clear p252
              try clear q252
              obtain ⟨x5_2, x7_2, rfl, HA, HK2, HO_5, HB⟩ := hrel
              cases gk with
              | zero => exact absurd HA.out (by simp [varint_Put.l1])
              | succ k2 =>
                have H := HA.out
                clear HA
                simp only [varint_Put.l1] at H
                by_cases c8 : x7_2 ≥ 128
                · rw [if_pos c8] at H
                  have c8b0 : decide (128 ≤ x7_2) = true := decide_eq_true c8
                  clear c8
                  by_cases c9 : x5_2.length < 140737488355328
                  · rw [if_pos c9] at H
                    have LMc9 := Aside0.mk c9
                    clear c9
                    obtain ⟨y253, hy253⟩ : ∃ y_ : List Int, y_ = (x5_2 ++ [Go.bits .or .u8 ((x7_2) % 256) 128]) := ⟨_, rfl⟩
                    replace H : (varint_Put.l1 k2 y253 (x7_2 / 128) l1 (l1.length : Int) x13_1) = some r := by first | (rw [hy253]; with_reducible exact H) | (have H2_ := (Option.bind_some _ _).symm.trans H; rw [hy253]; with_reducible exact H2_) | (have H2_ := (Option.bind_some _ _).symm.trans H; with_reducible exact H2_) | with_reducible exact H | (rw [hy253]; exact H) | exact H
                    have Ny253 := Aside0.mk hy253
                    clear hy253
                    have H' := Aside0.mk H
                    clear H
                    go_wp2_with (first | ((with_reducible refine gate_builtin (b := .append) (xs := #[.tmp 21, .tmp 25]) rfl ?_); at_builtin; refine RCF.append (p := True) (w0 := w) w.heap.size rfl (.tmp 21) (.tmp 25) 22 5 (.int .u8 0) 1 rfl Try.underlying22 info5 rfl (by decide) (by omega) rfl u5 x5_2 (Go.bits .or .u8 ((x7_2) % 256) 128) rfl rfl ?aO ?aB ?aS ?aL ?_; (case aB => exact (by repeat (first | (with_reducible first | exact HB.out | apply below_alloc | apply pw_below_drewN | apply below_drew1) | exact HB.out))); (case aO => exact (by (with_reducible repeat (first | apply RCF.alloc | apply RCF.drewN | apply RCF.drew)); exact HO_5.out)); (case aS => exact (below_size (by repeat (first | (with_reducible first | exact HB.out | apply below_alloc | apply pw_below_drewN | apply below_drew1) | exact HB.out)))); (case aL => have := LMc9.out; omega); intro v254 w10 ho hb; rw [← Ny253.out] at ho; have n0_ := Aside0.mk (hb); have n1_ := Aside0.mk (ho); clear HB; clear HO_5; have HB := n0_; have HO255 := n1_; clear n0_ n1_; clear ho hb))
                    go_roundg k2
                    case measure => have := HK1.out; have := HK2.out; omega
                    case rel => exact ⟨(y253), (x7_2 / 128), (by first | rfl | (simp; done) | (simp [*]; done)), H', ⟨by have := HK1.out; have := HK2.out; omega⟩, ⟨by (with_reducible repeat (first | apply RCF.alloc | apply RCF.drewN | apply RCF.drew)); exact .inl HO255.out⟩, ⟨by repeat (first | (with_reducible first | exact HB.out | apply below_alloc | apply pw_below_drewN | apply below_drew1) | exact HB.out)⟩⟩
                  · rw [if_neg c9] at H
                    exact absurd H (by simp)
                · rw [if_neg c8] at H
                  have c8b0 : decide (128 ≤ x7_2) = false := decide_eq_false c8
                  clear c8
                  by_cases c11 : x5_2.length < 140737488355328
                  · rw [if_pos c11] at H
                    have LMc11 := Aside0.mk c11
                    clear c11
                    obtain ⟨y256, hy256⟩ : ∃ y_ : List Int, y_ = (x5_2 ++ [(x7_2) % 256]) := ⟨_, rfl⟩
                    replace H : (varint_Put.l0 k2 y256 l1 (l1.length : Int) (wrap64 (x13_1 + 1))) = some r := by first | (rw [hy256]; with_reducible exact H) | (have H2_ := (Option.bind_some _ _).symm.trans H; rw [hy256]; with_reducible exact H2_) | (have H2_ := (Option.bind_some _ _).symm.trans H; with_reducible exact H2_) | with_reducible exact H | (rw [hy256]; exact H) | exact H
                    have Ny256 := Aside0.mk hy256
                    clear hy256
                    have H' := Aside0.mk H
                    clear H
                    go_wp2_with (first | ((with_reducible refine gate_builtin (b := .append) (xs := #[.tmp 27, .tmp 30]) rfl ?_); at_builtin; refine RCF.append (p := True) (w0 := w) w.heap.size rfl (.tmp 27) (.tmp 30) 22 5 (.int .u8 0) 1 rfl Try.underlying22 info5 rfl (by decide) (by omega) rfl u5 x5_2 ((x7_2) % 256) rfl rfl ?aO ?aB ?aS ?aL ?_; (case aB => exact (by repeat (first | (with_reducible first | exact HB.out | apply below_alloc | apply pw_below_drewN | apply below_drew1) | exact HB.out))); (case aO => exact (by (with_reducible repeat (first | apply RCF.alloc | apply RCF.drewN | apply RCF.drew)); exact HO_5.out)); (case aS => exact (below_size (by repeat (first | (with_reducible first | exact HB.out | apply below_alloc | apply pw_below_drewN | apply below_drew1) | exact HB.out)))); (case aL => have := LMc11.out; omega); intro v257 w12 ho hb; rw [← Ny256.out] at ho; have n0_ := Aside0.mk (hb); have n1_ := Aside0.mk (ho); clear HB; clear HO_5; have HB := n0_; have HO258 := n1_; clear n0_ n1_; clear ho hb))
                    go_roundg k2
                    case measure => have := HK1.out; have := HK2.out; omega
                    case rel => exact ⟨(y256), (wrap64 (x13_1 + 1)), (by first | rfl | (simp; done) | (simp [*]; done)), H', ⟨by have := HK1.out; have := HK2.out; omega⟩, ⟨by (with_reducible repeat (first | apply RCF.alloc | apply RCF.drewN | apply RCF.drew)); exact .inl HO258.out⟩, ⟨by repeat (first | (with_reducible first | exact HB.out | apply below_alloc | apply pw_below_drewN | apply below_drew1) | exact HB.out)⟩⟩
                  · rw [if_neg c11] at H
                    exact absurd H (by simp)
          · rw [if_neg c7] at H
            exact absurd H (by simp)
        · rw [if_neg c6] at H
          exact absurd H (by simp)
      · rw [if_neg c5] at H
        have c5b0 : decide (x13_1 < (l1.length : Int)) = false := decide_eq_false c5
        have HEX := Aside0.mk (fun (h_ : x13_1 = 0 ∧ l0 ≠ []) => by
          rcases HNE.out with z_ | z_
          · exact h_.2 z_
          · have := List.length_pos_iff.2 z_
            omega)
        clear c5
        obtain rfl := Option.some.inj H
        go_wp2
        go_ret
        exact ⟨_, by first | rfl | (simp [errW_none, errW_some] <;> rfl) | (simp [*, errW_none, errW_some] <;> rfl), by (with_reducible repeat (first | apply RCF.alloc | apply RCF.drewN | apply RCF.drew)); exact RCF.done HO_5.out HEX.out, by repeat (first | (with_reducible first | exact HB.out | apply below_alloc | apply pw_below_drewN | apply below_drew1) | exact HB.out)⟩

/-! ### varint_Zig: function 30 -/
def varint_Zig.f (a0 : Int) : Option (Int) := some (Go.bits .xor .u64 (IntKind.u64.wrap (wrap64 (a0 * 2))) (IntKind.u64.wrap (a0 / 9223372036854775808)))
set_option maxHeartbeats 8000000 in
set_option maxRecDepth 100000 in
theorem varint_Zig.calls (a0 : Int) (r : Int) (w : World) (h : varint_Zig.f a0 = some r) :
    Calls Try.prog 30 #[.int .i64 a0] w fun e w' => e = .returned (.int .u64 r) ∧ Drawn0 w w' := by
  have H : (some (Go.bits .xor .u64 (IntKind.u64.wrap (wrap64 (a0 * 2))) (IntKind.u64.wrap (a0 / 9223372036854775808)))) = some r := h
  clear h
  obtain rfl := Option.some.inj H
  go_enter Try.func30, Try.ntmps30
  go_wp2
  go_ret
  exact ⟨by first | rfl | (simp; done) | (simp [*]; done), by repeat (first | exact Drawn0.refl _ | apply Drawn0.step)⟩

/-! ### decklelaw04_CursorNumbers: function 7 -/
mutual
def decklelaw04_CursorNumbers.j0 : Nat → List Int → List Int → Bool → Bool → Option (Bool)
  | 0, _, _, _, _ => none
  | k + 1, x0, x1, x5, x23 => if x23 = true then (some x5) else (decklelaw04_CursorNumbers.l0 k x0 x1 x5 ([] : List Int) 0)
def decklelaw04_CursorNumbers.l0 : Nat → List Int → List Int → Bool → List Int → Int → Option (Bool)
  | 0, _, _, _, _, _ => none
  | k + 1, x0, x1, x5, x6, x7 => if x7 < (x0.length : Int) then (if 0 ≤ x7 then ((varint_Zig.f (rd x0 x7)).bind fun t261 => ((varint_Put.f k x6 (([t261] : List Int))).bind fun t265 => (if (rd x0 x7) ≥ 0 then ((varint_Put.f k t265 (([IntKind.u64.wrap (rd x0 x7)] : List Int))).bind fun t273 => (decklelaw04_CursorNumbers.l0 k x0 x1 x5 t273 (wrap64 (x7 + 1)))) else (decklelaw04_CursorNumbers.l0 k x0 x1 x5 t265 (wrap64 (x7 + 1)))))) else (none)) else ((some (([] : List Int) : List Int)).bind fun y276 => (if y276.length + x6.length < 140737488355328 then ((some (y276 ++ x6 : List Int)).bind fun y279 => (if y279.length + x1.length < 140737488355328 then ((cursor_Open.f (y279 ++ x1) 7).bind fun bt285 => (decklelaw04_CursorNumbers.l1 k x0 x1 x5 x6 0 bt285.1 bt285.2.1 bt285.2.2.1 bt285.2.2.2.1 bt285.2.2.2.2)) else (none))) else (none)))
def decklelaw04_CursorNumbers.l1 : Nat → List Int → List Int → Bool → List Int → Int → Int → Int → Int → Int → (List Int) → Option (Bool)
  | 0, _, _, _, _, _, _, _, _, _, _ => none
  | k + 1, x0, x1, x5, x6, x9, x291000, x291001, x291002, x291003, x291004 => if x9 < (x0.length : Int) then ((cursor_Cursor_Int.f k x291000 x291001 x291002 x291003 x291004).bind fun bt291 => (if 0 ≤ x9 then (if (rd x0 x9) ≥ 0 then ((cursor_Cursor_Num.f k bt291.2.1 bt291.2.2.1 bt291.2.2.2.1 bt291.2.2.2.2.1 bt291.2.2.2.2.2 (rd x0 x9)).bind fun bt300 => (if bt291.1 = (rd x0 x9) then (if bt300.1 = (rd x0 x9) then (decklelaw04_CursorNumbers.l1 k x0 x1 x5 x6 (wrap64 (x9 + 1)) bt300.2.1 bt300.2.2.1 bt300.2.2.2.1 bt300.2.2.2.2.1 bt300.2.2.2.2.2) else (none)) else (none))) else (if bt291.1 = (rd x0 x9) then (if (rd x0 x9) = (rd x0 x9) then (decklelaw04_CursorNumbers.l1 k x0 x1 x5 x6 (wrap64 (x9 + 1)) bt291.2.1 bt291.2.2.1 bt291.2.2.2.1 bt291.2.2.2.2.1 bt291.2.2.2.2.2) else (none)) else (none))) else (none))) else ((cursor_place_At.f x291000 x291001 x291002 x291003 x291004).bind fun bt310 => ((cursor_Cursor_Left.f bt310.2.1 bt310.2.2.1 bt310.2.2.2.1 bt310.2.2.2.2.1 bt310.2.2.2.2.2).bind fun bt316 => ((cursor_Cursor_Take.f bt316.2.1 bt316.2.2.1 bt316.2.2.2.1 bt316.2.2.2.2.1 bt316.2.2.2.2.2 bt316.1).bind fun bt322 => ((cursor_Cursor_End.f bt322.2.1 bt322.2.2.1 bt322.2.2.2.1 bt322.2.2.2.2.1 bt322.2.2.2.2.2).bind fun bt330 => (if x5 = true then (if bt310.1 = (wrap64 (7 + (x6.length : Int))) then (if (strOfNums bt322.1).toList = (strOfNums x1).toList then (some (bt330.1 == 0 && (bt330.2.1 == 0 && (bt330.2.2.1 == 0)))) else (none)) else (none)) else (none))))))
end
def decklelaw04_CursorNumbers.f (k : Nat) (l0 : List Int) (l1 : List Int) : Option (Bool) := (decklelaw04_small.f k).bind fun t259 => (if (l0.length : Int) > 50 then (decklelaw04_CursorNumbers.j0 k l0 l1 t259 true) else (decklelaw04_CursorNumbers.j0 k l0 l1 t259 (decide ((l1.length : Int) > 200))))
theorem decklelaw04_CursorNumbers.mono_l : ∀ k, (∀ y0 y1 y2 y3, LeO (decklelaw04_CursorNumbers.j0 k y0 y1 y2 y3) (decklelaw04_CursorNumbers.j0 (k + 1) y0 y1 y2 y3)) ∧ (∀ y0 y1 y2 y3 y4, LeO (decklelaw04_CursorNumbers.l0 k y0 y1 y2 y3 y4) (decklelaw04_CursorNumbers.l0 (k + 1) y0 y1 y2 y3 y4)) ∧ (∀ y0 y1 y2 y3 y4 y5 y6 y7 y8 y9, LeO (decklelaw04_CursorNumbers.l1 k y0 y1 y2 y3 y4 y5 y6 y7 y8 y9) (decklelaw04_CursorNumbers.l1 (k + 1) y0 y1 y2 y3 y4 y5 y6 y7 y8 y9))
  | 0 => ⟨fun _ _ _ _ r h => by simp [decklelaw04_CursorNumbers.j0] at h, fun _ _ _ _ _ r h => by simp [decklelaw04_CursorNumbers.l0] at h, fun _ _ _ _ _ _ _ _ _ _ r h => by simp [decklelaw04_CursorNumbers.l1] at h⟩
  | k + 1 => by
    obtain ⟨ih0, ih1, ih2⟩ := decklelaw04_CursorNumbers.mono_l k
    refine ⟨?_, ?_, ?_⟩
    · intro y0 y1 y2 y3
      unfold decklelaw04_CursorNumbers.j0
      repeat' first
      | (with_reducible exact ih0 _ _ _ _)
      | (with_reducible exact ih1 _ _ _ _ _)
      | (with_reducible exact ih2 _ _ _ _ _ _ _ _ _ _)
      | (with_reducible exact cursor_Cursor_Int.mono _ _ _ _ _ _)
      | (with_reducible exact cursor_Cursor_Num.mono _ _ _ _ _ _ _)
      | (with_reducible exact decklelaw04_small.mono _)
      | (with_reducible exact varint_Put.mono _ _ _)
      | (with_reducible exact LeO.refl _)
      | (with_reducible exact LeO.none _)
      | (with_reducible refine LeO.ite ?_ ?_)
      | (with_reducible refine LeO.bind ?_ (fun _ => ?_))
      | exact ih0 _ _ _ _
      | exact ih1 _ _ _ _ _
      | exact ih2 _ _ _ _ _ _ _ _ _ _
      | exact cursor_Cursor_Int.mono _ _ _ _ _ _
      | exact cursor_Cursor_Num.mono _ _ _ _ _ _ _
      | exact decklelaw04_small.mono _
      | exact varint_Put.mono _ _ _
      | exact LeO.none _
      | refine LeO.ite ?_ ?_
      | refine LeO.bind ?_ (fun _ => ?_)
    · intro y0 y1 y2 y3 y4
      unfold decklelaw04_CursorNumbers.l0
      repeat' first
      | (with_reducible exact ih0 _ _ _ _)
      | (with_reducible exact ih1 _ _ _ _ _)
      | (with_reducible exact ih2 _ _ _ _ _ _ _ _ _ _)
      | (with_reducible exact cursor_Cursor_Int.mono _ _ _ _ _ _)
      | (with_reducible exact cursor_Cursor_Num.mono _ _ _ _ _ _ _)
      | (with_reducible exact decklelaw04_small.mono _)
      | (with_reducible exact varint_Put.mono _ _ _)
      | (with_reducible exact LeO.refl _)
      | (with_reducible exact LeO.none _)
      | (with_reducible refine LeO.ite ?_ ?_)
      | (with_reducible refine LeO.bind ?_ (fun _ => ?_))
      | exact ih0 _ _ _ _
      | exact ih1 _ _ _ _ _
      | exact ih2 _ _ _ _ _ _ _ _ _ _
      | exact cursor_Cursor_Int.mono _ _ _ _ _ _
      | exact cursor_Cursor_Num.mono _ _ _ _ _ _ _
      | exact decklelaw04_small.mono _
      | exact varint_Put.mono _ _ _
      | exact LeO.none _
      | refine LeO.ite ?_ ?_
      | refine LeO.bind ?_ (fun _ => ?_)
    · intro y0 y1 y2 y3 y4 y5 y6 y7 y8 y9
      unfold decklelaw04_CursorNumbers.l1
      repeat' first
      | (with_reducible exact ih0 _ _ _ _)
      | (with_reducible exact ih1 _ _ _ _ _)
      | (with_reducible exact ih2 _ _ _ _ _ _ _ _ _ _)
      | (with_reducible exact cursor_Cursor_Int.mono _ _ _ _ _ _)
      | (with_reducible exact cursor_Cursor_Num.mono _ _ _ _ _ _ _)
      | (with_reducible exact decklelaw04_small.mono _)
      | (with_reducible exact varint_Put.mono _ _ _)
      | (with_reducible exact LeO.refl _)
      | (with_reducible exact LeO.none _)
      | (with_reducible refine LeO.ite ?_ ?_)
      | (with_reducible refine LeO.bind ?_ (fun _ => ?_))
      | exact ih0 _ _ _ _
      | exact ih1 _ _ _ _ _
      | exact ih2 _ _ _ _ _ _ _ _ _ _
      | exact cursor_Cursor_Int.mono _ _ _ _ _ _
      | exact cursor_Cursor_Num.mono _ _ _ _ _ _ _
      | exact decklelaw04_small.mono _
      | exact varint_Put.mono _ _ _
      | exact LeO.none _
      | refine LeO.ite ?_ ?_
      | refine LeO.bind ?_ (fun _ => ?_)
theorem decklelaw04_CursorNumbers.mono : ∀ a0 a1 k, LeO (decklelaw04_CursorNumbers.f k a0 a1) (decklelaw04_CursorNumbers.f (k + 1) a0 a1) := by
  intro a0 a1 k
  obtain ⟨ih0, ih1, ih2⟩ := decklelaw04_CursorNumbers.mono_l k
  unfold decklelaw04_CursorNumbers.f
  repeat' first
      | (with_reducible exact ih0 _ _ _ _)
      | (with_reducible exact ih1 _ _ _ _ _)
      | (with_reducible exact ih2 _ _ _ _ _ _ _ _ _ _)
      | (with_reducible exact cursor_Cursor_Int.mono _ _ _ _ _ _)
      | (with_reducible exact cursor_Cursor_Num.mono _ _ _ _ _ _ _)
      | (with_reducible exact decklelaw04_small.mono _)
      | (with_reducible exact varint_Put.mono _ _ _)
      | (with_reducible exact LeO.refl _)
      | (with_reducible exact LeO.none _)
      | (with_reducible refine LeO.ite ?_ ?_)
      | (with_reducible refine LeO.bind ?_ (fun _ => ?_))
      | exact ih0 _ _ _ _
      | exact ih1 _ _ _ _ _
      | exact ih2 _ _ _ _ _ _ _ _ _ _
      | exact cursor_Cursor_Int.mono _ _ _ _ _ _
      | exact cursor_Cursor_Num.mono _ _ _ _ _ _ _
      | exact decklelaw04_small.mono _
      | exact varint_Put.mono _ _ _
      | exact LeO.none _
      | refine LeO.ite ?_ ?_
      | refine LeO.bind ?_ (fun _ => ?_)
set_option maxHeartbeats 8000000 in
set_option maxRecDepth 100000 in
theorem decklelaw04_CursorNumbers.calls (k : Nat) (A0 : Option Addr) (c0 : Nat) (l0 : List Int) (A1 : Option Addr) (c1 : Nat) (l1 : List Int) (r : Bool) (w : World) (hr0 : Kd.C (Kd.int .i64) w A0 l0.length l0) (hc0 : l0.length ≤ c0) (hr1 : Kd.C (Kd.int .u8) w A1 l1.length l1) (hc1 : l1.length ≤ c1) (h : decklelaw04_CursorNumbers.f k l0 l1 = some r) :
    Calls Try.prog 7 #[.slice A0 l0.length c0, .slice A1 l1.length c1] w fun e w' => e = .returned (.bool r) ∧ Below w.heap.size w w' := by
  have hu31 := Try.underlying31
  have HR0 := Aside0.mk hr0
  have HC0 := Aside0.mk hc0
  clear hr0 hc0
  have HR1 := Aside0.mk hr1
  have HC1 := Aside0.mk hc1
  clear hr1 hc1
  have HB := Aside0.mk (Below.refl w.heap.size w)
  have H : ((decklelaw04_small.f k).bind fun t259 => (if (l0.length : Int) > 50 then (decklelaw04_CursorNumbers.j0 k l0 l1 t259 true) else (decklelaw04_CursorNumbers.j0 k l0 l1 t259 (decide ((l1.length : Int) > 200))))) = some r := h
  clear h
  replace H := Option.bind_eq_some_iff.mp H
  obtain ⟨t259, A30, H⟩ := H
  replace H : (if (l0.length : Int) > 50 then (decklelaw04_CursorNumbers.j0 k l0 l1 t259 true) else (decklelaw04_CursorNumbers.j0 k l0 l1 t259 (decide ((l1.length : Int) > 200)))) = some r := H
  have A3 := Aside0.mk A30
  clear A30
  have HC4 := Aside0.mk H
  clear H
  go_enter Try.func7, Try.ntmps7
  go_upto_region 2 with (first | ((with_reducible refine gate_callee (f := 8) rfl ?_); refine goesL_ (some 15) rfl rfl Try.func8 (by kernel_rfl) rfl #[] rfl (by (try simp only [List.map_toArray, List.map_cons, List.map_nil]); first | done | rfl | (simp only [List.length_drop, List.length_take]; rfl)) ?_; (with_reducible refine (decklelaw04_small.calls k  t259 _ A3.out).mono ?_); rintro e w5 ⟨rfl, hb⟩; refine ⟨_, rfl, ?_⟩; have n0_ := Aside0.mk (below_step (by repeat (first | (with_reducible first | exact HB.out | apply below_alloc | apply pw_below_drewN | apply below_drew1) | exact HB.out)) hb); clear HB; have HB := n0_; clear n0_; (try clear hb); (try clear hb2); (try clear hk); (try clear hi)))
  (try simp only [Act.put, List.setIfInBounds_toArray, List.set_cons_zero, List.set_cons_succ])
  go_cut [23] (fun v23 wc => ∃ (kq : Nat) (x23_3 : Bool), v23 = .bool x23_3 ∧ Aside0 (decklelaw04_CursorNumbers.j0 kq l0 l1 t259 x23_3 = some r) ∧ Aside0 (kq ≤ k) ∧ Aside0 (Below w.heap.size w wc))
  case first =>
    have H := HC4.out
    clear HC4
    by_cases c6 : (l0.length : Int) > 50
    · rw [if_pos c6] at H
      have c6b0 : decide (50 < (l0.length : Int)) = true := decide_eq_true c6
      have c6b1 : decide (50 < l0.length) = true := decide_eq_true (by omega)
      clear c6
      (first | rw [c6b0] | (simp only [i64_w, i32_w]; rw [c6b0]) | skip)
      have H' := Aside0.mk H
      clear H
      go_wp2
      go_meet
      case rel => exact ⟨_, (true), (by first | rfl | (simp; done) | (simp [*]; done)), H', ⟨by first | omega | exact Nat.le_refl _⟩, ⟨by repeat (first | (with_reducible first | exact HB.out | apply below_alloc | apply pw_below_drewN | apply below_drew1) | exact HB.out)⟩⟩
    · rw [if_neg c6] at H
      have c6b0 : decide (50 < (l0.length : Int)) = false := decide_eq_false c6
      have c6b1 : decide (50 < l0.length) = false := decide_eq_false (by omega)
      clear c6
      (first | rw [c6b0] | (simp only [i64_w, i32_w]; rw [c6b0]) | skip)
      have H' := Aside0.mk H
      clear H
      go_wp2
      go_meet
      case rel => exact ⟨_, (decide ((l1.length : Int) > 200)), (by first | rfl | (simp; done) | (simp [*]; done)), H', ⟨by first | omega | exact Nat.le_refl _⟩, ⟨by repeat (first | (with_reducible first | exact HB.out | apply below_alloc | apply pw_below_drewN | apply below_drew1) | exact HB.out)⟩⟩
  case rest =>
    clear HC4
    try clear c1
    try clear p2
    try clear c6
    try clear c6b0
    try clear c6b1
    obtain ⟨kq, x23_3, rfl, HA, HJ3, HB⟩ := hcut
    cases kq with
    | zero => exact absurd HA.out (by simp [decklelaw04_CursorNumbers.j0])
    | succ kj3 =>
      have H := HA.out
      clear HA
      simp only [decklelaw04_CursorNumbers.j0] at H
      by_cases c7 : x23_3 = true
      · subst c7
        have H1 : (some t259) = some r := by rw [if_pos rfl] at H; exact H
        clear H
        have H := H1
        clear H1
        obtain rfl := Option.some.inj H
        go_wp2
        go_ret
        exact ⟨by first | rfl | (simp [errW_none, errW_some] <;> rfl) | (simp [*, errW_none, errW_some] <;> rfl), by repeat (first | (with_reducible first | exact HB.out | apply below_alloc | apply pw_below_drewN | apply below_drew1) | exact HB.out)⟩
      · replace c7 := Bool.eq_false_iff.mpr c7
        subst c7
        have H1 : (decklelaw04_CursorNumbers.l0 kj3 l0 l1 t259 ([] : List Int) 0) = some r := by rw [if_neg (show ¬ (false = true) by decide)] at H; exact H
        clear H
        have H := H1
        clear H1
        have H' := Aside0.mk H
        clear H
        go_wp2
        go_loopg [6, 7] kj3 (fun kq v6 v7 w' => ∃ (x6_2 : List Int) (x7_2 : Int), v7 = .int .i64 x7_2 ∧ Aside0 (decklelaw04_CursorNumbers.l0 kq l0 l1 t259 x6_2 x7_2 = some r) ∧ Aside0 (kq ≤ kj3) ∧ Aside0 (Kd.R (Kd.int .u8) 5 w' w.heap.size (fun _ => True) v6 x6_2) ∧ Aside0 (Below w.heap.size w w'))
        case atStart => exact ⟨(([] : List Int)), (0), (by first | rfl | (simp; done) | (simp [*]; done)), H', ⟨Nat.le_refl _⟩, ⟨by first | exact Kd.R_nil _ _ _ _ _ | exact Kd.N_nil _ _ _ _ _ | exact Kd.V_nil _ _ _ _ _ | exact Kd.Q_nil _ _ _ _ _ | exact Kd.S_nil _ _ _ _ _⟩, ⟨by repeat (first | (with_reducible first | exact HB.out | apply below_alloc | apply pw_below_drewN | apply below_drew1) | exact HB.out)⟩⟩
        case round =>
          clear H'
          try clear c1
          try clear p2
          try clear c6
          try clear c6b0
          try clear c6b1
          try clear c7
          try clear p2
          obtain ⟨x6_2, x7_2, rfl, HA, HK2, HO_6, HB⟩ := hrel
          cases gk with
          | zero => exact absurd HA.out (by simp [decklelaw04_CursorNumbers.l0])
          | succ k2 =>
            have H := HA.out
            clear HA
            simp only [decklelaw04_CursorNumbers.l0] at H
            by_cases c8 : x7_2 < (l0.length : Int)
            · rw [if_pos c8] at H
              have c8b0 : decide (x7_2 < (l0.length : Int)) = true := decide_eq_true c8
              clear c8
              by_cases c9 : 0 ≤ x7_2
              · rw [if_pos c9] at H
                have c9b0 : decide (0 ≤ x7_2) = true := decide_eq_true c9
                clear c9
                replace H := Option.bind_eq_some_iff.mp H
                obtain ⟨t261, A100, H⟩ := H
                replace H : ((varint_Put.f k2 x6_2 (([t261] : List Int))).bind fun t265 => (if (rd l0 x7_2) ≥ 0 then ((varint_Put.f k2 t265 (([IntKind.u64.wrap (rd l0 x7_2)] : List Int))).bind fun t273 => (decklelaw04_CursorNumbers.l0 k2 l0 l1 t259 t273 (wrap64 (x7_2 + 1)))) else (decklelaw04_CursorNumbers.l0 k2 l0 l1 t259 t265 (wrap64 (x7_2 + 1))))) = some r := H
                have A10 := Aside0.mk A100
                clear A100
                obtain ⟨y262, hy262⟩ : ∃ y_ : List Int, y_ = (([t261] : List Int)) := ⟨_, rfl⟩
                replace H : ((varint_Put.f k2 x6_2 y262).bind fun t265 => (if (rd l0 x7_2) ≥ 0 then ((varint_Put.f k2 t265 (([IntKind.u64.wrap (rd l0 x7_2)] : List Int))).bind fun t273 => (decklelaw04_CursorNumbers.l0 k2 l0 l1 t259 t273 (wrap64 (x7_2 + 1)))) else (decklelaw04_CursorNumbers.l0 k2 l0 l1 t259 t265 (wrap64 (x7_2 + 1))))) = some r := by first | (rw [hy262]; with_reducible exact H) | (have H2_ := (Option.bind_some _ _).symm.trans H; rw [hy262]; with_reducible exact H2_) | (have H2_ := (Option.bind_some _ _).symm.trans H; with_reducible exact H2_) | with_reducible exact H | (rw [hy262]; exact H) | exact H
                have Ny262 := Aside0.mk hy262
                clear hy262
                replace H := Option.bind_eq_some_iff.mp H
                obtain ⟨t265, A110, H⟩ := H
                replace H : (if (rd l0 x7_2) ≥ 0 then ((varint_Put.f k2 t265 (([IntKind.u64.wrap (rd l0 x7_2)] : List Int))).bind fun t273 => (decklelaw04_CursorNumbers.l0 k2 l0 l1 t259 t273 (wrap64 (x7_2 + 1)))) else (decklelaw04_CursorNumbers.l0 k2 l0 l1 t259 t265 (wrap64 (x7_2 + 1)))) = some r := H
                have A11 := Aside0.mk A110
                clear A110
                by_cases c12 : (rd l0 x7_2) ≥ 0
                · rw [if_pos c12] at H
                  have c12b0 : decide (0 ≤ (rd l0 x7_2)) = true := decide_eq_true c12
                  clear c12
                  obtain ⟨y270, hy270⟩ : ∃ y_ : List Int, y_ = (([IntKind.u64.wrap (rd l0 x7_2)] : List Int)) := ⟨_, rfl⟩
                  replace H : ((varint_Put.f k2 t265 y270).bind fun t273 => (decklelaw04_CursorNumbers.l0 k2 l0 l1 t259 t273 (wrap64 (x7_2 + 1)))) = some r := by first | (rw [hy270]; with_reducible exact H) | (have H2_ := (Option.bind_some _ _).symm.trans H; rw [hy270]; with_reducible exact H2_) | (have H2_ := (Option.bind_some _ _).symm.trans H; with_reducible exact H2_) | with_reducible exact H | (rw [hy270]; exact H) | exact H
                  have Ny270 := Aside0.mk hy270
                  clear hy270
                  replace H := Option.bind_eq_some_iff.mp H
                  obtain ⟨t273, A130, H⟩ := H
                  replace H : (decklelaw04_CursorNumbers.l0 k2 l0 l1 t259 t273 (wrap64 (x7_2 + 1))) = some r := H
                  have A13 := Aside0.mk A130
                  clear A130
                  have H' := Aside0.mk H
                  clear H
                  have p260 : 0 ≤ (x7_2 : Int) := of_decide_eq_true (by first | (with_reducible assumption) | assumption)
                  have q260 : x7_2 < (l0.length : Int) := of_decide_eq_true (by first | (with_reducible assumption) | assumption)
                  obtain ⟨ad260, e260, hx260_0⟩ := Kd.at_int HR0.out x7_2 p260 q260
                  cases e260
                  replace hx260_0 := (HB.out.cell (World.block_lt_of_cell? w _ hx260_0)).trans hx260_0
                  replace p260 := eq_true p260
                  replace q260 := eq_true q260
                  go_wp2_with (first | ((with_reducible refine gate_callee (f := 30) rfl ?_); refine goesL_ (some 36) rfl rfl Try.func30 (by kernel_rfl) rfl #[.int .i64 (rd l0 x7_2)] rfl (by (try simp only [List.map_toArray, List.map_cons, List.map_nil]); first | done | rfl | (simp only [List.length_drop, List.length_take]; rfl)) ?_; (with_reducible refine (varint_Zig.calls (rd l0 x7_2) t261 _ A10.out).mono ?_); rintro e w' ⟨rfl, ⟨nd, rfl⟩⟩; refine ⟨_, rfl, ?_⟩) | ((with_reducible refine gate_dst (N := 37) rfl ?_); (try (refine gate_guard (by rfl) ?_; dsimp only)); refine Kd.R_lit (Kd.int .u64) _ 49 ?hg (N := 37) ?hd (xs := ([t261] : List Int)) (inner := [.int .u64 t261]) (ok := fun _ => True) (okp := fun _ => True) ?hr ?hp (fun _ hk => hk) trivial (Below.refl _ _) (Nat.le_refl _) (by simp) ?_; (case hd => rfl); (case hg => rfl); (case hr => first | (go_simp; done) | (go_simp; rfl)); (case hp => exact (Reps.one (show Kd.M (Kd.int .u64) _ _ _ t261 [.int .u64 t261] from rfl) (Reps.none _ _))); intro v263 w14 ho15 hb hg_ hnew_; clear hg_ hnew_; (first | rw [← Ny262.out] at ho15 | (simp only [Int.reduceToNat] at ho15; rw [← Ny262.out] at ho15)); have n0_ := Aside0.mk (Kd.R_below (by (with_reducible repeat (first | apply Kd.R_alloc | apply Kd.R_drewN | apply Kd.R_drew)); exact HO_6.out) hb); have n1_ := Aside0.mk (Kd.R_lower ho15 (below_size (by repeat (first | (with_reducible first | exact HB.out | apply below_alloc | apply pw_below_drewN | apply below_drew1) | exact HB.out)))); have n2_ := Aside0.mk (below_step (by repeat (first | (with_reducible first | exact HB.out | apply below_alloc | apply pw_below_drewN | apply below_drew1) | exact HB.out)) hb); clear HO_6; clear HB; have HO_6 := n0_; have HO264 := n1_; have HB := n2_; clear n0_ n1_ n2_; clear hb ho15; obtain ⟨Ao16, co16, eo16⟩ := Kd.R_slice HO_6.out; subst eo16; obtain ⟨Ao17, co17, eo17⟩ := Kd.R_slice HO264.out; subst eo17) | ((with_reducible refine gate_callee (f := 29) rfl ?_); refine goesL_ (some 38) rfl rfl Try.func29 (by kernel_rfl) rfl #[.slice Ao16 x6_2.length co16, .slice Ao17 y262.length co17] rfl (by (try simp only [List.map_toArray, List.map_cons, List.map_nil]); first | done | rfl | (simp only [List.length_drop, List.length_take]; rfl)) ?_; (with_reducible refine (varint_Put.calls k2 _ _ x6_2 _ _ y262 t265 _ ?side1 ?side2 ?side3 ?side4 A11.out).mono ?_); (case side1 => repeat (first | exact (Kd.R_reads' HO_6.out).2.2 | (with_reducible refine Kd.C_alloc ?_ _) | (with_reducible refine Kd.C_drewN ?_ _) | (with_reducible refine Kd.C_drew ?_))); (case side2 => exact (Kd.R_reads' HO_6.out).2.1); (case side3 => repeat (first | exact (Kd.R_reads' HO264.out).2.2 | (with_reducible refine Kd.C_alloc ?_ _) | (with_reducible refine Kd.C_drewN ?_ _) | (with_reducible refine Kd.C_drew ?_))); (case side4 => exact (Kd.R_reads' HO264.out).2.1); rintro e w18 ⟨v266, rfl, ho0, hb⟩; refine ⟨_, rfl, ?_⟩; have n0_ := Aside0.mk (Kd.R_elder' (by (with_reducible repeat (first | apply Kd.R_alloc | apply Kd.R_drewN | apply Kd.R_drew)); exact HO_6.out) (Kd.R_base ho0) hb); have n1_ := Aside0.mk (Kd.R_below (by (with_reducible repeat (first | apply Kd.R_alloc | apply Kd.R_drewN | apply Kd.R_drew)); exact HO264.out) hb); have n2_ := Aside0.mk (Kd.R_lower (Kd.R_new' ho0 (Kd.R_lt (by (with_reducible repeat (first | apply Kd.R_alloc | apply Kd.R_drewN | apply Kd.R_drew)); exact HO_6.out))) (below_size (by repeat (first | (with_reducible first | exact HB.out | apply below_alloc | apply pw_below_drewN | apply below_drew1) | exact HB.out)))); have n3_ := Aside0.mk (below_step (by repeat (first | (with_reducible first | exact HB.out | apply below_alloc | apply pw_below_drewN | apply below_drew1) | exact HB.out)) hb); clear HO_6; clear HO264; clear HB; have HO_6 := n0_; have HO264 := n1_; have HO267 := n2_; have HB := n3_; clear n0_ n1_ n2_ n3_; (try clear hb); (try clear hb2); (try clear hk); (try clear hi); (try clear ho0); have p268 : 0 ≤ (x7_2 : Int) := of_decide_eq_true (by first | (with_reducible assumption) | assumption); have q268 : x7_2 < (l0.length : Int) := of_decide_eq_true (by first | (with_reducible assumption) | assumption); obtain ⟨ad268, e268, hx268_0⟩ := Kd.at_int HR0.out x7_2 p268 q268; obtain rfl : ad260 = ad268 := (by injection e268); replace hx268_0 := (HB.out.cell (World.block_lt_of_cell? w _ hx268_0)).trans hx268_0; replace p268 := eq_true p268; replace q268 := eq_true q268; have p269 : 0 ≤ (x7_2 : Int) := of_decide_eq_true (by first | (with_reducible assumption) | assumption); have q269 : x7_2 < (l0.length : Int) := of_decide_eq_true (by first | (with_reducible assumption) | assumption); obtain ⟨ad269, e269, hx269_0⟩ := Kd.at_int HR0.out x7_2 p269 q269; obtain rfl : ad260 = ad269 := (by injection e269); replace hx269_0 := (HB.out.cell (World.block_lt_of_cell? w _ hx269_0)).trans hx269_0; replace p269 := eq_true p269; replace q269 := eq_true q269) | ((with_reducible refine gate_dst (N := 50) rfl ?_); (try (refine gate_guard (by rfl) ?_; dsimp only)); refine Kd.R_lit (Kd.int .u64) _ 49 ?hg (N := 50) ?hd (xs := ([IntKind.u64.wrap (rd l0 x7_2)] : List Int)) (inner := [.int .u64 (IntKind.u64.wrap (rd l0 x7_2))]) (ok := fun _ => True) (okp := fun _ => True) ?hr ?hp (fun _ hk => hk) trivial (Below.refl _ _) (Nat.le_refl _) (by simp) ?_; (case hd => rfl); (case hg => rfl); (case hr => first | (go_simp; done) | (go_simp; rfl)); (case hp => exact (Reps.one (show Kd.M (Kd.int .u64) _ _ _ (IntKind.u64.wrap (rd l0 x7_2)) [.int .u64 (IntKind.u64.wrap (rd l0 x7_2))] from rfl) (Reps.none _ _))); intro v271 w19 ho20 hb hg_ hnew_; clear hg_ hnew_; (first | rw [← Ny270.out] at ho20 | (simp only [Int.reduceToNat] at ho20; rw [← Ny270.out] at ho20)); have n0_ := Aside0.mk (Kd.R_below (by (with_reducible repeat (first | apply Kd.R_alloc | apply Kd.R_drewN | apply Kd.R_drew)); exact HO_6.out) hb); have n1_ := Aside0.mk (Kd.R_elder' (by (with_reducible repeat (first | apply Kd.R_alloc | apply Kd.R_drewN | apply Kd.R_drew)); exact HO264.out) (Kd.R_base ho20) hb); have n2_ := Aside0.mk (Kd.R_below (by (with_reducible repeat (first | apply Kd.R_alloc | apply Kd.R_drewN | apply Kd.R_drew)); exact HO267.out) hb); have n3_ := Aside0.mk (Kd.R_lower (Kd.R_new' ho20 (Kd.R_lt (by (with_reducible repeat (first | apply Kd.R_alloc | apply Kd.R_drewN | apply Kd.R_drew)); exact HO264.out))) (below_size (by repeat (first | (with_reducible first | exact HB.out | apply below_alloc | apply pw_below_drewN | apply below_drew1) | exact HB.out)))); have n4_ := Aside0.mk (below_step (by repeat (first | (with_reducible first | exact HB.out | apply below_alloc | apply pw_below_drewN | apply below_drew1) | exact HB.out)) hb); clear HO_6; clear HO264; clear HO267; clear HB; have HO_6 := n0_; have HO264 := n1_; have HO267 := n2_; have HO272 := n3_; have HB := n4_; clear n0_ n1_ n2_ n3_ n4_; clear hb ho20; obtain ⟨Ao21, co21, eo21⟩ := Kd.R_slice HO267.out; subst eo21; obtain ⟨Ao22, co22, eo22⟩ := Kd.R_slice HO272.out; subst eo22) | ((with_reducible refine gate_callee (f := 29) rfl ?_); refine goesL_ (some 51) rfl rfl Try.func29 (by kernel_rfl) rfl #[.slice Ao21 t265.length co21, .slice Ao22 y270.length co22] rfl (by (try simp only [List.map_toArray, List.map_cons, List.map_nil]); first | done | rfl | (simp only [List.length_drop, List.length_take]; rfl)) ?_; (with_reducible refine (varint_Put.calls k2 _ _ t265 _ _ y270 t273 _ ?side1 ?side2 ?side3 ?side4 A13.out).mono ?_); (case side1 => repeat (first | exact (Kd.R_reads' HO267.out).2.2 | (with_reducible refine Kd.C_alloc ?_ _) | (with_reducible refine Kd.C_drewN ?_ _) | (with_reducible refine Kd.C_drew ?_))); (case side2 => exact (Kd.R_reads' HO267.out).2.1); (case side3 => repeat (first | exact (Kd.R_reads' HO272.out).2.2 | (with_reducible refine Kd.C_alloc ?_ _) | (with_reducible refine Kd.C_drewN ?_ _) | (with_reducible refine Kd.C_drew ?_))); (case side4 => exact (Kd.R_reads' HO272.out).2.1); rintro e w23 ⟨v274, rfl, ho0, hb⟩; refine ⟨_, rfl, ?_⟩; have n0_ := Aside0.mk (Kd.R_elder' (by (with_reducible repeat (first | apply Kd.R_alloc | apply Kd.R_drewN | apply Kd.R_drew)); exact HO_6.out) (Kd.R_base ho0) hb); have n1_ := Aside0.mk (Kd.R_below (by (with_reducible repeat (first | apply Kd.R_alloc | apply Kd.R_drewN | apply Kd.R_drew)); exact HO264.out) hb); have n2_ := Aside0.mk (Kd.R_elder' (by (with_reducible repeat (first | apply Kd.R_alloc | apply Kd.R_drewN | apply Kd.R_drew)); exact HO267.out) (Kd.R_base ho0) hb); have n3_ := Aside0.mk (Kd.R_below (by (with_reducible repeat (first | apply Kd.R_alloc | apply Kd.R_drewN | apply Kd.R_drew)); exact HO272.out) hb); have n4_ := Aside0.mk (Kd.R_lower (Kd.R_new' (Kd.R_new' ho0 (Kd.R_lt (by (with_reducible repeat (first | apply Kd.R_alloc | apply Kd.R_drewN | apply Kd.R_drew)); exact HO_6.out))) (Kd.R_lt (by (with_reducible repeat (first | apply Kd.R_alloc | apply Kd.R_drewN | apply Kd.R_drew)); exact HO267.out))) (below_size (by repeat (first | (with_reducible first | exact HB.out | apply below_alloc | apply pw_below_drewN | apply below_drew1) | exact HB.out)))); have n5_ := Aside0.mk (below_step (by repeat (first | (with_reducible first | exact HB.out | apply below_alloc | apply pw_below_drewN | apply below_drew1) | exact HB.out)) hb); clear HO_6; clear HO264; clear HO267; clear HO272; clear HB; have HO_6 := n0_; have HO264 := n1_; have HO267 := n2_; have HO272 := n3_; have HO275 := n4_; have HB := n5_; clear n0_ n1_ n2_ n3_ n4_ n5_; (try clear hb); (try clear hb2); (try clear hk); (try clear hi); (try clear ho0)))
                  go_roundg k2
                  case measure => have := HJ3.out; have := HK2.out; omega
                  case rel => exact ⟨(t273), (wrap64 (x7_2 + 1)), (by first | rfl | (simp; done) | (simp [*]; done)), H', ⟨by have := HJ3.out; have := HK2.out; omega⟩, ⟨by (with_reducible repeat (first | apply Kd.R_alloc | apply Kd.R_drewN | apply Kd.R_drew)); exact Kd.R_mono HO275.out (fun _ hk => trivial)⟩, ⟨by repeat (first | (with_reducible first | exact HB.out | apply below_alloc | apply pw_below_drewN | apply below_drew1) | exact HB.out)⟩⟩
                · rw [if_neg c12] at H
                  have c12b0 : decide (0 ≤ (rd l0 x7_2)) = false := decide_eq_false c12
                  clear c12
                  have H' := Aside0.mk H
                  clear H
                  have p260 : 0 ≤ (x7_2 : Int) := of_decide_eq_true (by first | (with_reducible assumption) | assumption)
                  have q260 : x7_2 < (l0.length : Int) := of_decide_eq_true (by first | (with_reducible assumption) | assumption)
                  obtain ⟨ad260, e260, hx260_0⟩ := Kd.at_int HR0.out x7_2 p260 q260
                  cases e260
                  replace hx260_0 := (HB.out.cell (World.block_lt_of_cell? w _ hx260_0)).trans hx260_0
                  replace p260 := eq_true p260
                  replace q260 := eq_true q260
                  go_wp2_with (first | ((with_reducible refine gate_callee (f := 30) rfl ?_); refine goesL_ (some 36) rfl rfl Try.func30 (by kernel_rfl) rfl #[.int .i64 (rd l0 x7_2)] rfl (by (try simp only [List.map_toArray, List.map_cons, List.map_nil]); first | done | rfl | (simp only [List.length_drop, List.length_take]; rfl)) ?_; (with_reducible refine (varint_Zig.calls (rd l0 x7_2) t261 _ A10.out).mono ?_); rintro e w' ⟨rfl, ⟨nd, rfl⟩⟩; refine ⟨_, rfl, ?_⟩) | ((with_reducible refine gate_dst (N := 37) rfl ?_); (try (refine gate_guard (by rfl) ?_; dsimp only)); refine Kd.R_lit (Kd.int .u64) _ 49 ?hg (N := 37) ?hd (xs := ([t261] : List Int)) (inner := [.int .u64 t261]) (ok := fun _ => True) (okp := fun _ => True) ?hr ?hp (fun _ hk => hk) trivial (Below.refl _ _) (Nat.le_refl _) (by simp) ?_; (case hd => rfl); (case hg => rfl); (case hr => first | (go_simp; done) | (go_simp; rfl)); (case hp => exact (Reps.one (show Kd.M (Kd.int .u64) _ _ _ t261 [.int .u64 t261] from rfl) (Reps.none _ _))); intro v263 w24 ho25 hb hg_ hnew_; clear hg_ hnew_; (first | rw [← Ny262.out] at ho25 | (simp only [Int.reduceToNat] at ho25; rw [← Ny262.out] at ho25)); have n0_ := Aside0.mk (Kd.R_below (by (with_reducible repeat (first | apply Kd.R_alloc | apply Kd.R_drewN | apply Kd.R_drew)); exact HO_6.out) hb); have n1_ := Aside0.mk (Kd.R_lower ho25 (below_size (by repeat (first | (with_reducible first | exact HB.out | apply below_alloc | apply pw_below_drewN | apply below_drew1) | exact HB.out)))); have n2_ := Aside0.mk (below_step (by repeat (first | (with_reducible first | exact HB.out | apply below_alloc | apply pw_below_drewN | apply below_drew1) | exact HB.out)) hb); clear HO_6; clear HB; have HO_6 := n0_; have HO264 := n1_; have HB := n2_; clear n0_ n1_ n2_; clear hb ho25; obtain ⟨Ao26, co26, eo26⟩ := Kd.R_slice HO_6.out; subst eo26; obtain ⟨Ao27, co27, eo27⟩ := Kd.R_slice HO264.out; subst eo27) | ((with_reducible refine gate_callee (f := 29) rfl ?_); refine goesL_ (some 38) rfl rfl Try.func29 (by kernel_rfl) rfl #[.slice Ao26 x6_2.length co26, .slice Ao27 y262.length co27] rfl (by (try simp only [List.map_toArray, List.map_cons, List.map_nil]); first | done | rfl | (simp only [List.length_drop, List.length_take]; rfl)) ?_; (with_reducible refine (varint_Put.calls k2 _ _ x6_2 _ _ y262 t265 _ ?side1 ?side2 ?side3 ?side4 A11.out).mono ?_); (case side1 => repeat (first | exact (Kd.R_reads' HO_6.out).2.2 | (with_reducible refine Kd.C_alloc ?_ _) | (with_reducible refine Kd.C_drewN ?_ _) | (with_reducible refine Kd.C_drew ?_))); (case side2 => exact (Kd.R_reads' HO_6.out).2.1); (case side3 => repeat (first | exact (Kd.R_reads' HO264.out).2.2 | (with_reducible refine Kd.C_alloc ?_ _) | (with_reducible refine Kd.C_drewN ?_ _) | (with_reducible refine Kd.C_drew ?_))); (case side4 => exact (Kd.R_reads' HO264.out).2.1); rintro e w28 ⟨v266, rfl, ho0, hb⟩; refine ⟨_, rfl, ?_⟩; have n0_ := Aside0.mk (Kd.R_elder' (by (with_reducible repeat (first | apply Kd.R_alloc | apply Kd.R_drewN | apply Kd.R_drew)); exact HO_6.out) (Kd.R_base ho0) hb); have n1_ := Aside0.mk (Kd.R_below (by (with_reducible repeat (first | apply Kd.R_alloc | apply Kd.R_drewN | apply Kd.R_drew)); exact HO264.out) hb); have n2_ := Aside0.mk (Kd.R_lower (Kd.R_new' ho0 (Kd.R_lt (by (with_reducible repeat (first | apply Kd.R_alloc | apply Kd.R_drewN | apply Kd.R_drew)); exact HO_6.out))) (below_size (by repeat (first | (with_reducible first | exact HB.out | apply below_alloc | apply pw_below_drewN | apply below_drew1) | exact HB.out)))); have n3_ := Aside0.mk (below_step (by repeat (first | (with_reducible first | exact HB.out | apply below_alloc | apply pw_below_drewN | apply below_drew1) | exact HB.out)) hb); clear HO_6; clear HO264; clear HB; have HO_6 := n0_; have HO264 := n1_; have HO267 := n2_; have HB := n3_; clear n0_ n1_ n2_ n3_; (try clear hb); (try clear hb2); (try clear hk); (try clear hi); (try clear ho0); have p268 : 0 ≤ (x7_2 : Int) := of_decide_eq_true (by first | (with_reducible assumption) | assumption); have q268 : x7_2 < (l0.length : Int) := of_decide_eq_true (by first | (with_reducible assumption) | assumption); obtain ⟨ad268, e268, hx268_0⟩ := Kd.at_int HR0.out x7_2 p268 q268; obtain rfl : ad260 = ad268 := (by injection e268); replace hx268_0 := (HB.out.cell (World.block_lt_of_cell? w _ hx268_0)).trans hx268_0; replace p268 := eq_true p268; replace q268 := eq_true q268))
                  go_roundg k2
                  case measure => have := HJ3.out; have := HK2.out; omega
                  case rel => exact ⟨(t265), (wrap64 (x7_2 + 1)), (by first | rfl | (simp; done) | (simp [*]; done)), H', ⟨by have := HJ3.out; have := HK2.out; omega⟩, ⟨by (with_reducible repeat (first | apply Kd.R_alloc | apply Kd.R_drewN | apply Kd.R_drew)); exact Kd.R_mono HO267.out (fun _ hk => trivial)⟩, ⟨by repeat (first | (with_reducible first | exact HB.out | apply below_alloc | apply pw_below_drewN | apply below_drew1) | exact HB.out)⟩⟩
              · rw [if_neg c9] at H
                exact absurd H (by simp)
            · rw [if_neg c8] at H
              have c8b0 : decide (x7_2 < (l0.length : Int)) = false := decide_eq_false c8
              clear c8
              obtain ⟨y276, hy276⟩ : ∃ y_ : List Int, y_ = (([] : List Int)) := ⟨_, rfl⟩
              replace H : (if y276.length + x6_2.length < 140737488355328 then ((some (y276 ++ x6_2 : List Int)).bind fun y279 => (if y279.length + l1.length < 140737488355328 then ((cursor_Open.f (y279 ++ l1) 7).bind fun bt285 => (decklelaw04_CursorNumbers.l1 k2 l0 l1 t259 x6_2 0 bt285.1 bt285.2.1 bt285.2.2.1 bt285.2.2.2.1 bt285.2.2.2.2)) else (none))) else (none)) = some r := by first | (rw [hy276]; with_reducible exact H) | (have H2_ := (Option.bind_some _ _).symm.trans H; rw [hy276]; with_reducible exact H2_) | (have H2_ := (Option.bind_some _ _).symm.trans H; with_reducible exact H2_) | with_reducible exact H | (rw [hy276]; exact H) | exact H
              have Ny276 := Aside0.mk hy276
              clear hy276
              by_cases c29 : y276.length + x6_2.length < 140737488355328
              · rw [if_pos c29] at H
                have LMc29 := Aside0.mk c29
                clear c29
                obtain ⟨y279, hy279⟩ : ∃ y_ : List Int, y_ = (y276 ++ x6_2) := ⟨_, rfl⟩
                replace H : (if y279.length + l1.length < 140737488355328 then ((cursor_Open.f (y279 ++ l1) 7).bind fun bt285 => (decklelaw04_CursorNumbers.l1 k2 l0 l1 t259 x6_2 0 bt285.1 bt285.2.1 bt285.2.2.1 bt285.2.2.2.1 bt285.2.2.2.2)) else (none)) = some r := by first | (rw [hy279]; with_reducible exact H) | (have H2_ := (Option.bind_some _ _).symm.trans H; rw [hy279]; with_reducible exact H2_) | (have H2_ := (Option.bind_some _ _).symm.trans H; with_reducible exact H2_) | with_reducible exact H | (rw [hy279]; exact H) | exact H
                have Ny279 := Aside0.mk hy279
                clear hy279
                by_cases c30 : y279.length + l1.length < 140737488355328
                · rw [if_pos c30] at H
                  have LMc30 := Aside0.mk c30
                  clear c30
                  obtain ⟨y282, hy282⟩ : ∃ y_ : List Int, y_ = (y279 ++ l1) := ⟨_, rfl⟩
                  replace H : ((cursor_Open.f y282 7).bind fun bt285 => (decklelaw04_CursorNumbers.l1 k2 l0 l1 t259 x6_2 0 bt285.1 bt285.2.1 bt285.2.2.1 bt285.2.2.2.1 bt285.2.2.2.2)) = some r := by first | (rw [hy282]; with_reducible exact H) | (have H2_ := (Option.bind_some _ _).symm.trans H; rw [hy282]; with_reducible exact H2_) | (have H2_ := (Option.bind_some _ _).symm.trans H; with_reducible exact H2_) | with_reducible exact H | (rw [hy282]; exact H) | exact H
                  have Ny282 := Aside0.mk hy282
                  clear hy282
                  replace H := Option.bind_eq_some_iff.mp H
                  obtain ⟨⟨t285, t286, t287, t288, t289⟩, A310, H⟩ := H
                  replace H : (decklelaw04_CursorNumbers.l1 k2 l0 l1 t259 x6_2 0 t285 t286 t287 t288 t289) = some r := H
                  have A31 := Aside0.mk A310
                  clear A310
                  have H' := Aside0.mk H
                  clear H
                  go_wp2_with (first | ((with_reducible refine gate_dst (N := 52) rfl ?_); (try (refine gate_guard (by rfl) ?_; dsimp only)); refine Kd.R_lit (Kd.int .u8) _ 5 ?hg (N := 52) ?hd (xs := ([] : List Int)) (inner := []) (ok := fun _ => True) (okp := fun _ => True) ?hr ?hp (fun _ hk => hk) trivial (Below.refl _ _) (Nat.le_refl _) (by simp) ?_; (case hd => rfl); (case hg => rfl); (case hr => first | (go_simp; done) | (go_simp; rfl)); (case hp => exact (Reps.none _ _)); intro v277 w32 ho33 hb hg_ hnew_; clear hg_ hnew_; (first | rw [← Ny276.out] at ho33 | (simp only [Int.reduceToNat] at ho33; rw [← Ny276.out] at ho33)); have n0_ := Aside0.mk (Kd.R_elder' (by (with_reducible repeat (first | apply Kd.R_alloc | apply Kd.R_drewN | apply Kd.R_drew)); exact HO_6.out) (Kd.R_base ho33) hb); have n1_ := Aside0.mk (Kd.R_lower (Kd.R_new' ho33 (Kd.R_lt (by (with_reducible repeat (first | apply Kd.R_alloc | apply Kd.R_drewN | apply Kd.R_drew)); exact HO_6.out))) (below_size (by repeat (first | (with_reducible first | exact HB.out | apply below_alloc | apply pw_below_drewN | apply below_drew1) | exact HB.out)))); have n2_ := Aside0.mk (below_step (by repeat (first | (with_reducible first | exact HB.out | apply below_alloc | apply pw_below_drewN | apply below_drew1) | exact HB.out)) hb); clear HO_6; clear HB; have HO_6 := n0_; have HO278 := n1_; have HB := n2_; clear n0_ n1_ n2_; clear hb ho33; obtain ⟨Ao35, co35, eo35⟩ := Kd.R_slice HO_6.out; subst eo35) | ((with_reducible refine gate_builtin (b := .append) (xs := #[.tmp 52, .tmp 53]) rfl ?_); (try (refine gate_guard (by rfl) ?_; dsimp only)); at_builtin; refine Kd.R_append_rows (Kd.int .u8) (w0 := w) w.heap.size rfl (.tmp 52) (.tmp 53) 22 5 (.int .u8 0) 1 rfl Try.underlying22 info5 rfl (by decide) (by omega) v277 y276 x6_2 _ _ _ (fun k_ => some k_ ≠ (.slice Ao35 x6_2.length co35 : Value).ownBlock) (fun _ => False) rfl rfl ?aO ?aR (fun _ _ h => h) (fun _ h => h.elim) ?aF ?aB ?aS ?aL ?_; (case aR => repeat (first | exact (Kd.R_reads' HO_6.out).2.2 | (with_reducible refine Kd.C_alloc ?_ _) | (with_reducible refine Kd.C_drewN ?_ _) | (with_reducible refine Kd.C_drew ?_))); (case aB => exact (by repeat (first | (with_reducible first | exact HB.out | apply below_alloc | apply pw_below_drewN | apply below_drew1) | exact HB.out))); (case aF => exact (fun k_ hk => Kd.fresh' (Kd.R_lt (by (with_reducible repeat (first | apply Kd.R_alloc | apply Kd.R_drewN | apply Kd.R_drew)); exact HO_6.out)) k_ hk)); (case aO => exact (by (with_reducible repeat (first | apply Kd.R_alloc | apply Kd.R_drewN | apply Kd.R_drew)); exact Kd.R_mono HO278.out (fun _ hk => hk.2))); (case aS => exact (below_size (by repeat (first | (with_reducible first | exact HB.out | apply below_alloc | apply pw_below_drewN | apply below_drew1) | exact HB.out)))); (case aL => have := LMc29.out; omega); intro v280 w34 ho hb hg hat; rw [← Ny279.out] at ho; have n0_ := Aside0.mk (Kd.R_after (ok := (fun _ => True)) (by (with_reducible repeat (first | apply Kd.R_alloc | apply Kd.R_drewN | apply Kd.R_drew)); exact HO_6.out) hg hat); have n1_ := Aside0.mk (hb); have n2_ := Aside0.mk (ho); clear HO_6; clear HB; clear HO278; have HO_6 := n0_; have HB := n1_; have HO281 := n2_; clear n0_ n1_ n2_; clear ho hb hg hat) | ((with_reducible refine gate_builtin (b := .append) (xs := #[.tmp 54, .tmp 55]) rfl ?_); (try (refine gate_guard (by rfl) ?_; dsimp only)); at_builtin; refine Kd.R_append_rows (Kd.int .u8) (w0 := w) w.heap.size rfl (.tmp 54) (.tmp 55) 22 5 (.int .u8 0) 1 rfl Try.underlying22 info5 rfl (by decide) (by omega) v280 y279 l1 _ _ _ (fun k_ => some k_ ≠ (.slice Ao35 x6_2.length co35 : Value).ownBlock) (fun _ => False) rfl rfl ?aO ?aR (fun _ _ h => h) (fun _ h => h.elim) ?aF ?aB ?aS ?aL ?_; (case aR => repeat (first | exact (Kd.C_below HR1.out HB.out) | (with_reducible refine Kd.C_alloc ?_ _) | (with_reducible refine Kd.C_drewN ?_ _) | (with_reducible refine Kd.C_drew ?_))); (case aB => exact (by repeat (first | (with_reducible first | exact HB.out | apply below_alloc | apply pw_below_drewN | apply below_drew1) | exact HB.out))); (case aF => exact (fun k_ hk => Kd.fresh' (Kd.R_lt (by (with_reducible repeat (first | apply Kd.R_alloc | apply Kd.R_drewN | apply Kd.R_drew)); exact HO_6.out)) k_ hk)); (case aO => exact (by (with_reducible repeat (first | apply Kd.R_alloc | apply Kd.R_drewN | apply Kd.R_drew)); exact HO281.out)); (case aS => exact (below_size (by repeat (first | (with_reducible first | exact HB.out | apply below_alloc | apply pw_below_drewN | apply below_drew1) | exact HB.out)))); (case aL => have := LMc30.out; omega); intro v283 w36 ho hb hg hat; rw [← Ny282.out] at ho; have n0_ := Aside0.mk (Kd.R_after (ok := (fun _ => True)) (by (with_reducible repeat (first | apply Kd.R_alloc | apply Kd.R_drewN | apply Kd.R_drew)); exact HO_6.out) hg hat); have n1_ := Aside0.mk (hb); have n2_ := Aside0.mk (ho); clear HO_6; clear HB; clear HO281; have HO_6 := n0_; have HB := n1_; have HO284 := n2_; clear n0_ n1_ n2_; clear ho hb hg hat; obtain ⟨Ao37, co37, eo37⟩ := Kd.R_slice HO284.out; subst eo37) | ((with_reducible refine gate_callee (f := 9) rfl ?_); refine goesL_ (some 57) rfl rfl Try.func9 (by kernel_rfl) rfl #[.slice Ao37 y282.length co37, .int .i64 7] rfl (by (try simp only [List.map_toArray, List.map_cons, List.map_nil]); first | done | rfl | (simp only [List.length_drop, List.length_take]; rfl)) ?_; (with_reducible refine (cursor_Open.calls _ _ y282 7 t285 t286 t287 t288 t289 w _ ?side1 ?side2 ?side3 A31.out).mono ?_); (case side1 => repeat (first | (with_reducible first | exact HB.out | apply below_alloc | apply pw_below_drewN | apply below_drew1) | exact HB.out)); (case side2 => repeat (first | exact (Kd.R_reads' HO284.out).2.2 | (with_reducible refine Kd.C_alloc ?_ _) | (with_reducible refine Kd.C_drewN ?_ _) | (with_reducible refine Kd.C_drew ?_))); (case side3 => exact (Kd.R_reads' HO284.out).2.1); rintro e w38 ⟨g290, rfl, hi, hb, hb2⟩; refine ⟨_, rfl, ?_⟩; have n0_ := Aside0.mk (Kd.R_below (by (with_reducible repeat (first | apply Kd.R_alloc | apply Kd.R_drewN | apply Kd.R_drew)); exact HO_6.out) hb2); have n1_ := Aside0.mk (Kd.R_below (by (with_reducible repeat (first | apply Kd.R_alloc | apply Kd.R_drewN | apply Kd.R_drew)); exact HO284.out) hb2); have n2_ := Aside0.mk (hb); have n3_ := Aside0.mk (hi); clear HO_6; clear HO284; clear HB; have HO_6 := n0_; have HO284 := n1_; have HB := n2_; have HI290 := n3_; clear n0_ n1_ n2_ n3_; (try clear hb); (try clear hb2); (try clear hk); (try clear hi)))
                  go_loopg [9] k2 (fun kq v9 w' => ∃ (x9_3 : Int) (x291000_3 : Int) (x291001_3 : Int) (x291002_3 : Int) (x291003_3 : Int) (x291004_3 : (List Int)), v9 = .int .i64 x9_3 ∧ Aside0 (decklelaw04_CursorNumbers.l1 kq l0 l1 t259 x6_2 x9_3 x291000_3 x291001_3 x291002_3 x291003_3 x291004_3 = some r) ∧ Aside0 (kq ≤ k2) ∧ Aside0 (Kd.R (Kd.int .u8) 5 w' w.heap.size (fun _ => True) (.slice Ao35 x6_2.length co35) x6_2) ∧ Aside0 (IsS35 w w' g290 x291000_3 x291001_3 x291002_3 x291003_3 x291004_3) ∧ Aside0 (Below w.heap.size w w'))
                  case atStart => exact ⟨(0), (t285), (t286), (t287), (t288), (t289), (by first | rfl | (simp; done) | (simp [*]; done)), H', ⟨Nat.le_refl _⟩, ⟨by (with_reducible repeat (first | apply Kd.R_alloc | apply Kd.R_drewN | apply Kd.R_drew)); exact Kd.R_mono HO_6.out (fun _ hk => trivial)⟩, ⟨by repeat (first | (with_reducible first | exact HI290.out | apply IsS35.alloc | apply IsS35.drewN | apply IsS35.drew | apply IsS35.set_0 | apply IsS35.set_1 | apply IsS35.set_2 | apply IsS35.set_3 | apply IsS35.set_4) | exact HI290.out)⟩, ⟨by repeat (first | (with_reducible first | exact HB.out | apply below_alloc | apply pw_below_drewN | apply below_drew1 | refine below_set ?_ (IsS35.ge HI290.out)) | exact HB.out)⟩⟩
                  case round =>
                    clear H'
                    try clear c1
                    try clear c2
                    try clear p2
                    try clear q2
                    try clear hx2
                    try clear c3
                    try clear c6
                    try clear c6b0
                    try clear c6b1
                    try clear p6
                    try clear c7
                    try clear c8
                    try clear c8b0
                    try clear c9
                    try clear c9b0
                    try clear c12
                    try clear c12b0
                    try clear p26
                    try clear q26
                    try clear hx26
                    try clear c29
                    try clear c30
                    try clear hx260_0
                    try clear hx268_0
                    try clear hx269_0
                    try clear p2
                    try clear p260
                    try clear p268
                    try clear p269
                    try clear q260
                    try clear q268
                    try clear q269
                    obtain ⟨x9_3, x291000_3, x291001_3, x291002_3, x291003_3, x291004_3, rfl, HA, HK3, HO_6, HI290, HB⟩ := hrel
                    cases gk with
                    | zero => exact absurd HA.out (by simp [decklelaw04_CursorNumbers.l1])
                    | succ k3 =>
                      have H := HA.out
                      clear HA
                      simp only [decklelaw04_CursorNumbers.l1] at H
                      by_cases c39 : x9_3 < (l0.length : Int)
                      · rw [if_pos c39] at H
                        have c39b0 : decide (x9_3 < (l0.length : Int)) = true := decide_eq_true c39
                        clear c39
                        replace H := Option.bind_eq_some_iff.mp H
                        obtain ⟨⟨t291, t292, t293, t294, t295, t296⟩, A400, H⟩ := H
                        replace H : (if 0 ≤ x9_3 then (if (rd l0 x9_3) ≥ 0 then ((cursor_Cursor_Num.f k3 t292 t293 t294 t295 t296 (rd l0 x9_3)).bind fun bt300 => (if t291 = (rd l0 x9_3) then (if bt300.1 = (rd l0 x9_3) then (decklelaw04_CursorNumbers.l1 k3 l0 l1 t259 x6_2 (wrap64 (x9_3 + 1)) bt300.2.1 bt300.2.2.1 bt300.2.2.2.1 bt300.2.2.2.2.1 bt300.2.2.2.2.2) else (none)) else (none))) else (if t291 = (rd l0 x9_3) then (if (rd l0 x9_3) = (rd l0 x9_3) then (decklelaw04_CursorNumbers.l1 k3 l0 l1 t259 x6_2 (wrap64 (x9_3 + 1)) t292 t293 t294 t295 t296) else (none)) else (none))) else (none)) = some r := by
                          simp only [eq_self, if_true]
                          first | exact H | (simp only [eq_self, if_true] at H; exact H)
                        have A40 := Aside0.mk A400
                        clear A400
                        by_cases c41 : 0 ≤ x9_3
                        · rw [if_pos c41] at H
                          have c41b0 : decide (0 ≤ x9_3) = true := decide_eq_true c41
                          clear c41
                          by_cases c42 : (rd l0 x9_3) ≥ 0
                          · rw [if_pos c42] at H
                            have c42b0 : decide (0 ≤ (rd l0 x9_3)) = true := decide_eq_true c42
                            clear c42
                            replace H := Option.bind_eq_some_iff.mp H
                            obtain ⟨⟨t300, t301, t302, t303, t304, t305⟩, A430, H⟩ := H
                            replace H : (if t291 = (rd l0 x9_3) then (if t300 = (rd l0 x9_3) then (decklelaw04_CursorNumbers.l1 k3 l0 l1 t259 x6_2 (wrap64 (x9_3 + 1)) t301 t302 t303 t304 t305) else (none)) else (none)) = some r := H
                            have A43 := Aside0.mk A430
                            clear A430
                            by_cases c44 : t291 = (rd l0 x9_3)
                            · rw [if_pos c44] at H
                              have c44b0 : (t291 == (rd l0 x9_3)) = true := beq_iff_eq.mpr c44
                              have c44b1 : (t291 != (rd l0 x9_3)) = false := bne_eq_false_iff_eq.mpr c44
                              clear c44
                              by_cases c45 : t300 = (rd l0 x9_3)
                              · rw [if_pos c45] at H
                                have c45b0 : (t300 == (rd l0 x9_3)) = true := beq_iff_eq.mpr c45
                                have c45b1 : (t300 != (rd l0 x9_3)) = false := bne_eq_false_iff_eq.mpr c45
                                clear c45
                                have H' := Aside0.mk H
                                clear H
                                go_wp2_with (first | ((with_reducible refine gate_callee (f := 19) rfl ?_); refine goesL_ (some 67) rfl rfl Try.func19 (by kernel_rfl) rfl #[.pointer (some ⟨g290, 0, none⟩)] rfl (by (try simp only [List.map_toArray, List.map_cons, List.map_nil]); first | done | rfl | (simp only [List.length_drop, List.length_take]; rfl)) ?_; (with_reducible refine (cursor_Cursor_Int.calls k3 g290 x291000_3 x291001_3 x291002_3 x291003_3 x291004_3 t291 t292 t293 t294 t295 t296 w _ ?side1 ?side2 A40.out).mono ?_); (case side1 => repeat (first | (with_reducible first | exact HI290.out | apply IsS35.alloc | apply IsS35.drewN | apply IsS35.drew | apply IsS35.set_0 | apply IsS35.set_1 | apply IsS35.set_2 | apply IsS35.set_3 | apply IsS35.set_4) | exact HI290.out)); (case side2 => repeat (first | (with_reducible first | exact HB.out | apply below_alloc | apply pw_below_drewN | apply below_drew1 | refine below_set ?_ (IsS35.ge HI290.out)) | exact HB.out)); rintro e w46 ⟨rfl, hi, hb, hk⟩; refine ⟨_, rfl, ?_⟩; have n0_ := Aside0.mk (Kd.R_mono (Kd.R_keep (IsS35.apart (show IsS35 w _ g290 x291000_3 x291001_3 x291002_3 x291003_3 x291004_3 from by repeat (first | (with_reducible first | exact HI290.out | apply IsS35.alloc | apply IsS35.drewN | apply IsS35.drew | apply IsS35.set_0 | apply IsS35.set_1 | apply IsS35.set_2 | apply IsS35.set_3 | apply IsS35.set_4) | exact HI290.out)) (by (with_reducible repeat (first | apply Kd.R_alloc | apply Kd.R_drewN | apply Kd.R_drew)); exact HO_6.out) (by decide)) hk (fun _ h => h.2)) (fun _ h => h.1)); have n1_ := Aside0.mk (hb); have n2_ := Aside0.mk (hi); clear HO_6; clear HB; clear HI290; have HO_6 := n0_; have HB := n1_; have HI290 := n2_; clear n0_ n1_ n2_; (try clear hb); (try clear hb2); (try clear hk); (try clear hi); have p297 : 0 ≤ (x9_3 : Int) := of_decide_eq_true (by first | (with_reducible assumption) | assumption); have q297 : x9_3 < (l0.length : Int) := of_decide_eq_true (by first | (with_reducible assumption) | assumption); obtain ⟨ad297, e297, hx297_0⟩ := Kd.at_int HR0.out x9_3 p297 q297; cases e297; replace hx297_0 := (HB.out.cell (World.block_lt_of_cell? w _ hx297_0)).trans hx297_0; replace p297 := eq_true p297; replace q297 := eq_true q297; have p298 : 0 ≤ (x9_3 : Int) := of_decide_eq_true (by first | (with_reducible assumption) | assumption); have q298 : x9_3 < (l0.length : Int) := of_decide_eq_true (by first | (with_reducible assumption) | assumption); obtain ⟨ad298, e298, hx298_0⟩ := Kd.at_int HR0.out x9_3 p298 q298; obtain rfl : ad297 = ad298 := (by injection e298); replace hx298_0 := (HB.out.cell (World.block_lt_of_cell? w _ hx298_0)).trans hx298_0; replace p298 := eq_true p298; replace q298 := eq_true q298; have p299 : 0 ≤ (x9_3 : Int) := of_decide_eq_true (by first | (with_reducible assumption) | assumption); have q299 : x9_3 < (l0.length : Int) := of_decide_eq_true (by first | (with_reducible assumption) | assumption); obtain ⟨ad299, e299, hx299_0⟩ := Kd.at_int HR0.out x9_3 p299 q299; obtain rfl : ad297 = ad299 := (by injection e299); replace hx299_0 := (HB.out.cell (World.block_lt_of_cell? w _ hx299_0)).trans hx299_0; replace p299 := eq_true p299; replace q299 := eq_true q299) | ((with_reducible refine gate_callee (f := 17) rfl ?_); refine goesL_ (some 82) rfl rfl Try.func17 (by kernel_rfl) rfl #[.pointer (some ⟨g290, 0, none⟩), .int .i64 (rd l0 x9_3)] rfl (by (try simp only [List.map_toArray, List.map_cons, List.map_nil]); first | done | rfl | (simp only [List.length_drop, List.length_take]; rfl)) ?_; (with_reducible refine (cursor_Cursor_Num.calls k3 g290 t292 t293 t294 t295 t296 (rd l0 x9_3) t300 t301 t302 t303 t304 t305 w _ ?side1 ?side2 A43.out).mono ?_); (case side1 => repeat (first | (with_reducible first | exact HI290.out | apply IsS35.alloc | apply IsS35.drewN | apply IsS35.drew | apply IsS35.set_0 | apply IsS35.set_1 | apply IsS35.set_2 | apply IsS35.set_3 | apply IsS35.set_4) | exact HI290.out)); (case side2 => repeat (first | (with_reducible first | exact HB.out | apply below_alloc | apply pw_below_drewN | apply below_drew1 | refine below_set ?_ (IsS35.ge HI290.out)) | exact HB.out)); rintro e w47 ⟨rfl, hi, hb, hk⟩; refine ⟨_, rfl, ?_⟩; have n0_ := Aside0.mk (Kd.R_mono (Kd.R_keep (IsS35.apart (show IsS35 w _ g290 t292 t293 t294 t295 t296 from by repeat (first | (with_reducible first | exact HI290.out | apply IsS35.alloc | apply IsS35.drewN | apply IsS35.drew | apply IsS35.set_0 | apply IsS35.set_1 | apply IsS35.set_2 | apply IsS35.set_3 | apply IsS35.set_4) | exact HI290.out)) (by (with_reducible repeat (first | apply Kd.R_alloc | apply Kd.R_drewN | apply Kd.R_drew)); exact HO_6.out) (by decide)) hk (fun _ h => h.2)) (fun _ h => h.1)); have n1_ := Aside0.mk (hb); have n2_ := Aside0.mk (hi); clear HO_6; clear HB; clear HI290; have HO_6 := n0_; have HB := n1_; have HI290 := n2_; clear n0_ n1_ n2_; (try clear hb); (try clear hb2); (try clear hk); (try clear hi); have p306 : 0 ≤ (x9_3 : Int) := of_decide_eq_true (by first | (with_reducible assumption) | assumption); have q306 : x9_3 < (l0.length : Int) := of_decide_eq_true (by first | (with_reducible assumption) | assumption); obtain ⟨ad306, e306, hx306_0⟩ := Kd.at_int HR0.out x9_3 p306 q306; obtain rfl : ad297 = ad306 := (by injection e306); replace hx306_0 := (HB.out.cell (World.block_lt_of_cell? w _ hx306_0)).trans hx306_0; replace p306 := eq_true p306; replace q306 := eq_true q306; have p307 : 0 ≤ (x9_3 : Int) := of_decide_eq_true (by first | (with_reducible assumption) | assumption); have q307 : x9_3 < (l0.length : Int) := of_decide_eq_true (by first | (with_reducible assumption) | assumption); obtain ⟨ad307, e307, hx307_0⟩ := Kd.at_int HR0.out x9_3 p307 q307; obtain rfl : ad297 = ad307 := (by injection e307); replace hx307_0 := (HB.out.cell (World.block_lt_of_cell? w _ hx307_0)).trans hx307_0; replace p307 := eq_true p307; replace q307 := eq_true q307))
                                go_roundg k3
                                case measure => have := HJ3.out; have := HK2.out; have := HK3.out; omega
                                case rel => exact ⟨(wrap64 (x9_3 + 1)), (t301), (t302), (t303), (t304), (t305), (by first | rfl | (simp; done) | (simp [*]; done)), H', ⟨by have := HJ3.out; have := HK2.out; have := HK3.out; omega⟩, ⟨by (with_reducible repeat (first | apply Kd.R_alloc | apply Kd.R_drewN | apply Kd.R_drew)); exact HO_6.out⟩, ⟨by repeat (first | (with_reducible first | exact HI290.out | apply IsS35.alloc | apply IsS35.drewN | apply IsS35.drew | apply IsS35.set_0 | apply IsS35.set_1 | apply IsS35.set_2 | apply IsS35.set_3 | apply IsS35.set_4) | exact HI290.out)⟩, ⟨by repeat (first | (with_reducible first | exact HB.out | apply below_alloc | apply pw_below_drewN | apply below_drew1 | refine below_set ?_ (IsS35.ge HI290.out)) | exact HB.out)⟩⟩
                              · rw [if_neg c45] at H
                                exact absurd H (by simp)
                            · rw [if_neg c44] at H
                              exact absurd H (by simp)
                          · rw [if_neg c42] at H
                            have c42b0 : decide (0 ≤ (rd l0 x9_3)) = false := decide_eq_false c42
                            clear c42
                            by_cases c48 : t291 = (rd l0 x9_3)
                            · rw [if_pos c48] at H
                              have c48b0 : (t291 == (rd l0 x9_3)) = true := beq_iff_eq.mpr c48
                              have c48b1 : (t291 != (rd l0 x9_3)) = false := bne_eq_false_iff_eq.mpr c48
                              clear c48
                              by_cases c49 : (rd l0 x9_3) = (rd l0 x9_3)
                              · rw [if_pos c49] at H
                                have c49b0 : ((rd l0 x9_3) == (rd l0 x9_3)) = true := beq_iff_eq.mpr c49
                                have c49b1 : ((rd l0 x9_3) != (rd l0 x9_3)) = false := bne_eq_false_iff_eq.mpr c49
                                clear c49
                                have H' := Aside0.mk H
                                clear H
                                go_wp2_with (first | ((with_reducible refine gate_callee (f := 19) rfl ?_); refine goesL_ (some 67) rfl rfl Try.func19 (by kernel_rfl) rfl #[.pointer (some ⟨g290, 0, none⟩)] rfl (by (try simp only [List.map_toArray, List.map_cons, List.map_nil]); first | done | rfl | (simp only [List.length_drop, List.length_take]; rfl)) ?_; (with_reducible refine (cursor_Cursor_Int.calls k3 g290 x291000_3 x291001_3 x291002_3 x291003_3 x291004_3 t291 t292 t293 t294 t295 t296 w _ ?side1 ?side2 A40.out).mono ?_); (case side1 => repeat (first | (with_reducible first | exact HI290.out | apply IsS35.alloc | apply IsS35.drewN | apply IsS35.drew | apply IsS35.set_0 | apply IsS35.set_1 | apply IsS35.set_2 | apply IsS35.set_3 | apply IsS35.set_4) | exact HI290.out)); (case side2 => repeat (first | (with_reducible first | exact HB.out | apply below_alloc | apply pw_below_drewN | apply below_drew1 | refine below_set ?_ (IsS35.ge HI290.out)) | exact HB.out)); rintro e w50 ⟨rfl, hi, hb, hk⟩; refine ⟨_, rfl, ?_⟩; have n0_ := Aside0.mk (Kd.R_mono (Kd.R_keep (IsS35.apart (show IsS35 w _ g290 x291000_3 x291001_3 x291002_3 x291003_3 x291004_3 from by repeat (first | (with_reducible first | exact HI290.out | apply IsS35.alloc | apply IsS35.drewN | apply IsS35.drew | apply IsS35.set_0 | apply IsS35.set_1 | apply IsS35.set_2 | apply IsS35.set_3 | apply IsS35.set_4) | exact HI290.out)) (by (with_reducible repeat (first | apply Kd.R_alloc | apply Kd.R_drewN | apply Kd.R_drew)); exact HO_6.out) (by decide)) hk (fun _ h => h.2)) (fun _ h => h.1)); have n1_ := Aside0.mk (hb); have n2_ := Aside0.mk (hi); clear HO_6; clear HB; clear HI290; have HO_6 := n0_; have HB := n1_; have HI290 := n2_; clear n0_ n1_ n2_; (try clear hb); (try clear hb2); (try clear hk); (try clear hi); have p297 : 0 ≤ (x9_3 : Int) := of_decide_eq_true (by first | (with_reducible assumption) | assumption); have q297 : x9_3 < (l0.length : Int) := of_decide_eq_true (by first | (with_reducible assumption) | assumption); obtain ⟨ad297, e297, hx297_0⟩ := Kd.at_int HR0.out x9_3 p297 q297; cases e297; replace hx297_0 := (HB.out.cell (World.block_lt_of_cell? w _ hx297_0)).trans hx297_0; replace p297 := eq_true p297; replace q297 := eq_true q297; have p298 : 0 ≤ (x9_3 : Int) := of_decide_eq_true (by first | (with_reducible assumption) | assumption); have q298 : x9_3 < (l0.length : Int) := of_decide_eq_true (by first | (with_reducible assumption) | assumption); obtain ⟨ad298, e298, hx298_0⟩ := Kd.at_int HR0.out x9_3 p298 q298; obtain rfl : ad297 = ad298 := (by injection e298); replace hx298_0 := (HB.out.cell (World.block_lt_of_cell? w _ hx298_0)).trans hx298_0; replace p298 := eq_true p298; replace q298 := eq_true q298; have p308 : 0 ≤ (x9_3 : Int) := of_decide_eq_true (by first | (with_reducible assumption) | assumption); have q308 : x9_3 < (l0.length : Int) := of_decide_eq_true (by first | (with_reducible assumption) | assumption); obtain ⟨ad308, e308, hx308_0⟩ := Kd.at_int HR0.out x9_3 p308 q308; obtain rfl : ad297 = ad308 := (by injection e308); replace hx308_0 := (HB.out.cell (World.block_lt_of_cell? w _ hx308_0)).trans hx308_0; replace p308 := eq_true p308; replace q308 := eq_true q308; have p309 : 0 ≤ (x9_3 : Int) := of_decide_eq_true (by first | (with_reducible assumption) | assumption); have q309 : x9_3 < (l0.length : Int) := of_decide_eq_true (by first | (with_reducible assumption) | assumption); obtain ⟨ad309, e309, hx309_0⟩ := Kd.at_int HR0.out x9_3 p309 q309; obtain rfl : ad297 = ad309 := (by injection e309); replace hx309_0 := (HB.out.cell (World.block_lt_of_cell? w _ hx309_0)).trans hx309_0; replace p309 := eq_true p309; replace q309 := eq_true q309))
                                go_roundg k3
                                case measure => have := HJ3.out; have := HK2.out; have := HK3.out; omega
                                case rel => exact ⟨(wrap64 (x9_3 + 1)), (t292), (t293), (t294), (t295), (t296), (by first | rfl | (simp; done) | (simp [*]; done)), H', ⟨by have := HJ3.out; have := HK2.out; have := HK3.out; omega⟩, ⟨by (with_reducible repeat (first | apply Kd.R_alloc | apply Kd.R_drewN | apply Kd.R_drew)); exact HO_6.out⟩, ⟨by repeat (first | (with_reducible first | exact HI290.out | apply IsS35.alloc | apply IsS35.drewN | apply IsS35.drew | apply IsS35.set_0 | apply IsS35.set_1 | apply IsS35.set_2 | apply IsS35.set_3 | apply IsS35.set_4) | exact HI290.out)⟩, ⟨by repeat (first | (with_reducible first | exact HB.out | apply below_alloc | apply pw_below_drewN | apply below_drew1 | refine below_set ?_ (IsS35.ge HI290.out)) | exact HB.out)⟩⟩
                              · rw [if_neg c49] at H
                                exact absurd H (by simp)
                            · rw [if_neg c48] at H
                              exact absurd H (by simp)
                        · rw [if_neg c41] at H
                          exact absurd H (by simp)
                      · rw [if_neg c39] at H
                        have c39b0 : decide (x9_3 < (l0.length : Int)) = false := decide_eq_false c39
                        clear c39
                        replace H := Option.bind_eq_some_iff.mp H
                        obtain ⟨⟨t310, t311, t312, t313, t314, t315⟩, A510, H⟩ := H
                        replace H : ((cursor_Cursor_Left.f t311 t312 t313 t314 t315).bind fun bt316 => ((cursor_Cursor_Take.f bt316.2.1 bt316.2.2.1 bt316.2.2.2.1 bt316.2.2.2.2.1 bt316.2.2.2.2.2 bt316.1).bind fun bt322 => ((cursor_Cursor_End.f bt322.2.1 bt322.2.2.1 bt322.2.2.2.1 bt322.2.2.2.2.1 bt322.2.2.2.2.2).bind fun bt330 => (if t259 = true then (if t310 = (wrap64 (7 + (x6_2.length : Int))) then (if (strOfNums bt322.1).toList = (strOfNums l1).toList then (some (bt330.1 == 0 && (bt330.2.1 == 0 && (bt330.2.2.1 == 0)))) else (none)) else (none)) else (none))))) = some r := H
                        have A51 := Aside0.mk A510
                        clear A510
                        replace H := Option.bind_eq_some_iff.mp H
                        obtain ⟨⟨t316, t317, t318, t319, t320, t321⟩, A520, H⟩ := H
                        replace H : ((cursor_Cursor_Take.f t317 t318 t319 t320 t321 t316).bind fun bt322 => ((cursor_Cursor_End.f bt322.2.1 bt322.2.2.1 bt322.2.2.2.1 bt322.2.2.2.2.1 bt322.2.2.2.2.2).bind fun bt330 => (if t259 = true then (if t310 = (wrap64 (7 + (x6_2.length : Int))) then (if (strOfNums bt322.1).toList = (strOfNums l1).toList then (some (bt330.1 == 0 && (bt330.2.1 == 0 && (bt330.2.2.1 == 0)))) else (none)) else (none)) else (none)))) = some r := H
                        have A52 := Aside0.mk A520
                        clear A520
                        replace H := Option.bind_eq_some_iff.mp H
                        obtain ⟨⟨t322, t325, t326, t327, t328, t329⟩, A530, H⟩ := H
                        replace H : ((cursor_Cursor_End.f t325 t326 t327 t328 t329).bind fun bt330 => (if t259 = true then (if t310 = (wrap64 (7 + (x6_2.length : Int))) then (if (strOfNums t322).toList = (strOfNums l1).toList then (some (bt330.1 == 0 && (bt330.2.1 == 0 && (bt330.2.2.1 == 0)))) else (none)) else (none)) else (none))) = some r := H
                        have A53 := Aside0.mk A530
                        clear A530
                        replace H := Option.bind_eq_some_iff.mp H
                        obtain ⟨⟨t330, t331, t332, t333, t334, t335, t336, t337⟩, A540, H⟩ := H
                        replace H : (if t259 = true then (if t310 = (wrap64 (7 + (x6_2.length : Int))) then (if (strOfNums t322).toList = (strOfNums l1).toList then (some (t330 == 0 && (t331 == 0 && (t332 == 0)))) else (none)) else (none)) else (none)) = some r := H
                        have A54 := Aside0.mk A540
                        clear A540
                        by_cases c55 : t259 = true
                        · subst c55
                          have H1 : (if t310 = (wrap64 (7 + (x6_2.length : Int))) then (if (strOfNums t322).toList = (strOfNums l1).toList then (some (t330 == 0 && (t331 == 0 && (t332 == 0)))) else (none)) else (none)) = some r := by rw [if_pos rfl] at H; exact H
                          clear H
                          have H := H1
                          clear H1
                          by_cases c56 : t310 = (wrap64 (7 + (x6_2.length : Int)))
                          · rw [if_pos c56] at H
                            have c56b0 : (t310 == (wrap64 (7 + (x6_2.length : Int)))) = true := beq_iff_eq.mpr c56
                            have c56b1 : (t310 != (wrap64 (7 + (x6_2.length : Int)))) = false := bne_eq_false_iff_eq.mpr c56
                            clear c56
                            by_cases c57 : (strOfNums t322).toList = (strOfNums l1).toList
                            · rw [if_pos c57] at H
                              have c57b0 : ((strOfNums t322).toList == (strOfNums l1).toList) = true := beq_iff_eq.mpr c57
                              have c57b1 : ((strOfNums t322).toList != (strOfNums l1).toList) = false := bne_eq_false_iff_eq.mpr c57
                              clear c57
                              obtain rfl := Option.some.inj H
                              go_wp2_with (first | ((with_reducible refine gate_callee (f := 12) rfl ?_); refine goesL_ (some 100) rfl rfl Try.func12 (by kernel_rfl) rfl #[.pointer (some ⟨g290, 0, none⟩)] rfl (by (try simp only [List.map_toArray, List.map_cons, List.map_nil]); first | done | rfl | (simp only [List.length_drop, List.length_take]; rfl)) ?_; (with_reducible refine (cursor_place_At.calls g290 x291000_3 x291001_3 x291002_3 x291003_3 x291004_3 t310 t311 t312 t313 t314 t315 w _ ?side1 ?side2 A51.out).mono ?_); (case side1 => repeat (first | (with_reducible first | exact HI290.out | apply IsS35.alloc | apply IsS35.drewN | apply IsS35.drew | apply IsS35.set_0 | apply IsS35.set_1 | apply IsS35.set_2 | apply IsS35.set_3 | apply IsS35.set_4) | exact HI290.out)); (case side2 => repeat (first | (with_reducible first | exact HB.out | apply below_alloc | apply pw_below_drewN | apply below_drew1 | refine below_set ?_ (IsS35.ge HI290.out)) | exact HB.out)); rintro e w58 ⟨rfl, hi, hb, hk⟩; refine ⟨_, rfl, ?_⟩; have n0_ := Aside0.mk (Kd.R_mono (Kd.R_keep (IsS35.apart (show IsS35 w _ g290 x291000_3 x291001_3 x291002_3 x291003_3 x291004_3 from by repeat (first | (with_reducible first | exact HI290.out | apply IsS35.alloc | apply IsS35.drewN | apply IsS35.drew | apply IsS35.set_0 | apply IsS35.set_1 | apply IsS35.set_2 | apply IsS35.set_3 | apply IsS35.set_4) | exact HI290.out)) (by (with_reducible repeat (first | apply Kd.R_alloc | apply Kd.R_drewN | apply Kd.R_drew)); exact HO_6.out) (by decide)) hk (fun _ h => h.2)) (fun _ h => h.1)); have n1_ := Aside0.mk (hb); have n2_ := Aside0.mk (hi); clear HO_6; clear HB; clear HI290; have HO_6 := n0_; have HB := n1_; have HI290 := n2_; clear n0_ n1_ n2_; (try clear hb); (try clear hb2); (try clear hk); (try clear hi)) | ((with_reducible refine gate_callee (f := 10) rfl ?_); refine goesL_ (some 103) rfl rfl Try.func10 (by kernel_rfl) rfl #[.pointer (some ⟨g290, 0, none⟩)] rfl (by (try simp only [List.map_toArray, List.map_cons, List.map_nil]); first | done | rfl | (simp only [List.length_drop, List.length_take]; rfl)) ?_; (with_reducible refine (cursor_Cursor_Left.calls g290 t311 t312 t313 t314 t315 t316 t317 t318 t319 t320 t321 w _ ?side1 ?side2 A52.out).mono ?_); (case side1 => repeat (first | (with_reducible first | exact HI290.out | apply IsS35.alloc | apply IsS35.drewN | apply IsS35.drew | apply IsS35.set_0 | apply IsS35.set_1 | apply IsS35.set_2 | apply IsS35.set_3 | apply IsS35.set_4) | exact HI290.out)); (case side2 => repeat (first | (with_reducible first | exact HB.out | apply below_alloc | apply pw_below_drewN | apply below_drew1 | refine below_set ?_ (IsS35.ge HI290.out)) | exact HB.out)); rintro e w59 ⟨rfl, hi, hb, hk⟩; refine ⟨_, rfl, ?_⟩; have n0_ := Aside0.mk (Kd.R_mono (Kd.R_keep (IsS35.apart (show IsS35 w _ g290 t311 t312 t313 t314 t315 from by repeat (first | (with_reducible first | exact HI290.out | apply IsS35.alloc | apply IsS35.drewN | apply IsS35.drew | apply IsS35.set_0 | apply IsS35.set_1 | apply IsS35.set_2 | apply IsS35.set_3 | apply IsS35.set_4) | exact HI290.out)) (by (with_reducible repeat (first | apply Kd.R_alloc | apply Kd.R_drewN | apply Kd.R_drew)); exact HO_6.out) (by decide)) hk (fun _ h => h.2)) (fun _ h => h.1)); have n1_ := Aside0.mk (hb); have n2_ := Aside0.mk (hi); clear HO_6; clear HB; clear HI290; have HO_6 := n0_; have HB := n1_; have HI290 := n2_; clear n0_ n1_ n2_; (try clear hb); (try clear hb2); (try clear hk); (try clear hi)) | ((with_reducible refine gate_callee (f := 11) rfl ?_); refine goesL_ (some 104) rfl rfl Try.func11 (by kernel_rfl) rfl #[.pointer (some ⟨g290, 0, none⟩), .int .i64 t316] rfl (by (try simp only [List.map_toArray, List.map_cons, List.map_nil]); first | done | rfl | (simp only [List.length_drop, List.length_take]; rfl)) ?_; (with_reducible refine (cursor_Cursor_Take.calls g290 t317 t318 t319 t320 t321 t316 t322 t325 t326 t327 t328 t329 w _ ?side1 ?side2 A53.out).mono ?_); (case side1 => repeat (first | (with_reducible first | exact HI290.out | apply IsS35.alloc | apply IsS35.drewN | apply IsS35.drew | apply IsS35.set_0 | apply IsS35.set_1 | apply IsS35.set_2 | apply IsS35.set_3 | apply IsS35.set_4) | exact HI290.out)); (case side2 => repeat (first | (with_reducible first | exact HB.out | apply below_alloc | apply pw_below_drewN | apply below_drew1 | refine below_set ?_ (IsS35.ge HI290.out)) | exact HB.out)); rintro e w60 ⟨v323, rfl, ho0, hi, hb, hk⟩; refine ⟨_, rfl, ?_⟩; have n0_ := Aside0.mk (Kd.R_mono (Kd.R_told (Kd.R_oldK (IsS35.apart (show IsS35 w _ g290 t317 t318 t319 t320 t321 from by repeat (first | (with_reducible first | exact HI290.out | apply IsS35.alloc | apply IsS35.drewN | apply IsS35.drew | apply IsS35.set_0 | apply IsS35.set_1 | apply IsS35.set_2 | apply IsS35.set_3 | apply IsS35.set_4) | exact HI290.out)) (by (with_reducible repeat (first | apply Kd.R_alloc | apply Kd.R_drewN | apply Kd.R_drew)); exact HO_6.out) (by decide)) hk) (Kd.R_base ho0)) (fun _ h_ => h_.1)); have n1_ := Aside0.mk (Kd.R_lower (Kd.R_new' ho0 (Kd.R_lt (by (with_reducible repeat (first | apply Kd.R_alloc | apply Kd.R_drewN | apply Kd.R_drew)); exact HO_6.out))) (below_size (by repeat (first | (with_reducible first | exact HB.out | apply below_alloc | apply pw_below_drewN | apply below_drew1 | refine below_set ?_ (IsS35.ge HI290.out)) | exact HB.out)))); have n2_ := Aside0.mk (hb); have n3_ := Aside0.mk (hi); clear HO_6; clear HB; clear HI290; have HO_6 := n0_; have HO324 := n1_; have HB := n2_; have HI290 := n3_; clear n0_ n1_ n2_ n3_; (try clear hb); (try clear hb2); (try clear hk); (try clear hi); (try clear ho0)) | ((with_reducible refine gate_callee (f := 27) rfl ?_); refine goesL_ (some 106) rfl rfl Try.func27 (by kernel_rfl) rfl #[.pointer (some ⟨g290, 0, none⟩)] rfl (by (try simp only [List.map_toArray, List.map_cons, List.map_nil]); first | done | rfl | (simp only [List.length_drop, List.length_take]; rfl)) ?_; (with_reducible refine (cursor_Cursor_End.calls g290 t325 t326 t327 t328 t329 t330 t331 t332 t333 t334 t335 t336 t337 w _ ?side1 ?side2 A54.out).mono ?_); (case side1 => repeat (first | (with_reducible first | exact HI290.out | apply IsS35.alloc | apply IsS35.drewN | apply IsS35.drew | apply IsS35.set_0 | apply IsS35.set_1 | apply IsS35.set_2 | apply IsS35.set_3 | apply IsS35.set_4) | exact HI290.out)); (case side2 => repeat (first | (with_reducible first | exact HB.out | apply below_alloc | apply pw_below_drewN | apply below_drew1 | refine below_set ?_ (IsS35.ge HI290.out)) | exact HB.out)); rintro e w61 ⟨rfl, hi, hb, hk⟩; refine ⟨_, rfl, ?_⟩; have n0_ := Aside0.mk (Kd.R_mono (Kd.R_keep (IsS35.apart (show IsS35 w _ g290 t325 t326 t327 t328 t329 from by repeat (first | (with_reducible first | exact HI290.out | apply IsS35.alloc | apply IsS35.drewN | apply IsS35.drew | apply IsS35.set_0 | apply IsS35.set_1 | apply IsS35.set_2 | apply IsS35.set_3 | apply IsS35.set_4) | exact HI290.out)) (by (with_reducible repeat (first | apply Kd.R_alloc | apply Kd.R_drewN | apply Kd.R_drew)); exact HO_6.out) (by decide)) hk (fun _ h => h.2)) (fun _ h => h.1)); have n1_ := Aside0.mk (Kd.R_mono (Kd.R_keep (IsS35.apart (show IsS35 w _ g290 t325 t326 t327 t328 t329 from by repeat (first | (with_reducible first | exact HI290.out | apply IsS35.alloc | apply IsS35.drewN | apply IsS35.drew | apply IsS35.set_0 | apply IsS35.set_1 | apply IsS35.set_2 | apply IsS35.set_3 | apply IsS35.set_4) | exact HI290.out)) (by (with_reducible repeat (first | apply Kd.R_alloc | apply Kd.R_drewN | apply Kd.R_drew)); exact HO324.out) (by decide)) hk (fun _ h => h.2)) (fun _ h => h.1)); have n2_ := Aside0.mk (hb); have n3_ := Aside0.mk (hi); clear HO_6; clear HO324; clear HB; clear HI290; have HO_6 := n0_; have HO324 := n1_; have HB := n2_; have HI290 := n3_; clear n0_ n1_ n2_ n3_; (try clear hb); (try clear hb2); (try clear hk); (try clear hi)) | ((with_reducible refine gate_dst (N := 14) rfl ?_); (try (refine gate_guard (by rfl) ?_; dsimp only)); refine box_event ?hg (N := 14) ?hd (cs := #[.int .i64 0, .int .i64 0, .int .i64 0]) (t := 31) ?hr ?_; (case hd => rfl); (case hg => rfl); (case hr => first | (go_simp; done) | (go_simp; rfl)); intro gb338 hg w62 hbox hb; have n0_ := Aside0.mk (Kd.R_below (by (with_reducible repeat (first | apply Kd.R_alloc | apply Kd.R_drewN | apply Kd.R_drew)); exact HO_6.out) hb); have n1_ := Aside0.mk (Kd.R_below (by (with_reducible repeat (first | apply Kd.R_alloc | apply Kd.R_drewN | apply Kd.R_drew)); exact HO324.out) hb); have n2_ := Aside0.mk (IsS35.below (by repeat (first | (with_reducible first | exact HI290.out | apply IsS35.alloc | apply IsS35.drewN | apply IsS35.drew | apply IsS35.set_0 | apply IsS35.set_1 | apply IsS35.set_2 | apply IsS35.set_3 | apply IsS35.set_4) | exact HI290.out)) hb); have n3_ := Aside0.mk (below_step (by repeat (first | (with_reducible first | exact HB.out | apply below_alloc | apply pw_below_drewN | apply below_drew1 | refine below_set ?_ (IsS35.ge HI290.out)) | exact HB.out)) hb); have n4_ := Aside0.mk (hbox); have n5_ := Aside0.mk ((by rw [hg]; exact (below_size (by repeat (first | (with_reducible first | exact HB.out | apply below_alloc | apply pw_below_drewN | apply below_drew1 | refine below_set ?_ (IsS35.ge HI290.out)) | exact HB.out))) : w.heap.size ≤ gb338)); have n6_ := Aside0.mk ((by rw [hg]; exact (below_size (by repeat (first | (with_reducible first | exact HB.out | apply below_alloc | apply pw_below_drewN | apply below_drew1 | refine below_set ?_ (IsS35.ge HI290.out)) | exact HB.out))) : w.heap.size ≤ gb338)); have n7_ := Aside0.mk ((by rw [hg]; exact Nat.ne_of_lt (IsS35.lt (show IsS35 w _ g290 t333 t334 t335 t336 t337 from by repeat (first | (with_reducible first | exact HI290.out | apply IsS35.alloc | apply IsS35.drewN | apply IsS35.drew | apply IsS35.set_0 | apply IsS35.set_1 | apply IsS35.set_2 | apply IsS35.set_3 | apply IsS35.set_4) | exact HI290.out))) : g290 ≠ gb338)); have n8_ := Aside0.mk ((by rw [hg]; exact Nat.ne_of_gt (IsS35.lt (show IsS35 w _ g290 t333 t334 t335 t336 t337 from by repeat (first | (with_reducible first | exact HI290.out | apply IsS35.alloc | apply IsS35.drewN | apply IsS35.drew | apply IsS35.set_0 | apply IsS35.set_1 | apply IsS35.set_2 | apply IsS35.set_3 | apply IsS35.set_4) | exact HI290.out))) : gb338 ≠ g290)); clear HO_6; clear HO324; clear HI290; clear HB; have HO_6 := n0_; have HO324 := n1_; have HI290 := n2_; have HB := n3_; have BK338 := n4_; have GW338 := n5_; have GE338 := n6_; have NB290_338 := n7_; have NB338_290 := n8_; clear n0_ n1_ n2_ n3_ n4_ n5_ n6_ n7_ n8_; clear hb hbox hg; have hnb63 := NB338_290.out; have hnc63 := NB290_338.out; have hcz64_0 : w62.cell? ⟨gb338, 0, none⟩ = some (.int .i64 0) := (blk_cell BK338.out 0).trans rfl; have hcz64_1 : w62.cell? ⟨gb338, 1, none⟩ = some (.int .i64 0) := (blk_cell BK338.out 1).trans rfl; have hcz64_2 : w62.cell? ⟨gb338, 2, none⟩ = some (.int .i64 0) := (blk_cell BK338.out 2).trans rfl; have hfz64_0 := blk_frozen BK338.out 0; have hfz64_1 := blk_frozen BK338.out 1; have hfz64_2 := blk_frozen BK338.out 2; have hcv65 := own_string (P := Try.prog) Try.underlying22 Try.underlying5 Try.underlying9 (Kd.own_of_R HO324.out); have hcv66 := Kd.C_string (P := Try.prog) (A := A1) (c := c1) Try.underlying22 Try.underlying5 Try.underlying9 (Kd.C_below HR1.out HB.out); have hcv65x := own_string (P := Try.prog) Try.underlying22 Try.underlying5 Try.underlying9 (Kd.own_of_R (Kd.R_keep (Kd.R_types HO324.out BK338.out (by decide)) ((((KeepBut.refl w62 gb338 none).set_ 0 (.int .i64 t330)).set_ 1 (.int .i64 t331)).set_ 2 (.int .i64 t332)) (fun _ h => h.2))); have hcv66x := Kd.C_string (P := Try.prog) (A := A1) (c := c1) Try.underlying22 Try.underlying5 Try.underlying9 (Kd.C_below HR1.out (show Below w.heap.size w (((w62.setCell ⟨gb338, 0, none⟩ (.int .i64 t330)).setCell ⟨gb338, 1, none⟩ (.int .i64 t331)).setCell ⟨gb338, 2, none⟩ (.int .i64 t332)) from below_set (below_set (below_set HB.out GE338.out) GE338.out) GE338.out))))
                              go_ret
                              exact ⟨by first | rfl | (simp [errW_none, errW_some] <;> rfl) | (simp [*, errW_none, errW_some] <;> rfl), by repeat (first | (with_reducible first | exact HB.out | apply below_alloc | apply pw_below_drewN | apply below_drew1 | refine below_set ?_ (IsS35.ge HI290.out) | refine below_set ?_ GE338.out) | exact HB.out)⟩
                            · rw [if_neg c57] at H
                              exact absurd H (by simp)
                          · rw [if_neg c56] at H
                            exact absurd H (by simp)
                        · replace c55 := Bool.eq_false_iff.mpr c55
                          subst c55
                          have H1 : (none) = some r := by rw [if_neg (show ¬ (false = true) by decide)] at H; exact H
                          clear H
                          have H := H1
                          clear H1
                          exact absurd H (by simp)
                · rw [if_neg c30] at H
                  exact absurd H (by simp)
              · rw [if_neg c29] at H
                exact absurd H (by simp)

/-- THE ONE PURE STATEMENT of decklelaw04_CursorNumbers: yours. -/
def decklelaw04_CursorNumbers.Pure : Prop := ∀ (l0 : List Int) (l1 : List Int), l0.length ≤ maxLen → l0.length * 8 ≤ 140737488351232 → (∀ x ∈ l0, (Lit.int .i64 x).wf = true) → l1.length ≤ maxLen → l1.length * 1 ≤ 140737488351232 → (∀ x ∈ l1, (Lit.int .u8 x).wf = true) → ∃ k, decklelaw04_CursorNumbers.f k l0 l1 = some true
theorem decklelaw04_CursorNumbers.walk (P : decklelaw04_CursorNumbers.Pure) (a0 : Option Addr) (len0 cap0 : Nat) (z0 : List Int) (a1 : Option Addr) (len1 cap1 : Nat) (z1 : List Int) (w : World) (w0 : (a0 = none ∧ len0 = 0 ∧ cap0 = 0 ∧ z0 = []) ∨ ∃ x, a0 = some x ∧ len0 ≤ cap0 ∧ cap0 ≤ maxLen ∧ z0.length = cap0 ∧ (∀ i, i < z0.length → w.cell? (x.add i) = some (.int .i64 (z0.getD i 0))) ∧ ∀ n ∈ z0, (Lit.int .i64 n).wf = true) (y0 : len0 * 8 ≤ 140737488351232) (w1 : (a1 = none ∧ len1 = 0 ∧ cap1 = 0 ∧ z1 = []) ∨ ∃ x, a1 = some x ∧ len1 ≤ cap1 ∧ cap1 ≤ maxLen ∧ z1.length = cap1 ∧ (∀ i, i < z1.length → w.cell? (x.add i) = some (.int .u8 (z1.getD i 0))) ∧ ∀ n ∈ z1, (Lit.int .u8 n).wf = true) (y1 : len1 * 1 ≤ 140737488351232) :
    Calls Try.prog 7 #[.slice a0 len0 cap0, .slice a1 len1 cap1] w fun e w' => e = .returned (.bool true) ∧ Below w.heap.size w w' := by
  obtain ⟨l0, rfl, hr0, hm0, hw0, hc0⟩ := ReadsInt.ofRowC w0
  obtain ⟨l1, rfl, hr1, hm1, hw1, hc1⟩ := ReadsInt.ofRowC w1
  obtain ⟨k, h⟩ := P l0 l1 hm0 y0 hw0 hm1 y1 hw1
  refine (decklelaw04_CursorNumbers.calls k _ _ l0 _ _ l1 true w (Kd.C_of_reads (d := (0 : Int)) (h1 := fun _ => rfl) hr0) hc0 (Kd.C_of_reads (d := (0 : Int)) (h1 := fun _ => rfl) hr1) hc1 h).mono ?_
  rintro e w' ⟨rfl, hd⟩
  exact ⟨rfl, hd⟩

end Go.Proofs.Ytgegbiknohjpgaa.HCursorNumbers
