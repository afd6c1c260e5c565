/- Nodes are the same as themselves and their copies, either way round, and not, if a field of one is another one: for all nodes and places. -/
import Derived.Test.YtgbmbcippldhnaaSArraySamex11
import Derived.KernelRfl
namespace Go.Proofs.Ytgbmbcippldhnaa.Pure
open Go.RowKit Go.Proofs.Ytgbmbcippldhnaa.HArraySame Go.Proofs.YtgbmbcippldhnaaW.PrintWords Go.Proofs.YtgbmbcippldhnaaW.PrintLast Go.Proofs.YtgbmbcippldhnaaW.PrintMore
set_option linter.unusedVariables false
set_option linter.unusedSimpArgs false
theorem w64 {n : Int} (h1 : -9223372036854775808 ≤ n) (h2 : n ≤ 9223372036854775807) : wrap64 n = n := by unfold wrap64; omega
theorem rd_at (b : List Int) (m : Nat) (h : m < b.length) : rd b (m : Int) = b[m] := by
  unfold rd
  rw [List.getD_eq_getElem?_getD, Int.toNat_natCast, List.getElem?_eq_getElem h]; rfl
theorem rdT_at (b : List S32) (m : Nat) (h : m < b.length) : rd_T32 b (m : Int) = b[m] := by
  unfold rd_T32
  rw [List.getD_eq_getElem?_getD, Int.toNat_natCast, List.getElem?_eq_getElem h]; rfl
def Ev {α : Type} (g : Nat → Option α) (v : α) : Prop := ∃ k0, ∀ k, k0 ≤ k → g k = some v
theorem Ev.const {α : Type} (v : α) : Ev (fun _ => some v) v := ⟨0, fun _ _ => rfl⟩
theorem Ev.bind {α β : Type} {g : Nat → Option α} {F : Nat → α → Option β} {u : α} {v : β} (h : Ev g u) (h2 : Ev (fun k => F k u) v) : Ev (fun k => (g k).bind (F k)) v := by
  obtain ⟨a, ha⟩ := h
  obtain ⟨b, hb⟩ := h2
  exact ⟨a + b, fun k hk => by show (g k).bind (F k) = some v; rw [ha k (by omega), Option.bind_some]; exact hb k (by omega)⟩
theorem Ev.succ {α : Type} {g : Nat → Option α} {v : α} (h : Ev (fun k => g (k + 1)) v) : Ev g v := by
  obtain ⟨a, ha⟩ := h
  refine ⟨a + 1, fun k hk => ?_⟩
  obtain ⟨j, rfl⟩ : ∃ j, k = j + 1 := ⟨k - 1, by omega⟩
  exact ha j (by omega)
theorem Ev.get {α : Type} {g : Nat → Option α} {v : α} (h : Ev g v) : ∃ k, g k = some v := by
  obtain ⟨a, ha⟩ := h
  exact ⟨a, ha a (Nat.le_refl _)⟩
theorem ix {i n : Nat} (h : i < n) (hn : n ≤ 1099511627776) : wrap64 ((i : Int) + 1) = ((i + 1 : Nat) : Int) := by rw [w64 (by omega) (by omega)]; omega
def Spec (n : S32) (v : Int) : Prop := Ev (fun k => shape_Count.f k n.f1) (v, true) ∧ 0 ≤ v ∧ v ≤ 1048576 ∧ (n.f0 = 5 → n.f2 = [] ∧ n.f3 = []) ∧ (n.f0 ≠ 5 → v ≤ (n.f2.length : Int) ∨ v ≤ (n.f3.length : Int))
noncomputable def itm (n : S32) : Int := open Classical in if h : ∃ v, Ev (fun k => array_items.f k n.f0 n.f1 n.f2 n.f3) v ∧ (v = -1 ∨ Spec n v) then h.choose else -1
def dec1 (v : Int) : Int := wrap64 (v - 1)
def decT : List Int → List Int
  | [] => []
  | x :: s => dec1 x :: s
theorem decT_length (s : List Int) : (decT s).length = s.length := by cases s <;> rfl
def clrN : Nat → List Int → List Int
  | 0, s => s
  | _ + 1, [] => []
  | n + 1, x :: s => if x = 0 then clrN n (decT s) else x :: s
def clr (s : List Int) : List Int := clrN s.length s
theorem clr_cons (x : Int) (s : List Int) : clr (x :: s) = if x = 0 then clr (decT s) else x :: s := by
  unfold clr
  rw [decT_length]; rfl
noncomputable def push (st : List Int) (n : S32) : List Int := if n.f0 = 5 then itm n :: st else decT st
open Classical in
noncomputable def walkS : Int → Int → List Int → Int → List S32 → Int × Int × Int
  | _, _, _, _, [] => (0, 0, 0)
  | all, deep, st, i, n :: r =>
    if itm n < 0 ∨ wrap64 (all + itm n) > 1048576 ∨ 16 ≤ st.length then (0, 0, 0)
    else if clr (push st n) = [] then (i + 1, wrap64 (all + itm n), mx deep (wrap64 ((st.length : Int) + 1)))
    else walkS (wrap64 (all + itm n)) (mx deep (wrap64 ((st.length : Int) + 1))) (clr (push st n)) (i + 1) r
theorem rev_last (x : Int) (s : List Int) : rd (x :: s).reverse ((s.length : Nat) : Int) = x := by
  rw [rd_at _ _ (by simp)]
  simp
theorem rev_set (x v : Int) (s : List Int) : (x :: s).reverse.set s.length v = (v :: s).reverse := by
  simp only [List.reverse_cons]
  rw [List.set_append_right _ _ (by simp)]
  simp
theorem rev_take (x : Int) (s : List Int) : (x :: s).reverse.take s.length = s.reverse := by
  rw [List.reverse_cons]
  rw [List.take_append_of_le_length (by simp)]
  exact List.take_of_length_le (by simp)
noncomputable def tk (l : List S32) : Int := (walkS 0 0 [] 0 l).1
noncomputable def rt (l : List S32) : Bool := if (l.length : Int) > 0 then (tk l == (l.length : Int)) else false
def Fits (n : S32) : Prop := n.f1.length ≤ 30 ∧ n.f2.length ≤ 300 ∧ n.f3.length ≤ 300
theorem few_loop (l : List S32) : ∀ d i, i ≤ l.length → i ≤ 200 → 200 - i = d → ∀ x : Int, 0 ≤ x → x ≤ 600 * (i : Int) →
    ∃ b, Ev (fun k => decklelaw10_Few.l0 k l x (i : Int)) b ∧ (b = true → l.length ≤ 100 ∧ ∀ n ∈ l.drop i, Fits n) := by
  intro d
  induction d with
  | zero =>
    intro i h1 h2 h3 x hx0 hx1
    by_cases hi : i < l.length
    · refine ⟨false, Ev.succ ?_, by simp⟩
      simp only [decklelaw10_Few.l0, if_pos (show ((i : Int) < (l.length : Int)) by omega), decide_eq_false (show ¬ ((i : Int) < 200) by omega)]
      refine Ev.succ ?_
      simp only [decklelaw10_Few.j1, Bool.false_eq_true, if_false, if_neg (show ¬ ((l.length : Int) ≤ 100) by omega)]
      exact Ev.const _
    · by_cases g : (l.length : Int) ≤ 100
      · refine ⟨decide (x ≤ 1000), Ev.succ ?_, fun _ => ⟨by omega, by rw [List.drop_eq_nil_of_le (by omega)]; simp⟩⟩
        simp only [decklelaw10_Few.l0, if_neg (show ¬ ((i : Int) < (l.length : Int)) by omega)]
        refine Ev.succ ?_
        simp only [decklelaw10_Few.j1, Bool.false_eq_true, if_false, if_pos g]
        exact Ev.const _
      · refine ⟨false, Ev.succ ?_, by simp⟩
        simp only [decklelaw10_Few.l0, if_neg (show ¬ ((i : Int) < (l.length : Int)) by omega)]
        refine Ev.succ ?_
        simp only [decklelaw10_Few.j1, Bool.false_eq_true, if_false, if_neg g]
        exact Ev.const _
  | succ d ih =>
    intro i h1 h2 h3 x hx0 hx1
    by_cases hi : i < l.length
    · have hrd : rd_T32 l (i : Int) = l[i] := rdT_at l i hi
      have hd : l.drop i = l[i] :: l.drop (i + 1) := (List.drop_eq_getElem_cons hi)
      rw [hd]
      generalize l[i] = n at hrd
      by_cases g1 : (n.f1.length : Int) > 30
      · refine ⟨false, Ev.succ ?_, by simp⟩
        simp only [decklelaw10_Few.l0, if_pos (show ((i : Int) < (l.length : Int)) by omega), decide_eq_true (show ((i : Int) < 200) by omega)]
        refine Ev.succ ?_
        simp only [decklelaw10_Few.j1, if_true, if_pos (show (0 : Int) ≤ (i : Int) by omega), if_pos (show ((i : Int) < (l.length : Int)) by omega), hrd, if_pos g1]
        exact Ev.const _
      · by_cases g2 : (n.f2.length : Int) > 300
        · refine ⟨false, Ev.succ ?_, by simp⟩
          simp only [decklelaw10_Few.l0, if_pos (show ((i : Int) < (l.length : Int)) by omega), decide_eq_true (show ((i : Int) < 200) by omega)]
          refine Ev.succ ?_
          simp only [decklelaw10_Few.j1, if_true, if_pos (show (0 : Int) ≤ (i : Int) by omega), if_pos (show ((i : Int) < (l.length : Int)) by omega), hrd, if_neg g1, if_pos g2]
          exact Ev.const _
        · by_cases g3 : (n.f3.length : Int) > 300
          · refine ⟨false, Ev.succ ?_, by simp⟩
            simp only [decklelaw10_Few.l0, if_pos (show ((i : Int) < (l.length : Int)) by omega), decide_eq_true (show ((i : Int) < 200) by omega)]
            refine Ev.succ ?_
            simp only [decklelaw10_Few.j1, if_true, if_pos (show (0 : Int) ≤ (i : Int) by omega), if_pos (show ((i : Int) < (l.length : Int)) by omega), hrd, if_neg g1, if_neg g2, if_pos g3]
            exact Ev.const _
          · have hw : wrap64 (wrap64 (x + (n.f2.length : Int)) + (n.f3.length : Int)) = x + (n.f2.length : Int) + (n.f3.length : Int) := by
              rw [w64 (n := x + (n.f2.length : Int)) (by omega) (by omega), w64 (by omega) (by omega)]
            have hw2 : wrap64 ((i : Int) + 1) = ((i + 1 : Nat) : Int) := by rw [w64 (by omega) (by omega)]; omega
            obtain ⟨b, hb, hb2⟩ := ih (i + 1) (by omega) (by omega) (by omega) (x + (n.f2.length : Int) + (n.f3.length : Int)) (by omega) (by omega)
            refine ⟨b, Ev.succ ?_, fun e => ⟨(hb2 e).1, fun y hy => ?_⟩⟩
            · simp only [decklelaw10_Few.l0, if_pos (show ((i : Int) < (l.length : Int)) by omega), decide_eq_true (show ((i : Int) < 200) by omega)]
              refine Ev.succ ?_
              simp only [decklelaw10_Few.j1, if_true, if_pos (show (0 : Int) ≤ (i : Int) by omega), if_pos (show ((i : Int) < (l.length : Int)) by omega), hrd, if_neg g1, if_neg g2, if_neg g3, hw, hw2]
              exact hb
            · rcases List.mem_cons.1 hy with rfl | hy
              · exact ⟨by omega, by omega, by omega⟩
              · exact (hb2 e).2 y hy
    · by_cases g : (l.length : Int) ≤ 100
      · refine ⟨decide (x ≤ 1000), Ev.succ ?_, fun _ => ⟨by omega, by rw [List.drop_eq_nil_of_le (by omega)]; simp⟩⟩
        simp only [decklelaw10_Few.l0, if_neg (show ¬ ((i : Int) < (l.length : Int)) by omega)]
        refine Ev.succ ?_
        simp only [decklelaw10_Few.j1, Bool.false_eq_true, if_false, if_pos g]
        exact Ev.const _
      · refine ⟨false, Ev.succ ?_, by simp⟩
        simp only [decklelaw10_Few.l0, if_neg (show ¬ ((i : Int) < (l.length : Int)) by omega)]
        refine Ev.succ ?_
        simp only [decklelaw10_Few.j1, Bool.false_eq_true, if_false, if_neg g]
        exact Ev.const _
theorem few_ev (l : List S32) : ∃ b, Ev (fun k => decklelaw10_Few.f k l) b ∧ (b = true → l.length ≤ 100 ∧ ∀ n ∈ l, Fits n) := by
  obtain ⟨b, hb, h2⟩ := few_loop l 200 0 (by omega) (by omega) rfl 0 (by omega) (by omega)
  exact ⟨b, hb, h2⟩
theorem copy_some (l : List S32) (h : l.length ≤ 100) (hf : ∀ n ∈ l, Fits n) : array_Copy.f l = some l := by
  unfold array_Copy.f
  rw [if_pos ⟨by omega, fun x hx => by have := hf x hx; unfold Fits at this; omega⟩]
theorem small_ev : Ev (fun k => decklelaw10_small.f k) true :=
  ⟨200, fun k hk => at_rounds (g := fun k => decklelaw10_small.f k) (fun k => decklelaw10_small.mono k) hk (by decide +kernel)⟩
def Fit2 (n : S32) : Prop := n.f1.length ≤ 1000 ∧ n.f2.length ≤ 1000 ∧ n.f3.length ≤ 1000
theorem rdD_at (b : List S41) (m : Nat) (h : m < b.length) : rd_T41 b (m : Int) = b[m] := by
  unfold rd_T41
  rw [List.getD_eq_getElem?_getD, Int.toNat_natCast, List.getElem?_eq_getElem h]; rfl
noncomputable def q {α : Type} (a b : α) : Bool := @decide (a = b) (Classical.propDecidable _)
theorem q_t {α : Type} {a b : α} (h : a = b) : q a b = true := by unfold q; exact @decide_eq_true _ (Classical.propDecidable _) h
theorem q_f {α : Type} {a b : α} (h : a ≠ b) : q a b = false := by unfold q; exact @decide_eq_false _ (Classical.propDecidable _) h
theorem q_nil {α : Type} {a b : List α} {i : Nat} (h : a.length ≤ i) (h2 : b.length ≤ i) : q (a.drop i) (b.drop i) = true := q_t (by rw [List.drop_eq_nil_of_le h, List.drop_eq_nil_of_le h2])
theorem q_eq {α : Type} {a b : List α} {i : Nat} (ha : i < a.length) (hb : i < b.length) (h : a[i] = b[i]) : q (a.drop i) (b.drop i) = q (a.drop (i + 1)) (b.drop (i + 1)) := by
  by_cases g : a.drop (i + 1) = b.drop (i + 1)
  · rw [q_t g, q_t (by rw [List.drop_eq_getElem_cons ha, List.drop_eq_getElem_cons hb, h, g])]
  · rw [q_f g, q_f (fun e => g (by rw [List.drop_eq_getElem_cons ha, List.drop_eq_getElem_cons hb] at e; injection e))]
theorem q_ne {α : Type} {a b : List α} {i : Nat} (ha : i < a.length) (hb : i < b.length) (h : a[i] ≠ b[i]) : q (a.drop i) (b.drop i) = false :=
  q_f (fun e => h (by rw [List.drop_eq_getElem_cons ha, List.drop_eq_getElem_cons hb] at e; injection e))
theorem eqi_loop (a b : List Int) (he : a.length = b.length) (hl : a.length ≤ 1099511627776) : ∀ d i, i ≤ a.length → a.length - i = d → Ev (fun k => slices_Equal_int_int.l0 k a b (a.length : Int) (i : Int)) (q (a.drop i) (b.drop i)) := by
  intro d
  induction d with
  | zero =>
    intro i h1 h2
    rw [q_nil (by omega) (by omega)]
    refine Ev.succ ?_
    simp only [slices_Equal_int_int.l0, if_neg (show ¬ ((i : Int) < (a.length : Int)) by omega)]
    exact Ev.const _
  | succ d ih =>
    intro i h1 h2
    have hi : i < a.length := by omega
    have hb : i < b.length := by omega
    have hv := ih (i + 1) (by omega) (by omega)
    refine Ev.succ ?_
    simp only [slices_Equal_int_int.l0, if_pos (show ((i : Int) < (a.length : Int)) by omega), if_pos (show ((i : Int) < (b.length : Int)) by omega), if_pos (show (0 : Int) ≤ (i : Int) by omega), ix hi hl, rd_at a i hi, rd_at b i hb]
    by_cases g : a[i] = b[i]
    · rw [q_eq hi hb g]; simp only [if_pos g]; exact hv
    · rw [q_ne hi hb g]; simp only [if_neg g]; exact Ev.const _
theorem eqi_ev (a b : List Int) (hl : a.length ≤ 1099511627776) : Ev (fun k => slices_Equal_int_int.f k a b) (q a b) := by
  by_cases h : (a.length : Int) = (b.length : Int)
  · simp only [slices_Equal_int_int.f, if_pos h]
    have := eqi_loop a b (by omega) hl a.length 0 (by omega) (by omega)
    simp only [List.drop_zero] at this
    exact this
  · simp only [slices_Equal_int_int.f, if_neg h]
    rw [q_f (fun e => h (by rw [e]))]
    exact Ev.const _
theorem dec_ne (x y : S41) : (!(x.f0 == y.f0) || !(x.f1 == y.f1)) = !(q x y) := by
  by_cases h : x = y
  · rw [q_t h, h]; simp
  · rw [q_f h]
    obtain ⟨a, b⟩ := x
    obtain ⟨c, d⟩ := y
    by_cases e : a = c
    · by_cases f : b = d
      · exact absurd (by rw [e, f]) h
      · simp only [beq_eq_false_iff_ne.mpr f, Bool.not_false, Bool.or_true]
    · simp only [beq_eq_false_iff_ne.mpr e, Bool.not_false, Bool.true_or]
theorem eqd_loop (a b : List S41) (he : a.length = b.length) (hl : a.length ≤ 1099511627776) : ∀ d i, i ≤ a.length → a.length - i = d → Ev (fun k => api_Dec_38.l0 k a b (a.length : Int) (i : Int)) (q (a.drop i) (b.drop i)) := by
  intro d
  induction d with
  | zero =>
    intro i h1 h2
    rw [q_nil (by omega) (by omega)]
    refine Ev.succ ?_
    simp only [api_Dec_38.l0, if_neg (show ¬ ((i : Int) < (a.length : Int)) by omega)]
    exact Ev.const _
  | succ d ih =>
    intro i h1 h2
    have hi : i < a.length := by omega
    have hb : i < b.length := by omega
    have hv := ih (i + 1) (by omega) (by omega)
    refine Ev.succ ?_
    simp only [api_Dec_38.l0, if_pos (show ((i : Int) < (a.length : Int)) by omega), if_pos (show ((i : Int) < (b.length : Int)) by omega), if_pos (show (0 : Int) ≤ (i : Int) by omega), ix hi hl, rdD_at a i hi, rdD_at b i hb, dec_ne]
    by_cases g : a[i] = b[i]
    · rw [q_eq hi hb g]; simp only [q_t g, Bool.not_true, Bool.false_eq_true, if_false]; exact hv
    · rw [q_ne hi hb g]; simp only [q_f g, Bool.not_false, if_true]; exact Ev.const _
theorem eqd_ev (a b : List S41) (hl : a.length ≤ 1099511627776) : Ev (fun k => api_Dec_38.f k a b) (q a b) := by
  by_cases h : (a.length : Int) = (b.length : Int)
  · simp only [api_Dec_38.f, if_pos h]
    have := eqd_loop a b (by omega) hl a.length 0 (by omega) (by omega)
    simp only [List.drop_zero] at this
    exact this
  · simp only [api_Dec_38.f, if_neg h]
    rw [q_f (fun e => h (by rw [e]))]
    exact Ev.const _
theorem node_q (x y : S32) : q x y = (q x.f0 y.f0 && (q x.f1 y.f1 && (q x.f2 y.f2 && q x.f3 y.f3))) := by
  obtain ⟨a, b, c, d⟩ := x
  obtain ⟨a', b', c', d'⟩ := y
  by_cases h0 : a = a'
  · by_cases h1 : b = b'
    · by_cases h2 : c = c'
      · by_cases h3 : d = d'
        · rw [q_t (by rw [h0, h1, h2, h3])]; simp only [q_t h0, q_t h1, q_t h2, q_t h3]; rfl
        · rw [q_f (fun e => h3 (by injection e))]; simp only [q_f h3, Bool.and_false]
      · rw [q_f (fun e => h2 (by injection e))]; simp only [q_f h2, Bool.and_false, Bool.false_and]
    · rw [q_f (fun e => h1 (by injection e))]; simp only [q_f h1, Bool.and_false, Bool.false_and]
  · rw [q_f (fun e => h0 (by injection e))]; simp only [q_f h0, Bool.false_and]
theorem same1_ev (x y : S32) (h : Fit2 x) : Ev (fun k => array_Same_1.f k x.f0 x.f1 x.f2 x.f3 y.f0 y.f1 y.f2 y.f3) (q x y) := by
  obtain ⟨h1, h2, h3⟩ := h
  rw [node_q]
  by_cases e : x.f0 = y.f0
  · simp only [array_Same_1.f, if_pos e, q_t e, Bool.true_and]
    refine Ev.bind (eqi_ev x.f1 y.f1 (by omega)) ?_
    cases q x.f1 y.f1 with
    | false => exact Ev.const _
    | true =>
      refine Ev.bind (eqi_ev x.f2 y.f2 (by omega)) ?_
      cases q x.f2 y.f2 with
      | false => exact Ev.const _
      | true => exact Ev.bind (eqd_ev x.f3 y.f3 (by omega)) (Ev.const _)
  · simp only [array_Same_1.f, if_neg e, q_f e, Bool.false_and]; exact Ev.const _
theorem eqn_loop (a b : List S32) (he : a.length = b.length) (hl : a.length ≤ 100) (hf : ∀ n ∈ a, Fit2 n) : ∀ d i, i ≤ a.length → a.length - i = d → Ev (fun k => api_Node_35.l0 k b a (a.length : Int) (i : Int)) (q (a.drop i) (b.drop i)) := by
  intro d
  induction d with
  | zero =>
    intro i h1 h2
    rw [q_nil (by omega) (by omega)]
    refine Ev.succ ?_
    simp only [api_Node_35.l0, if_neg (show ¬ ((i : Int) < (a.length : Int)) by omega)]
    exact Ev.const _
  | succ d ih =>
    intro i h1 h2
    have hi : i < a.length := by omega
    have hb : i < b.length := by omega
    have hv := ih (i + 1) (by omega) (by omega)
    refine Ev.succ ?_
    simp only [api_Node_35.l0, if_pos (show ((i : Int) < (a.length : Int)) by omega), if_pos (show ((i : Int) < (b.length : Int)) by omega), if_pos (show (0 : Int) ≤ (i : Int) by omega), ix hi (by omega), rdT_at a i hi, rdT_at b i hb]
    refine Ev.bind (same1_ev a[i] b[i] (hf _ (List.getElem_mem _))) ?_
    by_cases g : a[i] = b[i]
    · rw [q_eq hi hb g]; simp only [q_t g, if_true]; exact hv
    · rw [q_ne hi hb g]; simp only [q_f g, Bool.false_eq_true, if_false]; exact Ev.const _
theorem same_q (a b : List S32) (hl : a.length ≤ 100) (hf : ∀ n ∈ a, Fit2 n) : Ev (fun k => array_Same.f k a b) (q a b) := by
  simp only [array_Same.f]
  refine Ev.bind ?_ (Ev.const _)
  by_cases h : (a.length : Int) = (b.length : Int)
  · simp only [api_Node_35.f, if_pos h]
    have := eqn_loop a b (by omega) hl hf a.length 0 (by omega) (by omega)
    simp only [List.drop_zero] at this
    exact this
  · simp only [api_Node_35.f, if_neg h]
    rw [q_f (fun e => h (by rw [e]))]
    exact Ev.const _
theorem ok_of_wf {a : Int} (h : (Lit.int .i64 a).wf = true) : -9223372036854775808 ≤ a ∧ a ≤ 9223372036854775807 := by
  have e0 : IntKind.i64.min = -9223372036854775808 := by decide
  have e1 : IntKind.i64.max = 9223372036854775807 := by decide
  simp only [Lit.wf, Bool.and_eq_true, decide_eq_true_eq, e0, e1] at h
  exact h
theorem q_comm {α : Type} (a b : α) : q a b = q b a := by
  by_cases h : a = b
  · rw [q_t h, q_t h.symm]
  · rw [q_f h, q_f (fun e => h e.symm)]
theorem set_ne {l : List S32} {i : Nat} {y : S32} (h : i < l.length) (hy : y ≠ l[i]) : l.set i y ≠ l := fun e => hy (by
  have h1 : (l.set i y)[i]? = l[i]? := by rw [e]
  rw [List.getElem?_set_self h, List.getElem?_eq_getElem h] at h1
  exact Option.some.inj h1)
theorem xor1_ne (a : Int) (h1 : -9223372036854775808 ≤ a) (h2 : a ≤ 9223372036854775807) : Go.bits .xor .i64 a 1 ≠ a := by
  have e : Go.bits .xor .i64 a 1 = IntKind.i64.wrap (((a % 18446744073709551616).toNat ^^^ 1 : Nat) : Int) := by
    show IntKind.i64.wrap ((BitVec.ofInt 64 a ^^^ BitVec.ofInt 64 1).toNat : Int) = _
    rw [BitVec.toNat_xor, BitVec.toNat_ofInt]
    rfl
  rw [e, show IntKind.i64.wrap (((a % 18446744073709551616).toNat ^^^ 1 : Nat) : Int) = wrap64 (((a % 18446744073709551616).toNat ^^^ 1 : Nat) : Int) from i64_w _]
  have hb : (a % 18446744073709551616).toNat ^^^ 1 < 18446744073709551616 := Nat.xor_lt_two_pow (n := 64) (by omega) (by decide)
  have hne : (a % 18446744073709551616).toNat ^^^ 1 ≠ (a % 18446744073709551616).toNat := by
    intro g
    have := congrArg (fun x => Nat.testBit x 0) g
    simp only [Nat.testBit_xor] at this
    revert this
    cases Nat.testBit (a % 18446744073709551616).toNat 0 <;> decide
  generalize (a % 18446744073709551616).toNat ^^^ 1 = m at hb hne
  unfold wrap64
  omega
theorem fit_of {n : S32} (h : Fits n) : Fit2 n := by unfold Fits at h; unfold Fit2; omega
theorem ArraySame (l0 : List S32) (w0 : ∀ n ∈ l0, (Lit.int .i64 n.f0).wf = true ∧ (∀ x ∈ n.f1, (Lit.int .i64 x).wf = true) ∧ (∀ x ∈ n.f2, (Lit.int .i64 x).wf = true) ∧ ∀ x ∈ n.f3, (Lit.int .i64 x.f0).wf = true ∧ (Lit.int .i64 x.f1).wf = true)
    (l1 : List S32) (w1 : ∀ n ∈ l1, (Lit.int .i64 n.f0).wf = true ∧ (∀ x ∈ n.f1, (Lit.int .i64 x).wf = true) ∧ (∀ x ∈ n.f2, (Lit.int .i64 x).wf = true) ∧ ∀ x ∈ n.f3, (Lit.int .i64 x.f0).wf = true ∧ (Lit.int .i64 x.f1).wf = true)
    (a2 : Int) (wo : (Lit.int .i64 a2).wf = true) : ∃ k, decklelaw10_ArraySame.f k l0 l1 a2 = some true := by
  obtain ⟨b0, e0, f0⟩ := few_ev l0
  obtain ⟨b1, e1, f1⟩ := few_ev l1
  have skip : Ev (fun k => decklelaw10_ArraySame.j0 k l0 l1 a2 true true) true := Ev.succ (by simp only [decklelaw10_ArraySame.j0, if_true]; exact Ev.const _)
  have main : Ev (fun k => decklelaw10_ArraySame.f k l0 l1 a2) true := by
    simp only [decklelaw10_ArraySame.f]
    refine Ev.bind small_ev (Ev.bind e0 (Ev.bind e1 ?_))
    cases b0 with
    | false => simp only [Bool.false_eq_true, if_false]; exact skip
    | true =>
      simp only [if_true]
      cases b1 with
      | false => simp only [Bool.false_eq_true, if_false]; exact skip
      | true =>
        simp only [if_true]
        by_cases g : a2 < 0
        · simp only [if_pos g]; exact skip
        · simp only [if_neg g]
          by_cases g2 : a2 ≥ (l0.length : Int)
          · simp only [decide_eq_true g2]; exact skip
          · obtain ⟨hl, hf⟩ := f0 rfl
            obtain ⟨hl1, hf1⟩ := f1 rfl
            obtain ⟨i, rfl⟩ : ∃ i : Nat, a2 = (i : Int) := ⟨a2.toNat, by omega⟩
            have hi : i < l0.length := by omega
            have hf2 : ∀ n ∈ l0, Fit2 n := fun n hn => fit_of (hf n hn)
            have hf3 : ∀ n ∈ l1, Fit2 n := fun n hn => fit_of (hf1 n hn)
            have hfi := hf l0[i] (List.getElem_mem _)
            have hset : ∀ y : S32, Fit2 y → ∀ n ∈ l0.set i y, Fit2 n := fun y hy n hn => (List.mem_or_eq_of_mem_set hn).elim (hf2 n) (fun e => e ▸ hy)
            simp only [decide_eq_false g2]
            refine Ev.succ ?_
            simp only [decklelaw10_ArraySame.j0, Bool.false_eq_true, if_false, copy_some l0 hl hf]
            refine Ev.bind (Ev.const _) (Ev.bind (Ev.const _) (Ev.bind (Ev.const _) ?_))
            simp only [if_true, bne_self_eq_false]
            refine Ev.succ ?_
            have t1 : hysame12.f l0 (i : Int) = some (l0.set i ⟨l0[i].f0, l0[i].f1 ++ [0], l0[i].f2, l0[i].f3⟩) := by
              unfold hysame12.f
              rw [rdT_at l0 i hi, if_pos ⟨by omega, by omega, by unfold Fits at hfi; omega⟩, Int.toNat_natCast]
            have t2 : hysame13.f l0 (i : Int) = some (l0.set i ⟨l0[i].f0, l0[i].f1, l0[i].f2 ++ [0], l0[i].f3⟩) := by
              unfold hysame13.f
              rw [rdT_at l0 i hi, if_pos ⟨by omega, by omega, by unfold Fits at hfi; omega⟩, Int.toNat_natCast]
            have n1 : l0.set i ⟨Go.bits .xor .i64 l0[i].f0 1, l0[i].f1, l0[i].f2, l0[i].f3⟩ ≠ l0 := set_ne hi (fun e => by
              have hw := ok_of_wf (w0 l0[i] (List.getElem_mem _)).1
              exact xor1_ne _ hw.1 hw.2 (congrArg S32.f0 e))
            have n2 : l0.set i ⟨l0[i].f0, l0[i].f1 ++ [0], l0[i].f2, l0[i].f3⟩ ≠ l0 := set_ne hi (fun e => by
              have := congrArg (fun y : S32 => y.f1.length) e
              simp at this)
            have n3 : l0.set i ⟨l0[i].f0, l0[i].f1, l0[i].f2 ++ [0], l0[i].f3⟩ ≠ l0 := set_ne hi (fun e => by
              have := congrArg (fun y : S32 => y.f2.length) e
              simp at this)
            have n4 : l0 ≠ l0.take i := fun e => by
              have := congrArg List.length e
              rw [List.length_take] at this
              omega
            simp only [decklelaw10_ArraySame.j1, Bool.false_eq_true, if_false, if_pos (show (0 : Int) ≤ (i : Int) by omega), if_pos (show (i : Int) < (l0.length : Int) by omega), t1, t2, rdT_at l0 i hi, Int.toNat_natCast, copy_some l0 hl hf, if_true, if_pos (show (i : Int) ≤ (l0.length : Int) by omega)]
            refine Ev.bind (Ev.const _) (Ev.bind (Ev.const _) ?_)
            refine Ev.bind (same_q l0 l0 hl hf2) ?_
            simp only [q_t (rfl : l0 = l0), if_true]
            refine Ev.bind (Ev.const _) (Ev.bind (same_q l0 l0 hl hf2) ?_)
            simp only [q_t (rfl : l0 = l0), if_true]
            refine Ev.bind (same_q l0 l1 hl hf2) (Ev.bind (same_q l1 l0 hl1 hf3) ?_)
            rw [q_comm l1 l0]
            simp only [BEq.rfl, if_true]
            refine Ev.bind (same_q l0 _ hl hf2) ?_
            simp only [q_f (fun e => n1 e.symm), Bool.false_eq_true, if_false]
            refine Ev.bind (same_q _ l0 (by rw [List.length_set]; exact hl) (hset _ (by unfold Fits at hfi; unfold Fit2; simp only [List.length_append, List.length_singleton]; omega))) ?_
            simp only [q_f n2, Bool.false_eq_true, if_false]
            refine Ev.bind (same_q l0 _ hl hf2) ?_
            simp only [q_f (fun e => n3 e.symm), Bool.false_eq_true, if_false]
            refine Ev.bind (same_q l0 _ hl hf2) ?_
            simp only [q_f n4, Bool.not_false]
            exact Ev.const _
  exact main.get
end Go.Proofs.Ytgbmbcippldhnaa.Pure
