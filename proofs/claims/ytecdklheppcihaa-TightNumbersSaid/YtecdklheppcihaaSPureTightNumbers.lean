/- Whole numbers make one node, of the least kind, and are told by it again: for all whole numbers. -/
import Derived.Test.YtecdklheppcihaaSTightNumbersx15
import Derived.KernelRfl
namespace Go.Proofs.Ytecdklheppcihaa.Pure
open Go.RowKit Go.Proofs.Ytecdklheppcihaa.HTightNumbers Go.Proofs.YtecdklheppcihaaW.PrintWords Go.Proofs.YtecdklheppcihaaW.PrintLast Go.Proofs.YtecdklheppcihaaW.PrintMore
set_option linter.unusedVariables false
set_option linter.unusedSimpArgs false
theorem w64 {n : Int} (h1 : -9223372036854775808 ≤ n) (h2 : n ≤ 9223372036854775807) : wrap64 n = n := by unfold wrap64; omega
theorem rd_at (b : List Int) (m : Nat) (h : m < b.length) : rd b (m : Int) = b[m] := by
  unfold rd
  rw [List.getD_eq_getElem?_getD, Int.toNat_natCast, List.getElem?_eq_getElem h]; rfl
theorem rdT_at (b : List S30) (m : Nat) (h : m < b.length) : rd_T30 b (m : Int) = b[m] := by
  unfold rd_T30
  rw [List.getD_eq_getElem?_getD, Int.toNat_natCast, List.getElem?_eq_getElem h]; rfl
def Ev {α : Type} (g : Nat → Option α) (v : α) : Prop := ∃ k0, ∀ k, k0 ≤ k → g k = some v
theorem Ev.const {α : Type} (v : α) : Ev (fun _ => some v) v := ⟨0, fun _ _ => rfl⟩
theorem Ev.bind {α β : Type} {g : Nat → Option α} {F : Nat → α → Option β} {u : α} {v : β} (h : Ev g u) (h2 : Ev (fun k => F k u) v) : Ev (fun k => (g k).bind (F k)) v := by
  obtain ⟨a, ha⟩ := h
  obtain ⟨b, hb⟩ := h2
  exact ⟨a + b, fun k hk => by show (g k).bind (F k) = some v; rw [ha k (by omega), Option.bind_some]; exact hb k (by omega)⟩
theorem Ev.succ {α : Type} {g : Nat → Option α} {v : α} (h : Ev (fun k => g (k + 1)) v) : Ev g v := by
  obtain ⟨a, ha⟩ := h
  refine ⟨a + 1, fun k hk => ?_⟩
  obtain ⟨j, rfl⟩ : ∃ j, k = j + 1 := ⟨k - 1, by omega⟩
  exact ha j (by omega)
theorem Ev.uniq {α : Type} {g : Nat → Option α} {u v : α} (h : Ev g u) (h2 : Ev g v) : u = v := by
  obtain ⟨a, ha⟩ := h
  obtain ⟨b, hb⟩ := h2
  exact Option.some.inj ((ha (a + b) (by omega)).symm.trans (hb (a + b) (by omega)))
theorem Ev.get {α : Type} {g : Nat → Option α} {v : α} (h : Ev g v) : ∃ k, g k = some v := by
  obtain ⟨a, ha⟩ := h
  exact ⟨a, ha a (Nat.le_refl _)⟩
theorem ix {i n : Nat} (h : i < n) (hn : n ≤ 1099511627776) : wrap64 ((i : Int) + 1) = ((i + 1 : Nat) : Int) := by rw [w64 (by omega) (by omega)]; omega
theorem count1_some (a : Int) : ∃ t, shape_Count_1.f a = some t ∧ (t = false → 0 ≤ a ∧ a ≤ 1048576) := by
  unfold shape_Count_1.f
  by_cases h : a < 0
  · exact ⟨true, if_pos h, by simp⟩
  · refine ⟨decide (a > 1048576), if_neg h, fun e => ?_⟩
    have := of_decide_eq_false e
    omega
theorem index1_ev (l : List Int) (hl : l.length ≤ 1099511627776) : ∀ d i, i ≤ l.length → l.length - i = d → ∃ v, Ev (fun k => slices_IndexFunc_int_int.l0 k l (l.length : Int) (i : Int)) v := by
  intro d
  induction d with
  | zero =>
    intro i h1 h2
    refine ⟨-1, Ev.succ ?_⟩
    simp only [slices_IndexFunc_int_int.l0, if_neg (show ¬ ((i : Int) < (l.length : Int)) by omega)]
    exact Ev.const _
  | succ d ih =>
    intro i h1 h2
    have hi : i < l.length := by omega
    obtain ⟨t, ht, _⟩ := count1_some (rd l (i : Int))
    obtain ⟨v, hv⟩ := ih (i + 1) (by omega) (by omega)
    cases t with
    | true =>
      refine ⟨(i : Int), Ev.succ ?_⟩
      simp only [slices_IndexFunc_int_int.l0, if_pos (show ((i : Int) < (l.length : Int)) by omega), if_pos (show (0 : Int) ≤ (i : Int) by omega), ht]
      exact Ev.bind (Ev.const _) (Ev.const _)
    | false =>
      refine ⟨v, Ev.succ ?_⟩
      simp only [slices_IndexFunc_int_int.l0, if_pos (show ((i : Int) < (l.length : Int)) by omega), if_pos (show (0 : Int) ≤ (i : Int) by omega), ht, ix hi hl]
      exact Ev.bind (Ev.const _) hv
theorem index_ev (l : List Int) (a : Int) (hl : l.length ≤ 1099511627776) : ∀ d i, i ≤ l.length → l.length - i = d → ∃ v, Ev (fun k => slices_Index_int_int.l0 k l a (l.length : Int) (i : Int)) v := by
  intro d
  induction d with
  | zero =>
    intro i h1 h2
    refine ⟨-1, Ev.succ ?_⟩
    simp only [slices_Index_int_int.l0, if_neg (show ¬ ((i : Int) < (l.length : Int)) by omega)]
    exact Ev.const _
  | succ d ih =>
    intro i h1 h2
    have hi : i < l.length := by omega
    obtain ⟨v, hv⟩ := ih (i + 1) (by omega) (by omega)
    by_cases e : a = rd l (i : Int)
    · refine ⟨(i : Int), Ev.succ ?_⟩
      simp only [slices_Index_int_int.l0, if_pos (show ((i : Int) < (l.length : Int)) by omega), if_pos (show (0 : Int) ≤ (i : Int) by omega), if_pos e]
      exact Ev.const _
    · refine ⟨v, Ev.succ ?_⟩
      simp only [slices_Index_int_int.l0, if_pos (show ((i : Int) < (l.length : Int)) by omega), if_pos (show (0 : Int) ≤ (i : Int) by omega), if_neg e, ix hi hl]
      exact hv
theorem countl_ev (l : List Int) (hl : l.length ≤ 1099511627776) : ∀ d i x, i ≤ l.length → l.length - i = d → 0 ≤ x → x ≤ 1048576 → ∃ c b, Ev (fun k => shape_Count.l0 k x l (l.length : Int) (i : Int)) (c, b) ∧ 0 ≤ c ∧ c ≤ 1048576 := by
  intro d
  induction d with
  | zero =>
    intro i x h1 h2 hx0 hx1
    refine ⟨x, true, Ev.succ ?_, hx0, hx1⟩
    simp only [shape_Count.l0, if_neg (show ¬ ((i : Int) < (l.length : Int)) by omega)]
    exact Ev.const _
  | succ d ih =>
    intro i x h1 h2 hx0 hx1
    have hi : i < l.length := by omega
    obtain ⟨t, ht, hb⟩ := count1_some (wrap64 (x * rd l (i : Int)))
    cases t with
    | true =>
      refine ⟨0, false, Ev.succ ?_, by omega, by omega⟩
      simp only [shape_Count.l0, if_pos (show ((i : Int) < (l.length : Int)) by omega), if_pos (show (0 : Int) ≤ (i : Int) by omega), ht]
      exact Ev.bind (Ev.const _) (Ev.const _)
    | false =>
      obtain ⟨c, b, hv, h3⟩ := ih (i + 1) (wrap64 (x * rd l (i : Int))) (by omega) (by omega) (hb rfl).1 (hb rfl).2
      refine ⟨c, b, Ev.succ ?_, h3⟩
      simp only [shape_Count.l0, if_pos (show ((i : Int) < (l.length : Int)) by omega), if_pos (show (0 : Int) ≤ (i : Int) by omega), ht, ix hi hl]
      exact Ev.bind (Ev.const _) hv
theorem count_ev (l : List Int) : ∃ c b, Ev (fun k => shape_Count.f k l) (c, b) ∧ 0 ≤ c ∧ c ≤ 1048576 := by
  by_cases h : (l.length : Int) > 16
  · refine ⟨0, false, ?_, by omega, by omega⟩
    simp only [shape_Count.f, if_pos h]
    refine Ev.succ ?_
    simp only [shape_Count.j0]
    exact Ev.const _
  · have hl : l.length ≤ 1099511627776 := by omega
    obtain ⟨v1, e1⟩ := index1_ev l hl l.length 0 (by omega) (by omega)
    obtain ⟨v2, e2⟩ := index_ev l 0 hl l.length 0 (by omega) (by omega)
    obtain ⟨c, b, e3, hc⟩ := countl_ev l hl l.length 0 1 (by omega) (by omega) (by omega) (by omega)
    simp only [shape_Count.f, if_neg h, slices_ContainsFunc_int_int.f, slices_IndexFunc_int_int.f]
    have hf : ∀ t, ∃ c b, Ev (fun k => shape_Count.j0 k l t) (c, b) ∧ 0 ≤ c ∧ c ≤ 1048576 := by
      intro t
      cases t with
      | true =>
        refine ⟨0, false, Ev.succ ?_, by omega, by omega⟩
        simp only [shape_Count.j0]
        exact Ev.const _
      | false =>
        cases hd : decide (v2 ≥ 0) with
        | true =>
          refine ⟨0, true, Ev.succ ?_, by omega, by omega⟩
          simp only [shape_Count.j0, slices_Contains_int_int.f, slices_Index_int_int.f]
          refine Ev.bind (u := true) (Ev.bind e2 (by simp only [hd]; exact Ev.const _)) (Ev.const _)
        | false =>
          refine ⟨c, b, Ev.succ ?_, hc⟩
          simp only [shape_Count.j0, slices_Contains_int_int.f, slices_Index_int_int.f]
          exact Ev.bind (u := false) (Ev.bind e2 (by simp only [hd]; exact Ev.const _)) e3
    obtain ⟨c', b', e4, hc'⟩ := hf (decide (v1 ≥ 0))
    exact ⟨c', b', Ev.bind (Ev.bind e1 (Ev.const _)) e4, hc'⟩
theorem valid_ev (a : Int) : ∃ v, Ev (fun k => utf8_ValidRune.f k a) v := by
  have hj : ∀ t, ∃ v, Ev (fun k => utf8_ValidRune.j0 k a t) v := by
    intro t
    cases t with
    | true => exact ⟨true, Ev.succ (by simp only [utf8_ValidRune.j0]; exact Ev.const _)⟩
    | false =>
      by_cases h1 : 57343 < a
      · by_cases h2 : a ≤ 1114111
        · exact ⟨true, Ev.succ (by simp only [utf8_ValidRune.j0, if_pos h1, if_pos h2]; exact Ev.const _)⟩
        · exact ⟨false, Ev.succ (by simp only [utf8_ValidRune.j0, if_pos h1, if_neg h2]; exact Ev.const _)⟩
      · exact ⟨false, Ev.succ (by simp only [utf8_ValidRune.j0, if_neg h1]; exact Ev.const _)⟩
  by_cases h : 0 ≤ a
  · simp only [utf8_ValidRune.f, if_pos h]; exact hj _
  · simp only [utf8_ValidRune.f, if_neg h]; exact hj _
theorem fits_ev (a b : Int) : ∃ v, Ev (fun k => array_fits.f k a b) v := by
  by_cases h1 : a = 1
  · simp only [array_fits.f, if_pos h1]; exact ⟨_, Ev.const _⟩
  · by_cases h2 : a = 2
    · simp only [array_fits.f, if_neg h1, if_pos h2]; exact ⟨_, Ev.const _⟩
    · by_cases h3 : a = 3
      · by_cases h4 : b = wrap64 (wrap32 b)
        · obtain ⟨v, hv⟩ := valid_ev (wrap32 b)
          refine ⟨v, ?_⟩
          simp only [array_fits.f, if_neg h1, if_neg h2, if_pos h3, if_pos h4]
          exact Ev.bind hv (Ev.const _)
        · simp only [array_fits.f, if_neg h1, if_neg h2, if_pos h3, if_neg h4]; exact ⟨_, Ev.const _⟩
      · simp only [array_fits.f, if_neg h1, if_neg h2, if_neg h3]; exact ⟨_, Ev.const _⟩
theorem wrongs_ev (l : List Int) (a : Int) (hl : l.length ≤ 1099511627776) : ∀ d i, i ≤ l.length → l.length - i = d → ∃ v, Ev (fun k => array_wrongs_int.l0 k a l (l.length : Int) (i : Int)) v := by
  intro d
  induction d with
  | zero =>
    intro i h1 h2
    refine ⟨false, Ev.succ ?_⟩
    simp only [array_wrongs_int.l0, if_neg (show ¬ ((i : Int) < (l.length : Int)) by omega)]
    exact Ev.const _
  | succ d ih =>
    intro i h1 h2
    have hi : i < l.length := by omega
    obtain ⟨t, ht⟩ := fits_ev a (rd l (i : Int))
    obtain ⟨v, hv⟩ := ih (i + 1) (by omega) (by omega)
    cases t with
    | true =>
      refine ⟨v, Ev.succ ?_⟩
      simp only [array_wrongs_int.l0, if_pos (show ((i : Int) < (l.length : Int)) by omega), if_pos (show (0 : Int) ≤ (i : Int) by omega), array_items_1.f, ix hi hl]
      exact Ev.bind (u := true) (Ev.bind ht (Ev.const _)) hv
    | false =>
      refine ⟨true, Ev.succ ?_⟩
      simp only [array_wrongs_int.l0, if_pos (show ((i : Int) < (l.length : Int)) by omega), if_pos (show (0 : Int) ≤ (i : Int) by omega), array_items_1.f]
      exact Ev.bind (u := false) (Ev.bind ht (Ev.const _)) (Ev.const _)
theorem norm_ev : ∀ (d : Nat) (x e : Int), -9223372036854775808 ≤ e → e ≤ 9223372036854775807 → (32768 - e).toNat ≤ d → ∃ v, Ev (fun k => decimal_Norm.l0 k x e) v := by
  intro d
  induction d with
  | zero =>
    intro x e h1 h2 h3
    have h4 : ¬ e ≤ 32767 := by omega
    have h5 : ¬ e < -32768 := by omega
    have h6 : e > 32767 := by omega
    refine ⟨(0, 0, false), Ev.succ ?_⟩
    by_cases h : Int.tmod x 10 = 0
    · simp only [decimal_Norm.l0, if_pos h, if_neg h4, if_neg h5, if_pos h6]; exact Ev.const _
    · simp only [decimal_Norm.l0, if_neg h, if_neg h5, if_pos h6]; exact Ev.const _
  | succ d ih =>
    intro x e h1 h2 h3
    have hl : ∃ v : Int × Int × Bool, (if e < -32768 then some (0, 0, false) else if e > 32767 then some (0, 0, false) else some (x, e, true)) = some v := by
      split
      · exact ⟨_, rfl⟩
      · split <;> exact ⟨_, rfl⟩
    obtain ⟨v, hv⟩ := hl
    by_cases h : Int.tmod x 10 = 0
    · by_cases h4 : e ≤ 32767
      · have hw : wrap64 (e + 1) = e + 1 := w64 (by omega) (by omega)
        obtain ⟨v', hv'⟩ := ih (wrap64 (Int.tdiv x 10)) (wrap64 (e + 1)) (by omega) (by omega) (by omega)
        refine ⟨v', Ev.succ ?_⟩
        simp only [decimal_Norm.l0, if_pos h, if_pos h4]; exact hv'
      · refine ⟨v, Ev.succ ?_⟩
        simp only [decimal_Norm.l0, if_pos h, if_neg h4, hv]; exact Ev.const _
    · refine ⟨v, Ev.succ ?_⟩
      simp only [decimal_Norm.l0, if_neg h, hv]; exact Ev.const _
def OkD (y : S38) : Prop := -9223372036854775808 ≤ y.f1 ∧ y.f1 ≤ 9223372036854775807
def Ok (n : S30) : Prop := ∀ y ∈ n.f3, OkD y
theorem decright_ev (y : S38) (h : OkD y) : ∃ v, Ev (fun k => decimal_Right.f k y.f0 y.f1) v := by
  have hn : ∃ v, Ev (fun k => decimal_Norm.f k y.f0 y.f1) v := by
    by_cases h0 : y.f0 = 0
    · simp only [decimal_Norm.f, if_pos h0]; exact ⟨_, Ev.const _⟩
    · simp only [decimal_Norm.f, if_neg h0]; exact norm_ev _ y.f0 y.f1 h.1 h.2 (Nat.le_refl _)
  obtain ⟨⟨a, b, c⟩, hv⟩ := hn
  cases c with
  | true => exact ⟨_, Ev.bind hv (Ev.const _)⟩
  | false => exact ⟨_, Ev.bind hv (Ev.const _)⟩
theorem decs_ev (l : List S38) (ok : ∀ y ∈ l, OkD y) (hl : l.length ≤ 1099511627776) : ∀ d i, i ≤ l.length → l.length - i = d → ∃ v, Ev (fun k => api_Dec_74.l0 k l (l.length : Int) (i : Int)) v := by
  intro d
  induction d with
  | zero =>
    intro i h1 h2
    refine ⟨false, Ev.succ ?_⟩
    simp only [api_Dec_74.l0, if_neg (show ¬ ((i : Int) < (l.length : Int)) by omega)]
    exact Ev.const _
  | succ d ih =>
    intro i h1 h2
    have hi : i < l.length := by omega
    have hr : rd_T38 l (i : Int) = l[i] := by
      unfold rd_T38
      rw [List.getD_eq_getElem?_getD, Int.toNat_natCast, List.getElem?_eq_getElem hi]; rfl
    obtain ⟨t, ht⟩ := decright_ev (rd_T38 l (i : Int)) (by rw [hr]; exact ok _ (List.getElem_mem _))
    obtain ⟨v, hv⟩ := ih (i + 1) (by omega) (by omega)
    cases t with
    | true =>
      refine ⟨v, Ev.succ ?_⟩
      simp only [api_Dec_74.l0, if_pos (show ((i : Int) < (l.length : Int)) by omega), if_pos (show (0 : Int) ≤ (i : Int) by omega), ix hi hl]
      exact Ev.bind ht hv
    | false =>
      refine ⟨true, Ev.succ ?_⟩
      simp only [api_Dec_74.l0, if_pos (show ((i : Int) < (l.length : Int)) by omega), if_pos (show (0 : Int) ≤ (i : Int) by omega)]
      exact Ev.bind ht (Ev.const _)
theorem items1_ev (x3 x5 x6 a a' : Int) (b c : List Int) (e : List S38) (ok : ∀ y ∈ e, OkD y) (h0 : 0 ≤ x3) (h1 : x3 ≤ 1048576) (h5 : x5 ≤ 1048576) (h6 : x6 ≤ 1048576) :
    ∃ v, Ev (fun k => array_items.j1 k x3 x5 x6 a a' b c e) v ∧ (v = -1 ∨ (v = x3 ∧ (c.length : Int) = x5 ∧ (e.length : Int) = x6)) := by
  by_cases g1 : (c.length : Int) = x5
  · by_cases g2 : (e.length : Int) = x6
    · obtain ⟨t, ht⟩ := wrongs_ev c a (by omega) c.length 0 (by omega) (by omega)
      obtain ⟨s, hs⟩ := decs_ev e ok (by omega) e.length 0 (by omega) (by omega)
      cases t with
      | true =>
        refine ⟨-1, Ev.succ ?_, .inl rfl⟩
        simp only [array_items.j1, if_pos g1, if_pos g2, array_wrongs_int.f]
        exact Ev.bind ht (Ev.const _)
      | false =>
        cases s with
        | true =>
          refine ⟨-1, Ev.succ ?_, .inl rfl⟩
          simp only [array_items.j1, if_pos g1, if_pos g2, array_wrongs_int.f, api_Dec_74.f]
          exact Ev.bind ht (Ev.bind hs (Ev.const _))
        | false =>
          refine ⟨x3, Ev.succ ?_, .inr ⟨rfl, g1, g2⟩⟩
          simp only [array_items.j1, if_pos g1, if_pos g2, array_wrongs_int.f, api_Dec_74.f]
          exact Ev.bind ht (Ev.bind hs (Ev.const _))
    · refine ⟨-1, Ev.succ ?_, .inl rfl⟩
      simp only [array_items.j1, if_pos g1, if_neg g2]; exact Ev.const _
  · refine ⟨-1, Ev.succ ?_, .inl rfl⟩
    simp only [array_items.j1, if_neg g1]; exact Ev.const _
theorem items0_ev (x3 a a' : Int) (t : Bool) (b c : List Int) (e : List S38) (ok : ∀ y ∈ e, OkD y) (h0 : 0 ≤ x3) (h1 : x3 ≤ 1048576) :
    ∃ v, Ev (fun k => array_items.j0 k x3 0 0 a t a' b c e) v ∧ (v = -1 ∨ (v = x3 ∧ (a = 5 → t = false → c = [] ∧ e = []) ∧ (a ≠ 5 → v ≤ (c.length : Int) ∨ v ≤ (e.length : Int)))) := by
  cases t with
  | true =>
    obtain ⟨v, hv, hb⟩ := items1_ev x3 x3 0 a a' b c e ok h0 h1 h1 (by omega)
    exact ⟨v, Ev.succ (by simp only [array_items.j0]; exact hv), hb.imp id fun h => ⟨h.1, fun _ h' => by simp at h', fun _ => .inl (by omega)⟩⟩
  | false =>
    by_cases g1 : a = 4
    · obtain ⟨v, hv, hb⟩ := items1_ev x3 0 x3 a a' b c e ok h0 h1 (by omega) h1
      exact ⟨v, Ev.succ (by simp only [array_items.j0, if_pos g1]; exact hv), hb.imp id fun h => ⟨h.1, fun h' _ => by omega, fun _ => .inr (by omega)⟩⟩
    · by_cases g2 : a = 5
      · obtain ⟨v, hv, hb⟩ := items1_ev x3 0 0 a a' b c e ok h0 h1 (by omega) (by omega)
        exact ⟨v, Ev.succ (by simp only [array_items.j0, if_neg g1, if_pos g2]; exact hv), hb.imp id fun h => ⟨h.1, fun _ _ => ⟨List.eq_nil_of_length_eq_zero (by omega), List.eq_nil_of_length_eq_zero (by omega)⟩, fun h' => absurd g2 h'⟩⟩
      · exact ⟨-1, Ev.succ (by simp only [array_items.j0, if_neg g1, if_neg g2]; exact Ev.const _), .inl rfl⟩
def Spec (n : S30) (v : Int) : Prop := Ev (fun k => shape_Count.f k n.f1) (v, true) ∧ 0 ≤ v ∧ v ≤ 1048576 ∧ (n.f0 = 5 → n.f2 = [] ∧ n.f3 = []) ∧ (n.f0 ≠ 5 → v ≤ (n.f2.length : Int) ∨ v ≤ (n.f3.length : Int))
theorem items_ev (n : S30) (ok : Ok n) : ∃ v, Ev (fun k => array_items.f k n.f0 n.f1 n.f2 n.f3) v ∧ (v = -1 ∨ Spec n v) := by
  obtain ⟨c, b, hc, h0, h1⟩ := count_ev n.f1
  cases b with
  | true =>
    have hr : ∃ v, Ev (fun k => (if n.f0 = 1 then (array_items.j0 k c 0 0 n.f0 (n.f0 == 1) n.f0 n.f1 n.f2 n.f3) else (if n.f0 = 2 then (array_items.j0 k c 0 0 n.f0 (n.f0 == 2) n.f0 n.f1 n.f2 n.f3) else (array_items.j0 k c 0 0 n.f0 (n.f0 == 3) n.f0 n.f1 n.f2 n.f3)))) v ∧ (v = -1 ∨ (v = c ∧ (n.f0 = 5 → n.f2 = [] ∧ n.f3 = []) ∧ (n.f0 ≠ 5 → v ≤ (n.f2.length : Int) ∨ v ≤ (n.f3.length : Int)))) := by
      by_cases g1 : n.f0 = 1
      · simp only [if_pos g1]
        obtain ⟨v, hv, hb⟩ := items0_ev c n.f0 n.f0 (n.f0 == 1) n.f1 n.f2 n.f3 ok h0 h1
        exact ⟨v, hv, hb.imp id fun h => ⟨h.1, fun h' => by omega, h.2.2⟩⟩
      · by_cases g2 : n.f0 = 2
        · simp only [if_neg g1, if_pos g2]
          obtain ⟨v, hv, hb⟩ := items0_ev c n.f0 n.f0 (n.f0 == 2) n.f1 n.f2 n.f3 ok h0 h1
          exact ⟨v, hv, hb.imp id fun h => ⟨h.1, fun h' => by omega, h.2.2⟩⟩
        · simp only [if_neg g1, if_neg g2]
          obtain ⟨v, hv, hb⟩ := items0_ev c n.f0 n.f0 (n.f0 == 3) n.f1 n.f2 n.f3 ok h0 h1
          exact ⟨v, hv, hb.imp id fun h => ⟨h.1, fun h' => h.2.1 h' (beq_eq_false_iff_ne.mpr (by omega)), h.2.2⟩⟩
    obtain ⟨v, hv, hb⟩ := hr
    refine ⟨v, ?_, hb.imp id fun h => ?_⟩
    · simp only [array_items.f]
      exact Ev.bind hc hv
    · refine ⟨by rw [h.1]; exact hc, by rw [h.1]; exact h0, by rw [h.1]; exact h1, h.2⟩
  | false =>
    refine ⟨-1, ?_, .inl rfl⟩
    simp only [array_items.f]
    exact Ev.bind hc (Ev.const _)
noncomputable def itm (n : S30) : Int := open Classical in if h : ∃ v, Ev (fun k => array_items.f k n.f0 n.f1 n.f2 n.f3) v ∧ (v = -1 ∨ Spec n v) then h.choose else -1
theorem itm_le (n : S30) : itm n ≤ 1048576 := by
  unfold itm
  split
  · next h =>
    rcases h.choose_spec.2 with e | e
    · omega
    · exact e.2.2.1
  · omega
theorem itm_said (n : S30) (ok : Ok n) : Ev (fun k => array_items.f k n.f0 n.f1 n.f2 n.f3) (itm n) ∧ (itm n = -1 ∨ Spec n (itm n)) := by
  obtain ⟨v, hv, hb⟩ := items_ev n ok
  have h : ∃ v, Ev (fun k => array_items.f k n.f0 n.f1 n.f2 n.f3) v ∧ (v = -1 ∨ Spec n v) := ⟨v, hv, hb⟩
  have e : itm n = v := by
    unfold itm
    rw [dif_pos h]
    exact Ev.uniq h.choose_spec.1 hv
  rw [e]
  exact ⟨hv, hb⟩
theorem itm_ev (n : S30) (ok : Ok n) : Ev (fun k => array_items.f k n.f0 n.f1 n.f2 n.f3) (itm n) ∧ -1 ≤ itm n ∧ itm n ≤ 1048576 := by
  obtain ⟨h, hb⟩ := itm_said n ok
  refine ⟨h, ?_⟩
  rcases hb with e | e
  · omega
  · have := e.2.1
    have := e.2.2.1
    omega
def dec1 (v : Int) : Int := wrap64 (v - 1)
def decT : List Int → List Int
  | [] => []
  | x :: s => dec1 x :: s
theorem decT_length (s : List Int) : (decT s).length = s.length := by cases s <;> rfl
def clrN : Nat → List Int → List Int
  | 0, s => s
  | _ + 1, [] => []
  | n + 1, x :: s => if x = 0 then clrN n (decT s) else x :: s
def clr (s : List Int) : List Int := clrN s.length s
theorem clr_nil : clr [] = [] := rfl
theorem clr_cons (x : Int) (s : List Int) : clr (x :: s) = if x = 0 then clr (decT s) else x :: s := by
  unfold clr
  rw [decT_length]; rfl
theorem clr_length : ∀ (n : Nat) (s : List Int), s.length ≤ n → (clr s).length ≤ s.length := by
  intro n
  induction n with
  | zero =>
    intro s hs
    obtain rfl := List.eq_nil_of_length_eq_zero (Nat.le_zero.1 hs)
    exact Nat.le_refl _
  | succ n ih =>
    intro s hs
    cases s with
    | nil => exact Nat.le_refl _
    | cons x s =>
      rw [clr_cons]
      split
      · have := ih (decT s) (by rw [decT_length]; simp only [List.length_cons] at hs; omega)
        rw [decT_length] at this
        simp only [List.length_cons]; omega
      · exact Nat.le_refl _
noncomputable def push (st : List Int) (n : S30) : List Int := if n.f0 = 5 then itm n :: st else decT st
theorem push_length (st : List Int) (n : S30) : (push st n).length ≤ st.length + 1 := by
  unfold push
  split
  · exact Nat.le_refl _
  · rw [decT_length]; omega
open Classical in
noncomputable def walkS : Int → Int → List Int → Int → List S30 → Int × Int × Int
  | _, _, _, _, [] => (0, 0, 0)
  | all, deep, st, i, n :: r =>
    if itm n < 0 ∨ wrap64 (all + itm n) > 1048576 ∨ 16 ≤ st.length then (0, 0, 0)
    else if clr (push st n) = [] then (i + 1, wrap64 (all + itm n), mx deep (wrap64 ((st.length : Int) + 1)))
    else walkS (wrap64 (all + itm n)) (mx deep (wrap64 ((st.length : Int) + 1))) (clr (push st n)) (i + 1) r
theorem last_ix {n : Nat} (h : 0 < n) (hn : n ≤ 1099511627776) : wrap64 ((n : Int) - 1) = ((n - 1 : Nat) : Int) := by rw [w64 (by omega) (by omega)]; omega
theorem rev_last (x : Int) (s : List Int) : rd (x :: s).reverse ((s.length : Nat) : Int) = x := by
  rw [rd_at _ _ (by simp)]
  simp
theorem rev_set (x v : Int) (s : List Int) : (x :: s).reverse.set s.length v = (v :: s).reverse := by
  simp only [List.reverse_cons]
  rw [List.set_append_right _ _ (by simp)]
  simp
theorem rev_take (x : Int) (s : List Int) : (x :: s).reverse.take s.length = s.reverse := by
  rw [List.reverse_cons]
  rw [List.take_append_of_le_length (by simp)]
  exact List.take_of_length_le (by simp)
theorem pop_ev (all deep i6 : Int) (x9 : List S30) (x10 x11 : Int) (v : Int × Int × Int) : ∀ (n : Nat) (st : List Int), st.length ≤ n → st.length ≤ 100 →
    Ev (fun k => array_walk.j4 k all deep (clr st).reverse i6 x9 x10 x11 false) v → Ev (fun k => array_walk.l1 k all deep st.reverse i6 x9 x10 x11) v := by
  intro n
  induction n with
  | zero =>
    intro st hs hc h
    obtain rfl := List.eq_nil_of_length_eq_zero (Nat.le_zero.1 hs)
    refine Ev.succ ?_
    simp only [array_walk.l1, List.reverse_nil, List.length_nil, if_neg (show ¬ (((0 : Nat) : Int) > 0) by decide)]
    exact h
  | succ n ih =>
    intro st hs hc h
    cases st with
    | nil =>
      refine Ev.succ ?_
      simp only [array_walk.l1, List.reverse_nil, List.length_nil, if_neg (show ¬ (((0 : Nat) : Int) > 0) by decide)]
      exact h
    | cons x s =>
      simp only [List.length_cons] at hs hc
      have hL : (x :: s).reverse.length = s.length + 1 := by simp
      have hw : wrap64 (((s.length + 1 : Nat) : Int) - 1) = ((s.length : Nat) : Int) := last_ix (by omega) (by omega)
      refine Ev.succ ?_
      simp only [array_walk.l1, hL, hw, if_pos (show (((s.length + 1 : Nat) : Int) > 0) by omega), if_pos (show (0 : Int) ≤ ((s.length : Nat) : Int) by omega), if_pos (show ((s.length : Nat) : Int) < ((s.length + 1 : Nat) : Int) by omega), rev_last]
      rw [clr_cons] at h
      by_cases e : x = 0
      · rw [if_pos e] at h
        subst e
        refine Ev.succ ?_
        simp only [array_walk.j4, hL, hw, BEq.rfl, if_true, if_pos (show (0 : Int) ≤ ((s.length : Nat) : Int) by omega), if_pos (show ((s.length : Nat) : Int) ≤ ((s.length + 1 : Nat) : Int) by omega), Int.toNat_natCast, rev_take, Option.bind_some, List.length_reverse]
        cases s with
        | nil =>
          simp only [List.length_nil, if_neg (show ¬ (((0 : Nat) : Int) > 0) by decide)]
          exact ih [] (by simp) (by simp) h
        | cons y s =>
          have hw2 : wrap64 (((s.length + 1 : Nat) : Int) - 1) = ((s.length : Nat) : Int) := last_ix (by omega) (by simp only [List.length_cons] at hc; omega)
          simp only [List.length_cons, hw2, if_pos (show (((s.length + 1 : Nat) : Int) > 0) by omega), if_pos (show (0 : Int) ≤ ((s.length : Nat) : Int) by omega), if_pos (show ((s.length : Nat) : Int) < ((s.length + 1 : Nat) : Int) by omega), rev_last, Int.toNat_natCast, rev_set]
          exact ih (dec1 y :: s) (by simp only [List.length_cons] at hs ⊢; omega) (by simp only [List.length_cons] at hc ⊢; omega) h
      · rw [if_neg e] at h
        rw [show (x == 0) = false from beq_eq_false_iff_ne.mpr e]
        exact h
theorem walk_ev (l : List S30) (ok : ∀ n ∈ l, Ok n) (hl : l.length ≤ 1099511627776) : ∀ d i, i ≤ l.length → l.length - i = d → ∀ (all deep : Int) (st : List Int), st.length ≤ 17 →
    Ev (fun k => array_walk.l0 k all deep st.reverse l (l.length : Int) (i : Int)) (walkS all deep st (i : Int) (l.drop i)) := by
  intro d
  induction d with
  | zero =>
    intro i h1 h2 all deep st hs
    have hd : l.drop i = [] := List.drop_eq_nil_of_le (by omega)
    rw [hd]
    refine Ev.succ ?_
    simp only [array_walk.l0, if_neg (show ¬ ((i : Int) < (l.length : Int)) by omega)]
    exact Ev.const _
  | succ d ih =>
    intro i h1 h2 all deep st hs
    have hi : i < l.length := by omega
    have hd : l.drop i = l[i] :: l.drop (i + 1) := (List.drop_eq_getElem_cons hi)
    rw [hd]
    generalize hn : l[i] = n
    have okn : Ok n := by rw [← hn]; exact ok _ (List.getElem_mem _)
    obtain ⟨hit, hb0, hb1⟩ := itm_ev n okn
    have hrd : rd_T30 l (i : Int) = n := by rw [rdT_at l i hi, hn]
    have hfail : ∀ (a b : Int), Ev (fun k => array_walk.j1 k (wrap64 (all + itm n)) deep st.reverse (i : Int) (itm n) l (l.length : Int) (i : Int) true n.f0 n.f1 n.f2 n.f3) (0, 0, 0) := fun _ _ => Ev.succ (by simp only [array_walk.j1]; exact Ev.const _)
    have hgo : st.length < 16 → Ev (fun k => array_walk.j2 k (wrap64 (all + itm n)) (mx deep (wrap64 ((st.length : Int) + 1))) (push st n).reverse (i : Int) l (l.length : Int) (i : Int))
        (if clr (push st n) = [] then ((i : Int) + 1, wrap64 (all + itm n), mx deep (wrap64 ((st.length : Int) + 1))) else walkS (wrap64 (all + itm n)) (mx deep (wrap64 ((st.length : Int) + 1))) (clr (push st n)) ((i : Int) + 1) (l.drop (i + 1))) := by
      intro hst
      refine Ev.succ ?_
      simp only [array_walk.j2]
      have hp := push_length st n
      refine pop_ev _ _ _ _ _ _ _ (push st n).length (push st n) (Nat.le_refl _) (by omega) ?_
      refine Ev.succ ?_
      simp only [array_walk.j4, Bool.false_eq_true, if_false, List.length_reverse]
      have hcl := clr_length (push st n).length (push st n) (Nat.le_refl _)
      by_cases e : clr (push st n) = []
      · simp only [e, List.length_nil, if_pos (show (((0 : Nat) : Int)) = 0 by rfl), if_true]
        rw [show wrap64 ((i : Int) + 1) = (i : Int) + 1 by rw [ix hi hl]; omega]
        exact Ev.const _
      · have hz : ¬ (((clr (push st n)).length : Int) = 0) := fun h0 => e (List.eq_nil_of_length_eq_zero (by omega))
        simp only [if_neg e, if_neg hz, ix hi hl]
        have hi1 : ((i : Int) + 1) = ((i + 1 : Nat) : Int) := by omega
        rw [hi1]
        exact ih (i + 1) (by omega) (by omega) _ _ _ (by omega)
    refine Ev.succ ?_
    simp only [array_walk.l0, if_pos (show ((i : Int) < (l.length : Int)) by omega), if_pos (show (0 : Int) ≤ (i : Int) by omega), hrd]
    refine Ev.bind hit ?_
    by_cases g1 : itm n < 0
    · simp only [walkS, if_pos g1, if_pos (show itm n < 0 ∨ wrap64 (all + itm n) > 1048576 ∨ 16 ≤ st.length from .inl g1)]
      exact hfail 0 0
    · by_cases g2 : wrap64 (all + itm n) > 1048576
      · simp only [walkS, if_neg g1, if_pos g2, if_pos (show itm n < 0 ∨ wrap64 (all + itm n) > 1048576 ∨ 16 ≤ st.length from .inr (.inl g2))]
        exact hfail 0 0
      · simp only [if_neg g1, if_neg g2, List.length_reverse]
        by_cases g3 : 16 ≤ st.length
        · simp only [walkS, if_pos (show itm n < 0 ∨ wrap64 (all + itm n) > 1048576 ∨ 16 ≤ st.length from .inr (.inr g3)), decide_eq_true (show ((st.length : Int) ≥ 16) by omega)]
          exact hfail 0 0
        · simp only [walkS, if_neg (show ¬ (itm n < 0 ∨ wrap64 (all + itm n) > 1048576 ∨ 16 ≤ st.length) from fun h => h.elim g1 fun h => h.elim g2 g3), decide_eq_false (show ¬ ((st.length : Int) ≥ 16) by omega)]
          refine Ev.succ ?_
          simp only [array_walk.j1, Bool.false_eq_true, if_false, List.length_reverse]
          replace hgo := hgo (by omega)
          unfold push at hgo
          by_cases g5 : n.f0 = 5
          · simp only [if_pos g5] at hgo
            simp only [if_pos g5, if_pos (show st.length < 17592186044416 by omega)]
            unfold push
            simp only [if_pos g5]
            rw [List.reverse_cons] at hgo
            exact hgo
          · simp only [if_neg g5] at hgo ⊢
            unfold push
            simp only [if_neg g5]
            cases st with
            | nil => exact hgo
            | cons x s =>
              have hw : wrap64 (((s.length + 1 : Nat) : Int) - 1) = ((s.length : Nat) : Int) := last_ix (by omega) (by simp only [List.length_cons] at hs; omega)
              simp only [List.length_cons, hw, if_pos (show (((s.length + 1 : Nat) : Int) > 0) by omega), if_pos (show (0 : Int) ≤ ((s.length : Nat) : Int) by omega), if_pos (show ((s.length : Nat) : Int) < ((s.length + 1 : Nat) : Int) by omega), rev_last, Int.toNat_natCast, rev_set]
              simp only [List.length_cons] at hgo
              exact hgo
noncomputable def tk (l : List S30) : Int := (walkS 0 0 [] 0 l).1
theorem walkf_ev (l : List S30) (ok : ∀ n ∈ l, Ok n) (hl : l.length ≤ 1099511627776) : Ev (fun k => array_walk.f k l) (walkS 0 0 [] 0 l) := by
  have := walk_ev l ok hl l.length 0 (by omega) (by omega) 0 0 [] (by simp)
  simp only [array_walk.f]
  exact this
theorem take_ev (l : List S30) (ok : ∀ n ∈ l, Ok n) (hl : l.length ≤ 1099511627776) : Ev (fun k => array_Take.f k l) (tk l) := by
  simp only [array_Take.f]
  exact Ev.bind (walkf_ev l ok hl) (Ev.const _)
noncomputable def rt (l : List S30) : Bool := if (l.length : Int) > 0 then (tk l == (l.length : Int)) else false
theorem right_ev (l : List S30) (ok : ∀ n ∈ l, Ok n) (hl : l.length ≤ 1099511627776) : Ev (fun k => array_Right.f k l) (rt l) := by
  unfold rt
  by_cases h : (l.length : Int) > 0
  · simp only [array_Right.f, if_pos h]
    exact Ev.bind (take_ev l ok hl) (Ev.const _)
  · simp only [array_Right.f, if_neg h]
    exact Ev.const _
def Fits (n : S30) : Prop := n.f1.length ≤ 30 ∧ n.f2.length ≤ 300 ∧ n.f3.length ≤ 300
namespace Sh
theorem w64 {n : Int} (h1 : -9223372036854775808 ≤ n) (h2 : n ≤ 9223372036854775807) : wrap64 n = n := by unfold wrap64; omega
theorem rd_at (b : List Int) (m : Nat) (h : m < b.length) : rd b (m : Int) = b[m] := by
  unfold rd
  rw [List.getD_eq_getElem?_getD, Int.toNat_natCast, List.getElem?_eq_getElem h]; rfl
theorem up64 (m : Nat) (h : m ≤ 1000000) : wrap64 ((m : Int) + 1) = ((m + 1 : Nat) : Int) := by rw [w64 (by omega) (by omega)]; omega
def bad (x : Int) : Bool := decide (x < 0 ∨ 1048576 < x)
def isz (x : Int) : Bool := decide (0 = x)
def P : List Int → Int
  | [] => 1
  | x :: r => x * P r
def cnt2 (s : List Int) : Int × Bool := if s.any bad = true then (0, false) else if s.any isz = true then (0, true) else if P s ≤ 1048576 then (P s, true) else (0, false)
def cnt (s : List Int) : Int × Bool := if s.length > 16 then (0, false) else cnt2 s
theorem one_f (a : Int) : shape_Count_1.f a = some (bad a) := by
  unfold shape_Count_1.f bad
  by_cases c : a < 0
  · rw [if_pos c]; simp [c]
  · rw [if_neg c]; simp [c]
theorem ifunc_loop (s : List Int) (hl : s.length ≤ 1000) (d : Nat) : ∀ (K m : Nat), m ≤ s.length → s.length - m = d → d + 1 ≤ K → ∃ r : Int, slices_IndexFunc_int_int.l0 K s (s.length : Int) (m : Int) = some r ∧ decide (r ≥ 0) = (s.drop m).any bad := by
  induction d with
  | zero =>
    intro K m h1 h2 h3
    obtain ⟨K, rfl⟩ : ∃ q, K = q + 1 := ⟨K - 1, by omega⟩
    refine ⟨-1, ?_, ?_⟩
    · simp only [slices_IndexFunc_int_int.l0]; rw [if_neg (by omega)]
    · rw [List.drop_eq_nil_of_le (by omega)]; rfl
  | succ d ih =>
    intro K m h1 h2 h3
    obtain ⟨K, rfl⟩ : ∃ q, K = q + 1 := ⟨K - 1, by omega⟩
    have c : m < s.length := by omega
    rw [List.drop_eq_getElem_cons c, List.any_cons]
    simp only [slices_IndexFunc_int_int.l0]
    rw [if_pos (by omega), if_pos (by omega), if_pos (by omega), rd_at s m c, one_f]
    simp only [Option.bind_some]
    by_cases g : bad s[m] = true
    · rw [if_pos g]
      exact ⟨m, rfl, by rw [g]; simp⟩
    · rw [if_neg g, up64 m (by omega)]
      obtain ⟨r, e1, e2⟩ := ih K (m + 1) (by omega) (by omega) (by omega)
      exact ⟨r, e1, by rw [e2, Bool.eq_false_iff.2 g]; rfl⟩
theorem cfunc_eq (s : List Int) (hl : s.length ≤ 1000) (K : Nat) (hK : s.length + 1 ≤ K) : slices_ContainsFunc_int_int.f K s = some (s.any bad) := by
  obtain ⟨r, e1, e2⟩ := ifunc_loop s hl s.length K 0 (by omega) (by omega) hK
  unfold slices_ContainsFunc_int_int.f slices_IndexFunc_int_int.f
  rw [show (0 : Int) = ((0 : Nat) : Int) from rfl, e1]
  rw [List.drop_zero] at e2
  simp only [Option.bind_some]
  rw [← e2]; rfl
theorem index_loop (s : List Int) (hl : s.length ≤ 1000) (d : Nat) : ∀ (K m : Nat), m ≤ s.length → s.length - m = d → d + 1 ≤ K → ∃ r : Int, slices_Index_int_int.l0 K s 0 (s.length : Int) (m : Int) = some r ∧ decide (r ≥ 0) = (s.drop m).any isz := by
  induction d with
  | zero =>
    intro K m h1 h2 h3
    obtain ⟨K, rfl⟩ : ∃ q, K = q + 1 := ⟨K - 1, by omega⟩
    refine ⟨-1, ?_, ?_⟩
    · simp only [slices_Index_int_int.l0]; rw [if_neg (by omega)]
    · rw [List.drop_eq_nil_of_le (by omega)]; rfl
  | succ d ih =>
    intro K m h1 h2 h3
    obtain ⟨K, rfl⟩ : ∃ q, K = q + 1 := ⟨K - 1, by omega⟩
    have c : m < s.length := by omega
    rw [List.drop_eq_getElem_cons c, List.any_cons]
    simp only [slices_Index_int_int.l0]
    rw [if_pos (by omega), if_pos (by omega), if_pos (by omega), rd_at s m c]
    by_cases g : 0 = s[m]
    · rw [if_pos g]
      exact ⟨m, rfl, by unfold isz; rw [decide_eq_true g]; simp⟩
    · rw [if_neg g, up64 m (by omega)]
      obtain ⟨r, e1, e2⟩ := ih K (m + 1) (by omega) (by omega) (by omega)
      exact ⟨r, e1, by unfold isz at e2 ⊢; rw [e2, decide_eq_false g]; rfl⟩
theorem cont_eq (s : List Int) (hl : s.length ≤ 1000) (K : Nat) (hK : s.length + 1 ≤ K) : slices_Contains_int_int.f K s 0 = some (s.any isz) := by
  obtain ⟨r, e1, e2⟩ := index_loop s hl s.length K 0 (by omega) (by omega) hK
  unfold slices_Contains_int_int.f slices_Index_int_int.f
  rw [show slices_Index_int_int.l0 K s 0 (s.length : Int) 0 = some r from e1]
  rw [List.drop_zero] at e2
  simp only [Option.bind_some]
  rw [← e2]
def good (s : List Int) : Prop := ∀ x ∈ s, 1 ≤ x ∧ x ≤ 1048576
theorem good_of (s : List Int) (h1 : ¬ s.any bad = true) (h2 : ¬ s.any isz = true) : good s := by
  intro x hx
  have a1 : ¬ bad x = true := fun h => h1 (List.any_eq_true.2 ⟨x, hx, h⟩)
  have a2 : ¬ isz x = true := fun h => h2 (List.any_eq_true.2 ⟨x, hx, h⟩)
  unfold bad at a1; unfold isz at a2
  simp only [decide_eq_true_eq] at a1 a2
  omega
theorem P_pos : ∀ (s : List Int), good s → 1 ≤ P s
  | [], _ => by unfold P; omega
  | x :: r, h => by
    have h1 := h x (by simp)
    have h2 := P_pos r (fun y hy => h y (by simp [hy]))
    unfold P
    have := Int.mul_le_mul h1.1 h2 (by omega) (by omega)
    omega
theorem good_drop {s : List Int} (h : good s) (m : Nat) : good (s.drop m) := fun x hx => h x (List.mem_of_mem_drop hx)
theorem mul_small {a x : Int} (h1 : 1 ≤ a) (h2 : a ≤ 1048576) (h3 : 1 ≤ x) (h4 : x ≤ 1048576) : 1 ≤ a * x ∧ a * x ≤ 1099511627776 := by
  have := Int.mul_le_mul h1 h3 (by omega) (by omega)
  have := Int.mul_le_mul h2 h4 (by omega) (by omega)
  omega
theorem count_loop (s : List Int) (hs : good s) (hl : s.length ≤ 1000) (d : Nat) : ∀ (K m : Nat) (acc : Int), m ≤ s.length → s.length - m = d → d + 1 ≤ K → 1 ≤ acc → acc ≤ 1048576 →
    shape_Count.l0 K acc s (s.length : Int) (m : Int) = some (if acc * P (s.drop m) ≤ 1048576 then (acc * P (s.drop m), true) else (0, false)) := by
  induction d with
  | zero =>
    intro K m acc h1 h2 h3 h4 h5
    obtain ⟨K, rfl⟩ : ∃ q, K = q + 1 := ⟨K - 1, by omega⟩
    simp only [shape_Count.l0]
    rw [if_neg (by omega), List.drop_eq_nil_of_le (by omega), show acc * P [] = acc from by unfold P; omega, if_pos h5]
  | succ d ih =>
    intro K m acc h1 h2 h3 h4 h5
    obtain ⟨K, rfl⟩ : ∃ q, K = q + 1 := ⟨K - 1, by omega⟩
    have c : m < s.length := by omega
    have hx := hs _ (List.getElem_mem c)
    have hm := mul_small h4 h5 hx.1 hx.2
    have hp := P_pos (s.drop (m + 1)) (good_drop hs _)
    simp only [shape_Count.l0]
    rw [if_pos (by omega), if_pos (by omega), if_pos (by omega), rd_at s m c, w64 (n := acc * s[m]) (by omega) (by omega), one_f, List.drop_eq_getElem_cons c, up64 m (by omega), show acc * P (s[m] :: s.drop (m + 1)) = acc * s[m] * P (s.drop (m + 1)) by rw [P, Int.mul_assoc]]
    simp only [Option.bind_some]
    by_cases g : acc * s[m] ≤ 1048576
    · rw [if_neg (by unfold bad; simp only [decide_eq_true_eq]; omega), ih K (m + 1) _ (by omega) (by omega) (by omega) hm.1 g]
    · rw [if_pos (by unfold bad; simp only [decide_eq_true_eq]; omega)]
      have := Int.mul_le_mul (show acc * s[m] ≤ acc * s[m] by omega) hp (by omega) (by omega)
      rw [if_neg (by omega)]
theorem count_eq (s : List Int) (K : Nat) (hK : 40 ≤ K) : shape_Count.f K s = some (cnt s) := by
  unfold shape_Count.f cnt
  obtain ⟨K, rfl⟩ : ∃ q, K = q + 1 := ⟨K - 1, by omega⟩
  by_cases c : s.length > 16
  · rw [if_pos (by omega), if_pos c]
    simp only [shape_Count.j0]
    rw [if_pos trivial]
  · rw [if_neg (by omega), if_neg c, cfunc_eq s (by omega) _ (by omega)]
    simp only [Option.bind_some, shape_Count.j0]
    unfold cnt2
    by_cases h1 : s.any bad = true
    · rw [if_pos h1, if_pos h1]
    · rw [if_neg h1, if_neg h1, cont_eq s (by omega) _ (by omega)]
      simp only [Option.bind_some]
      by_cases h2 : s.any isz = true
      · rw [if_pos h2, if_pos h2]
      · rw [if_neg h2, if_neg h2]
        have := count_loop s (good_of s h1 h2) (by omega) s.length K 0 1 (by omega) (by omega) (by omega) (by omega) (by omega)
        rw [List.drop_zero, Int.one_mul] at this
        exact this
end Sh
theorem cnt_ev (s : List Int) : Ev (fun k => shape_Count.f k s) (Sh.cnt s) := ⟨40, fun k hk => Sh.count_eq s k hk⟩
def In64 (v : Int) : Prop := -9223372036854775808 ≤ v ∧ v ≤ 9223372036854775807
theorem andNot1 (v : Int) (h : In64 v) : ((Go.bits .andNot .i64 v 1) == 0) = (v == 0 || v == 1) := by
  obtain ⟨h1, h2⟩ := h
  have e : Go.bits .andNot .i64 v 1 = IntKind.i64.wrap (((v % 18446744073709551616).toNat / 2 * 2 : Nat) : Int) := by
    show IntKind.i64.wrap ((BitVec.ofInt 64 v &&& ~~~BitVec.ofInt 64 ((1 : Nat) : Int)).toNat : Int) = _
    rw [BitVec.toNat_and, BitVec.toNat_not, ofInt_u64 1 (by omega), BitVec.toNat_ofInt]
    have e1 : 2 ^ 64 - 1 - 1 = 18446744073709551614 := by decide
    rw [e1, nat_hi64_1, Nat.mod_eq_of_lt (by omega)]
    rfl
  rw [e]
  have e2 : IntKind.i64.wrap (((v % 18446744073709551616).toNat / 2 * 2 : Nat) : Int) = wrap64 (((v % 18446744073709551616).toNat / 2 * 2 : Nat) : Int) := i64_w _
  rw [e2]
  by_cases g : v = 0 ∨ v = 1
  · have z : wrap64 (((v % 18446744073709551616).toNat / 2 * 2 : Nat) : Int) = 0 := by
      unfold wrap64
      rcases g with rfl | rfl <;> omega
    rw [z]
    rcases g with rfl | rfl <;> rfl
  · have z : wrap64 (((v % 18446744073709551616).toNat / 2 * 2 : Nat) : Int) ≠ 0 := by
      unfold wrap64
      omega
    rw [beq_eq_false_iff_ne.mpr z, beq_eq_false_iff_ne.mpr (fun h => g (.inl h)), beq_eq_false_iff_ne.mpr (fun h => g (.inr h))]
    rfl
def okI (a v : Int) : Bool := if a = 1 then (v == 0 || v == 1) else if a = 2 then true else if a = 3 then decide (0 ≤ v ∧ v ≤ 1114111 ∧ ¬ (55296 ≤ v ∧ v ≤ 57343)) else false
theorem valid_val (a : Int) : Ev (fun k => utf8_ValidRune.f k a) (decide (0 ≤ a ∧ a ≤ 1114111 ∧ ¬ (55296 ≤ a ∧ a ≤ 57343))) := by
  by_cases h : 0 ≤ a
  · simp only [utf8_ValidRune.f, if_pos h]
    refine Ev.succ ?_
    by_cases h2 : a < 55296
    · rw [decide_eq_true (show 0 ≤ a ∧ a ≤ 1114111 ∧ ¬ (55296 ≤ a ∧ a ≤ 57343) by omega)]
      simp only [utf8_ValidRune.j0, decide_eq_true h2, if_true]
      exact Ev.const _
    · simp only [utf8_ValidRune.j0, decide_eq_false h2, Bool.false_eq_true, if_false]
      by_cases h3 : 57343 < a
      · by_cases h4 : a ≤ 1114111
        · rw [decide_eq_true (show 0 ≤ a ∧ a ≤ 1114111 ∧ ¬ (55296 ≤ a ∧ a ≤ 57343) by omega)]
          simp only [if_pos h3, if_pos h4]; exact Ev.const _
        · rw [decide_eq_false (show ¬ (0 ≤ a ∧ a ≤ 1114111 ∧ ¬ (55296 ≤ a ∧ a ≤ 57343)) by omega)]
          simp only [if_pos h3, if_neg h4]; exact Ev.const _
      · rw [decide_eq_false (show ¬ (0 ≤ a ∧ a ≤ 1114111 ∧ ¬ (55296 ≤ a ∧ a ≤ 57343)) by omega)]
        simp only [if_neg h3]; exact Ev.const _
  · simp only [utf8_ValidRune.f, if_neg h]
    refine Ev.succ ?_
    rw [decide_eq_false (show ¬ (0 ≤ a ∧ a ≤ 1114111 ∧ ¬ (55296 ≤ a ∧ a ≤ 57343)) by omega)]
    simp only [utf8_ValidRune.j0, Bool.false_eq_true, if_false, if_neg (show ¬ 57343 < a by omega)]
    exact Ev.const _
theorem fits_val (a v : Int) (hv : In64 v) : Ev (fun k => array_fits.f k a v) (okI a v) := by
  unfold okI
  by_cases h1 : a = 1
  · simp only [array_fits.f, if_pos h1, andNot1 v hv]; exact Ev.const _
  · by_cases h2 : a = 2
    · simp only [array_fits.f, if_neg h1, if_pos h2]; exact Ev.const _
    · by_cases h3 : a = 3
      · by_cases h4 : v = wrap64 (wrap32 v)
        · have e : wrap32 v = v := by
            have : wrap64 (wrap32 v) = wrap32 v := by unfold wrap64 wrap32; omega
            omega
          simp only [array_fits.f, if_neg h1, if_neg h2, if_pos h3, if_pos h4]
          simp only [e]
          exact Ev.bind (valid_val v) (Ev.const _)
        · simp only [array_fits.f, if_neg h1, if_neg h2, if_pos h3, if_neg h4]
          rw [decide_eq_false (show ¬ (0 ≤ v ∧ v ≤ 1114111 ∧ ¬ (55296 ≤ v ∧ v ≤ 57343)) by
            intro g
            apply h4
            unfold wrap64 wrap32; omega)]
          exact Ev.const _
      · simp only [array_fits.f, if_neg h1, if_neg h2, if_neg h3]; exact Ev.const _
theorem wrongs_val (l : List Int) (a : Int) (hl : l.length ≤ 1099511627776) (hr : ∀ v ∈ l, In64 v) : ∀ d i, i ≤ l.length → l.length - i = d → Ev (fun k => array_wrongs_int.l0 k a l (l.length : Int) (i : Int)) (!(l.drop i).all (okI a)) := by
  intro d
  induction d with
  | zero =>
    intro i h1 h2
    rw [List.drop_eq_nil_of_le (by omega)]
    refine Ev.succ ?_
    simp only [array_wrongs_int.l0, if_neg (show ¬ ((i : Int) < (l.length : Int)) by omega)]
    exact Ev.const _
  | succ d ih =>
    intro i h1 h2
    have hi : i < l.length := by omega
    have ht := fits_val a l[i] (hr _ (List.getElem_mem _))
    have hv := ih (i + 1) (by omega) (by omega)
    rw [List.drop_eq_getElem_cons hi, List.all_cons]
    refine Ev.succ ?_
    simp only [array_wrongs_int.l0, if_pos (show ((i : Int) < (l.length : Int)) by omega), if_pos (show (0 : Int) ≤ (i : Int) by omega), array_items_1.f, ix hi hl, rd_at l i hi]
    refine Ev.bind (Ev.bind ht (Ev.const _)) ?_
    cases okI a l[i] with
    | true => exact hv
    | false => exact Ev.const _
noncomputable def dr (y : S38) : Bool := open Classical in if h : ∃ v, Ev (fun k => decimal_Right.f k y.f0 y.f1) v then h.choose else false
theorem dr_ev (y : S38) (h : OkD y) : Ev (fun k => decimal_Right.f k y.f0 y.f1) (dr y) := by
  have e := decright_ev y h
  unfold dr
  rw [dif_pos e]
  exact e.choose_spec
theorem rdD_at (b : List S38) (m : Nat) (h : m < b.length) : rd_T38 b (m : Int) = b[m] := by
  unfold rd_T38
  rw [List.getD_eq_getElem?_getD, Int.toNat_natCast, List.getElem?_eq_getElem h]; rfl
theorem decs_val (l : List S38) (ok : ∀ y ∈ l, OkD y) (hl : l.length ≤ 1099511627776) : ∀ d i, i ≤ l.length → l.length - i = d → Ev (fun k => api_Dec_74.l0 k l (l.length : Int) (i : Int)) (!(l.drop i).all dr) := by
  intro d
  induction d with
  | zero =>
    intro i h1 h2
    rw [List.drop_eq_nil_of_le (by omega)]
    refine Ev.succ ?_
    simp only [api_Dec_74.l0, if_neg (show ¬ ((i : Int) < (l.length : Int)) by omega)]
    exact Ev.const _
  | succ d ih =>
    intro i h1 h2
    have hi : i < l.length := by omega
    have ht := dr_ev l[i] (ok _ (List.getElem_mem _))
    have hv := ih (i + 1) (by omega) (by omega)
    rw [List.drop_eq_getElem_cons hi, List.all_cons]
    refine Ev.succ ?_
    simp only [api_Dec_74.l0, if_pos (show ((i : Int) < (l.length : Int)) by omega), if_pos (show (0 : Int) ≤ (i : Int) by omega), ix hi hl, rdD_at l i hi]
    refine Ev.bind ht ?_
    cases dr l[i] with
    | true => exact hv
    | false => exact Ev.const _
noncomputable def gd (x5 x6 a : Int) (c : List Int) (e : List S38) : Bool := if (c.length : Int) = x5 then (if (e.length : Int) = x6 then (c.all (okI a) && e.all dr) else false) else false
theorem items1_val (x3 x5 x6 a a' : Int) (b c : List Int) (e : List S38) (ok : ∀ y ∈ e, OkD y) (hr : ∀ v ∈ c, In64 v) (hc : c.length ≤ 1099511627776) (he : e.length ≤ 1099511627776) :
    Ev (fun k => array_items.j1 k x3 x5 x6 a a' b c e) (if gd x5 x6 a c e = true then x3 else -1) := by
  have ht := wrongs_val c a hc hr c.length 0 (by omega) (by omega)
  have hs := decs_val e ok he e.length 0 (by omega) (by omega)
  rw [List.drop_zero] at ht hs
  unfold gd
  refine Ev.succ ?_
  by_cases g1 : (c.length : Int) = x5
  · by_cases g2 : (e.length : Int) = x6
    · simp only [array_items.j1, if_pos g1, if_pos g2, array_wrongs_int.f, api_Dec_74.f]
      refine Ev.bind ht ?_
      cases c.all (okI a) with
      | false => exact Ev.const _
      | true =>
        refine Ev.bind hs ?_
        cases e.all dr with
        | false => exact Ev.const _
        | true => exact Ev.const _
    · simp only [array_items.j1, if_pos g1, if_neg g2]; exact Ev.const _
  · simp only [array_items.j1, if_neg g1]; exact Ev.const _
noncomputable def gdK (a x3 : Int) (c : List Int) (e : List S38) : Bool := if a = 1 ∨ a = 2 ∨ a = 3 then gd x3 0 a c e else if a = 4 then gd 0 x3 a c e else if a = 5 then gd 0 0 a c e else false
def Ok2 (n : S30) : Prop := Ok n ∧ (∀ v ∈ n.f2, In64 v) ∧ n.f2.length ≤ 300 ∧ n.f3.length ≤ 300
theorem items_val (n : S30) (ok : Ok2 n) : Ev (fun k => array_items.f k n.f0 n.f1 n.f2 n.f3) (if (Sh.cnt n.f1).2 = true then (if gdK n.f0 (Sh.cnt n.f1).1 n.f2 n.f3 = true then (Sh.cnt n.f1).1 else -1) else -1) := by
  have hc := cnt_ev n.f1
  revert hc
  generalize Sh.cnt n.f1 = x
  intro hc
  obtain ⟨ok1, ok2, ok3, ok4⟩ := ok
  simp only [array_items.f]
  refine Ev.bind hc ?_
  cases x.2 with
  | false => exact Ev.const _
  | true =>
    simp only [if_true]
    unfold gdK
    by_cases g1 : n.f0 = 1
    · simp only [if_pos g1, if_pos (show n.f0 = 1 ∨ n.f0 = 2 ∨ n.f0 = 3 from .inl g1), beq_iff_eq.mpr g1]
      exact Ev.succ (by simp only [array_items.j0, if_true]; exact items1_val _ _ _ _ _ _ _ _ ok1 ok2 (by omega) (by omega))
    · by_cases g2 : n.f0 = 2
      · simp only [if_neg g1, if_pos g2, if_pos (show n.f0 = 1 ∨ n.f0 = 2 ∨ n.f0 = 3 from .inr (.inl g2)), beq_iff_eq.mpr g2]
        exact Ev.succ (by simp only [array_items.j0, if_true]; exact items1_val _ _ _ _ _ _ _ _ ok1 ok2 (by omega) (by omega))
      · by_cases g3 : n.f0 = 3
        · simp only [if_neg g1, if_neg g2, if_pos (show n.f0 = 1 ∨ n.f0 = 2 ∨ n.f0 = 3 from .inr (.inr g3)), beq_iff_eq.mpr g3]
          exact Ev.succ (by simp only [array_items.j0, if_true]; exact items1_val _ _ _ _ _ _ _ _ ok1 ok2 (by omega) (by omega))
        · simp only [if_neg g1, if_neg g2, if_neg (show ¬ (n.f0 = 1 ∨ n.f0 = 2 ∨ n.f0 = 3) by omega), beq_eq_false_iff_ne.mpr g3]
          refine Ev.succ ?_
          simp only [array_items.j0, Bool.false_eq_true, if_false]
          by_cases g4 : n.f0 = 4
          · simp only [if_pos g4]; exact items1_val _ _ _ _ _ _ _ _ ok1 ok2 (by omega) (by omega)
          · by_cases g5 : n.f0 = 5
            · simp only [if_neg g4, if_pos g5]; exact items1_val _ _ _ _ _ _ _ _ ok1 ok2 (by omega) (by omega)
            · simp only [if_neg g4, if_neg g5]; exact Ev.const _
theorem itm_val (n : S30) (ok : Ok2 n) : itm n = if (Sh.cnt n.f1).2 = true then (if gdK n.f0 (Sh.cnt n.f1).1 n.f2 n.f3 = true then (Sh.cnt n.f1).1 else -1) else -1 :=
  Ev.uniq (itm_said n ok.1).1 (items_val n ok)
def Fit2 (n : S30) : Prop := n.f1.length ≤ 1000 ∧ n.f2.length ≤ 1000 ∧ n.f3.length ≤ 1000
noncomputable def q {α : Type} (a b : α) : Bool := @decide (a = b) (Classical.propDecidable _)
theorem q_t {α : Type} {a b : α} (h : a = b) : q a b = true := by unfold q; exact @decide_eq_true _ (Classical.propDecidable _) h
theorem q_f {α : Type} {a b : α} (h : a ≠ b) : q a b = false := by unfold q; exact @decide_eq_false _ (Classical.propDecidable _) h
theorem q_nil {α : Type} {a b : List α} {i : Nat} (h : a.length ≤ i) (h2 : b.length ≤ i) : q (a.drop i) (b.drop i) = true := q_t (by rw [List.drop_eq_nil_of_le h, List.drop_eq_nil_of_le h2])
theorem q_eq {α : Type} {a b : List α} {i : Nat} (ha : i < a.length) (hb : i < b.length) (h : a[i] = b[i]) : q (a.drop i) (b.drop i) = q (a.drop (i + 1)) (b.drop (i + 1)) := by
  by_cases g : a.drop (i + 1) = b.drop (i + 1)
  · rw [q_t g, q_t (by rw [List.drop_eq_getElem_cons ha, List.drop_eq_getElem_cons hb, h, g])]
  · rw [q_f g, q_f (fun e => g (by rw [List.drop_eq_getElem_cons ha, List.drop_eq_getElem_cons hb] at e; injection e))]
theorem q_ne {α : Type} {a b : List α} {i : Nat} (ha : i < a.length) (hb : i < b.length) (h : a[i] ≠ b[i]) : q (a.drop i) (b.drop i) = false :=
  q_f (fun e => h (by rw [List.drop_eq_getElem_cons ha, List.drop_eq_getElem_cons hb] at e; injection e))
theorem eqi_loop (a b : List Int) (he : a.length = b.length) (hl : a.length ≤ 1099511627776) : ∀ d i, i ≤ a.length → a.length - i = d → Ev (fun k => slices_Equal_int_int.l0 k a b (a.length : Int) (i : Int)) (q (a.drop i) (b.drop i)) := by
  intro d
  induction d with
  | zero =>
    intro i h1 h2
    rw [q_nil (by omega) (by omega)]
    refine Ev.succ ?_
    simp only [slices_Equal_int_int.l0, if_neg (show ¬ ((i : Int) < (a.length : Int)) by omega)]
    exact Ev.const _
  | succ d ih =>
    intro i h1 h2
    have hi : i < a.length := by omega
    have hb : i < b.length := by omega
    have hv := ih (i + 1) (by omega) (by omega)
    refine Ev.succ ?_
    simp only [slices_Equal_int_int.l0, if_pos (show ((i : Int) < (a.length : Int)) by omega), if_pos (show ((i : Int) < (b.length : Int)) by omega), if_pos (show (0 : Int) ≤ (i : Int) by omega), ix hi hl, rd_at a i hi, rd_at b i hb]
    by_cases g : a[i] = b[i]
    · rw [q_eq hi hb g]; simp only [if_pos g]; exact hv
    · rw [q_ne hi hb g]; simp only [if_neg g]; exact Ev.const _
theorem eqi_ev (a b : List Int) (hl : a.length ≤ 1099511627776) : Ev (fun k => slices_Equal_int_int.f k a b) (q a b) := by
  by_cases h : (a.length : Int) = (b.length : Int)
  · simp only [slices_Equal_int_int.f, if_pos h]
    have := eqi_loop a b (by omega) hl a.length 0 (by omega) (by omega)
    simp only [List.drop_zero] at this
    exact this
  · simp only [slices_Equal_int_int.f, if_neg h]
    rw [q_f (fun e => h (by rw [e]))]
    exact Ev.const _
theorem dec_ne (x y : S38) : (!(x.f0 == y.f0) || !(x.f1 == y.f1)) = !(q x y) := by
  by_cases h : x = y
  · rw [q_t h, h]; simp
  · rw [q_f h]
    obtain ⟨a, b⟩ := x
    obtain ⟨c, d⟩ := y
    by_cases e : a = c
    · by_cases f : b = d
      · exact absurd (by rw [e, f]) h
      · simp only [beq_eq_false_iff_ne.mpr f, Bool.not_false, Bool.or_true]
    · simp only [beq_eq_false_iff_ne.mpr e, Bool.not_false, Bool.true_or]
theorem eqd_loop (a b : List S38) (he : a.length = b.length) (hl : a.length ≤ 1099511627776) : ∀ d i, i ≤ a.length → a.length - i = d → Ev (fun k => api_Dec_64.l0 k a b (a.length : Int) (i : Int)) (q (a.drop i) (b.drop i)) := by
  intro d
  induction d with
  | zero =>
    intro i h1 h2
    rw [q_nil (by omega) (by omega)]
    refine Ev.succ ?_
    simp only [api_Dec_64.l0, if_neg (show ¬ ((i : Int) < (a.length : Int)) by omega)]
    exact Ev.const _
  | succ d ih =>
    intro i h1 h2
    have hi : i < a.length := by omega
    have hb : i < b.length := by omega
    have hv := ih (i + 1) (by omega) (by omega)
    refine Ev.succ ?_
    simp only [api_Dec_64.l0, if_pos (show ((i : Int) < (a.length : Int)) by omega), if_pos (show ((i : Int) < (b.length : Int)) by omega), if_pos (show (0 : Int) ≤ (i : Int) by omega), ix hi hl, rdD_at a i hi, rdD_at b i hb, dec_ne]
    by_cases g : a[i] = b[i]
    · rw [q_eq hi hb g]; simp only [q_t g, Bool.not_true, Bool.false_eq_true, if_false]; exact hv
    · rw [q_ne hi hb g]; simp only [q_f g, Bool.not_false, if_true]; exact Ev.const _
theorem eqd_ev (a b : List S38) (hl : a.length ≤ 1099511627776) : Ev (fun k => api_Dec_64.f k a b) (q a b) := by
  by_cases h : (a.length : Int) = (b.length : Int)
  · simp only [api_Dec_64.f, if_pos h]
    have := eqd_loop a b (by omega) hl a.length 0 (by omega) (by omega)
    simp only [List.drop_zero] at this
    exact this
  · simp only [api_Dec_64.f, if_neg h]
    rw [q_f (fun e => h (by rw [e]))]
    exact Ev.const _
theorem node_q (x y : S30) : q x y = (q x.f0 y.f0 && (q x.f1 y.f1 && (q x.f2 y.f2 && q x.f3 y.f3))) := by
  obtain ⟨a, b, c, d⟩ := x
  obtain ⟨a', b', c', d'⟩ := y
  by_cases h0 : a = a'
  · by_cases h1 : b = b'
    · by_cases h2 : c = c'
      · by_cases h3 : d = d'
        · rw [q_t (by rw [h0, h1, h2, h3])]; simp only [q_t h0, q_t h1, q_t h2, q_t h3]; rfl
        · rw [q_f (fun e => h3 (by injection e))]; simp only [q_f h3, Bool.and_false]
      · rw [q_f (fun e => h2 (by injection e))]; simp only [q_f h2, Bool.and_false, Bool.false_and]
    · rw [q_f (fun e => h1 (by injection e))]; simp only [q_f h1, Bool.and_false, Bool.false_and]
  · rw [q_f (fun e => h0 (by injection e))]; simp only [q_f h0, Bool.false_and]
theorem same1_ev (x y : S30) (h : Fit2 x) : Ev (fun k => array_Same_1.f k x.f0 x.f1 x.f2 x.f3 y.f0 y.f1 y.f2 y.f3) (q x y) := by
  obtain ⟨h1, h2, h3⟩ := h
  rw [node_q]
  by_cases e : x.f0 = y.f0
  · simp only [array_Same_1.f, if_pos e, q_t e, Bool.true_and]
    refine Ev.bind (eqi_ev x.f1 y.f1 (by omega)) ?_
    cases q x.f1 y.f1 with
    | false => exact Ev.const _
    | true =>
      refine Ev.bind (eqi_ev x.f2 y.f2 (by omega)) ?_
      cases q x.f2 y.f2 with
      | false => exact Ev.const _
      | true => exact Ev.bind (eqd_ev x.f3 y.f3 (by omega)) (Ev.const _)
  · simp only [array_Same_1.f, if_neg e, q_f e, Bool.false_and]; exact Ev.const _
theorem eqn_loop (a b : List S30) (he : a.length = b.length) (hl : a.length ≤ 100) (hf : ∀ n ∈ a, Fit2 n) : ∀ d i, i ≤ a.length → a.length - i = d → Ev (fun k => api_Node_61.l0 k b a (a.length : Int) (i : Int)) (q (a.drop i) (b.drop i)) := by
  intro d
  induction d with
  | zero =>
    intro i h1 h2
    rw [q_nil (by omega) (by omega)]
    refine Ev.succ ?_
    simp only [api_Node_61.l0, if_neg (show ¬ ((i : Int) < (a.length : Int)) by omega)]
    exact Ev.const _
  | succ d ih =>
    intro i h1 h2
    have hi : i < a.length := by omega
    have hb : i < b.length := by omega
    have hv := ih (i + 1) (by omega) (by omega)
    refine Ev.succ ?_
    simp only [api_Node_61.l0, if_pos (show ((i : Int) < (a.length : Int)) by omega), if_pos (show ((i : Int) < (b.length : Int)) by omega), if_pos (show (0 : Int) ≤ (i : Int) by omega), ix hi (by omega), rdT_at a i hi, rdT_at b i hb]
    refine Ev.bind (same1_ev a[i] b[i] (hf _ (List.getElem_mem _))) ?_
    by_cases g : a[i] = b[i]
    · rw [q_eq hi hb g]; simp only [q_t g, if_true]; exact hv
    · rw [q_ne hi hb g]; simp only [q_f g, Bool.false_eq_true, if_false]; exact Ev.const _
theorem same_q (a b : List S30) (hl : a.length ≤ 100) (hf : ∀ n ∈ a, Fit2 n) : Ev (fun k => array_Same.f k a b) (q a b) := by
  simp only [array_Same.f]
  refine Ev.bind ?_ (Ev.const _)
  by_cases h : (a.length : Int) = (b.length : Int)
  · simp only [api_Node_61.f, if_pos h]
    have := eqn_loop a b (by omega) hl hf a.length 0 (by omega) (by omega)
    simp only [List.drop_zero] at this
    exact this
  · simp only [api_Node_61.f, if_neg h]
    rw [q_f (fun e => h (by rw [e]))]
    exact Ev.const _
theorem req_loop (a b : List Int) (he : a.length = b.length) (hl : a.length ≤ 1099511627776) : ∀ d i, i ≤ a.length → a.length - i = d → Ev (fun k => deckleref01_Same.l0 k a b (i : Int)) (q (a.drop i) (b.drop i)) := by
  intro d
  induction d with
  | zero =>
    intro i h1 h2
    rw [q_nil (by omega) (by omega)]
    refine Ev.succ ?_
    simp only [deckleref01_Same.l0, if_neg (show ¬ ((i : Int) < (a.length : Int)) by omega)]
    exact Ev.const _
  | succ d ih =>
    intro i h1 h2
    have hi : i < a.length := by omega
    have hb : i < b.length := by omega
    have hv := ih (i + 1) (by omega) (by omega)
    refine Ev.succ ?_
    simp only [deckleref01_Same.l0, if_pos (show ((i : Int) < (a.length : Int)) by omega), if_pos (show ((i : Int) < (b.length : Int)) by omega), if_pos (show (0 : Int) ≤ (i : Int) by omega), ix hi hl, rd_at a i hi, rd_at b i hb]
    by_cases g : a[i] = b[i]
    · rw [q_eq hi hb g]; simp only [if_pos g]; exact hv
    · rw [q_ne hi hb g]; simp only [if_neg g]; exact Ev.const _
theorem req_ev (a b : List Int) (hl : a.length ≤ 1099511627776) : Ev (fun k => deckleref01_Same.f k a b) (q a b) := by
  by_cases h : (a.length : Int) = (b.length : Int)
  · simp only [deckleref01_Same.f, if_pos h]
    have := req_loop a b (by omega) hl a.length 0 (by omega) (by omega)
    simp only [List.drop_zero] at this
    exact this
  · simp only [deckleref01_Same.f, if_neg h]
    rw [q_f (fun e => h (by rw [e]))]
    exact Ev.const _
theorem one_loop (x y : S30) (h : Fit2 x) (he : x.f3.length = y.f3.length) : ∀ d i, i ≤ x.f3.length → x.f3.length - i = d → Ev (fun k => deckleref10_One.l0 k (i : Int) x.f0 x.f1 x.f2 x.f3 y.f0 y.f1 y.f2 y.f3) (q (x.f3.drop i) (y.f3.drop i) && (q x.f0 y.f0 && (q x.f1 y.f1 && q x.f2 y.f2))) := by
  obtain ⟨h1, h2, h3⟩ := h
  intro d
  induction d with
  | zero =>
    intro i g1 g2
    rw [q_nil (by omega) (by omega)]
    refine Ev.succ ?_
    simp only [deckleref10_One.l0, if_neg (show ¬ ((i : Int) < (x.f3.length : Int)) by omega), Bool.true_and]
    by_cases e : x.f0 = y.f0
    · simp only [if_pos e, q_t e, Bool.true_and]
      refine Ev.bind (req_ev x.f1 y.f1 (by omega)) ?_
      cases q x.f1 y.f1 with
      | false => exact Ev.const _
      | true => exact Ev.bind (req_ev x.f2 y.f2 (by omega)) (Ev.const _)
    · simp only [if_neg e, q_f e, Bool.false_and]; exact Ev.const _
  | succ d ih =>
    intro i g1 g2
    have hi : i < x.f3.length := by omega
    have hb : i < y.f3.length := by omega
    have hv := ih (i + 1) (by omega) (by omega)
    refine Ev.succ ?_
    simp only [deckleref10_One.l0, if_pos (show ((i : Int) < (x.f3.length : Int)) by omega), if_pos (show ((i : Int) < (y.f3.length : Int)) by omega), if_pos (show (0 : Int) ≤ (i : Int) by omega), ix hi (by omega), rdD_at x.f3 i hi, rdD_at y.f3 i hb, dec_ne]
    by_cases g : x.f3[i] = y.f3[i]
    · rw [q_eq hi hb g]; simp only [q_t g, Bool.not_true, Bool.false_eq_true, if_false]; exact hv
    · rw [q_ne hi hb g]; simp only [q_f g, Bool.not_false, if_true, Bool.false_and]; exact Ev.const _
theorem one_ev (x y : S30) (h : Fit2 x) : Ev (fun k => deckleref10_One.f k x.f0 x.f1 x.f2 x.f3 y.f0 y.f1 y.f2 y.f3) (q x y) := by
  by_cases e : (x.f3.length : Int) = (y.f3.length : Int)
  · simp only [deckleref10_One.f, if_pos e]
    have := one_loop x y h (by omega) x.f3.length 0 (by omega) (by omega)
    simp only [List.drop_zero] at this
    rw [node_q]
    have c : ∀ p q r s : Bool, (p && (q && (r && s))) = (q && (r && (s && p))) := by decide
    rw [c] at this
    exact this
  · simp only [deckleref10_One.f, if_neg e]
    rw [q_f (fun g => e (by rw [g]))]
    exact Ev.const _
def OkE (y : S38) : Prop := In64 y.f0 ∧ In64 y.f1
theorem OkE.d {y : S38} (h : OkE y) : OkD y := h.2
theorem ten_le {x : Int} {e : Nat} (h0 : x ≠ 0) (h : In64 (x * 10 ^ e)) : e ≤ 18 := by
  obtain ⟨h1, h2⟩ := h
  refine Nat.not_lt.1 fun hlt => ?_
  have h3 : (10 : Nat) ^ 19 ≤ 10 ^ e := Nat.pow_le_pow_right (by decide) hlt
  have h4 : (x * 10 ^ e).natAbs = x.natAbs * 10 ^ e := by rw [Int.natAbs_mul, Int.natAbs_pow]; rfl
  have h5 : 10 ^ e ≤ x.natAbs * 10 ^ e := Nat.le_mul_of_pos_left _ (by omega)
  have h6 : (10 : Nat) ^ 19 = 10000000000000000000 := by decide
  generalize x * 10 ^ e = z at h1 h2 h4
  generalize (10 : Nat) ^ e = q at h3 h5 h4
  omega
theorem In64.mul_down {m : Int} {i j : Nat} (hij : i ≤ j) (h : In64 (m * 10 ^ j)) : In64 (m * 10 ^ i) := by
  obtain ⟨h1, h2⟩ := h
  have h3 : (10 : Int) ^ i ≤ 10 ^ j := by
    have := Nat.pow_le_pow_right (show 0 < 10 by decide) hij
    exact_mod_cast this
  have h4 : (0 : Int) < 10 ^ i := by
    have := Nat.pow_pos (show 0 < 10 by decide) (n := i)
    exact_mod_cast this
  unfold In64
  by_cases c : 0 ≤ m
  · have h5 := Int.mul_le_mul_of_nonneg_left h3 c
    have h6 := Int.mul_nonneg c (Int.le_of_lt h4)
    omega
  · have h5 := Int.mul_le_mul_of_nonneg_left h3 (show 0 ≤ -m by omega)
    have h6 := Int.mul_nonneg (show 0 ≤ -m by omega) (Int.le_of_lt h4)
    rw [Int.neg_mul, Int.neg_mul] at h5
    rw [Int.neg_mul] at h6
    omega
theorem norm_of : ∀ (d : Nat) (x : Int) (e : Nat), x ≠ 0 → x.natAbs ≤ d → In64 (x * 10 ^ e) → ∃ (m : Int) (j : Nat), Ev (fun k => decimal_Norm.l0 k x (e : Int)) (m, (j : Int), true) ∧ m ≠ 0 ∧ Int.tmod m 10 ≠ 0 ∧ m * 10 ^ j = x * 10 ^ e ∧ j ≤ 18 := by
  intro d
  induction d with
  | zero => intro x e h0 h1; exact absurd (show x = 0 by omega) h0
  | succ d ih =>
    intro x e h0 h1 h2
    have he := ten_le h0 h2
    by_cases h : Int.tmod x 10 = 0
    · have hx : x = Int.tdiv x 10 * 10 := by have := Int.mul_tdiv_add_tmod x 10; omega
      have hx64 : In64 (x * 10 ^ 0) := In64.mul_down (Nat.zero_le e) h2
      rw [Int.pow_zero, Int.mul_one] at hx64
      obtain ⟨b1, b2⟩ := hx64
      have hp : Int.tdiv x 10 * 10 ^ (e + 1) = x * 10 ^ e := by
        rw [Int.pow_succ, Int.mul_comm (10 ^ e) 10, ← Int.mul_assoc, ← hx]
      obtain ⟨m, j, q1, q2, q3, q4, q5⟩ := ih (Int.tdiv x 10) (e + 1) (by omega) (by omega) (by rw [hp]; exact h2)
      refine ⟨m, j, Ev.succ ?_, q2, q3, q4.trans hp, q5⟩
      simp only [decimal_Norm.l0, if_pos h, if_pos (show (e : Int) ≤ 32767 by omega)]
      rw [w64 (n := Int.tdiv x 10) (by omega) (by omega), w64 (n := (e : Int) + 1) (by omega) (by omega)]
      exact q1
    · refine ⟨x, e, Ev.succ ?_, h0, h, rfl, he⟩
      simp only [decimal_Norm.l0, if_neg h, if_neg (show ¬ (e : Int) < -32768 by omega), if_neg (show ¬ (e : Int) > 32767 by omega)]
      exact Ev.const _
def OfI (v : Int) (y : S38) : Prop := ∃ j : Nat, y.f1 = (j : Int) ∧ j ≤ 18 ∧ y.f0 * 10 ^ j = v ∧ (v = 0 → y.f0 = 0 ∧ j = 0) ∧ (v ≠ 0 → y.f0 ≠ 0 ∧ Int.tmod y.f0 10 ≠ 0)
theorem of_some (v : Int) (h : In64 v) : ∃ y : S38, Ev (fun k => decimal_Of.f k v) (y.f0, y.f1) ∧ OfI v y := by
  by_cases h0 : v = 0
  · refine ⟨⟨0, 0⟩, ?_, 0, rfl, by omega, by rw [h0]; rfl, fun _ => ⟨rfl, rfl⟩, fun g => absurd h0 g⟩
    simp only [decimal_Of.f, decimal_Norm.f, if_pos h0]
    exact Ev.bind (Ev.const _) (Ev.const _)
  · obtain ⟨m, j, q1, q2, q3, q4, q5⟩ := norm_of v.natAbs v 0 h0 (Nat.le_refl _) (by rw [Int.pow_zero, Int.mul_one]; exact h)
    rw [Int.pow_zero, Int.mul_one] at q4
    refine ⟨⟨m, j⟩, ?_, j, rfl, q5, q4, fun g => absurd g h0, fun _ => ⟨q2, q3⟩⟩
    simp only [decimal_Of.f, decimal_Norm.f, if_neg h0]
    exact Ev.bind q1 (Ev.const _)
noncomputable def ofD (v : Int) : S38 := open Classical in if h : ∃ y : S38, Ev (fun k => decimal_Of.f k v) (y.f0, y.f1) ∧ OfI v y then h.choose else ⟨0, 0⟩
theorem ofD_ev (v : Int) (h : In64 v) : Ev (fun k => decimal_Of.f k v) ((ofD v).f0, (ofD v).f1) ∧ OfI v (ofD v) := by
  have e := of_some v h
  unfold ofD
  rw [dif_pos e]
  exact e.choose_spec
theorem OfI.ok {v : Int} {y : S38} (h : OfI v y) (hv : In64 v) : OkE y := by
  obtain ⟨j, e1, e2, e3, e4, e5⟩ := h
  refine ⟨?_, by unfold In64; omega⟩
  have := In64.mul_down (Nat.zero_le j) (m := y.f0) (by rw [e3]; exact hv)
  rw [Int.pow_zero, Int.mul_one] at this
  exact this
theorem OfI.right {v : Int} {y : S38} (h : OfI v y) : Ev (fun k => decimal_Right.f k y.f0 y.f1) true := by
  obtain ⟨j, e1, e2, e3, e4, e5⟩ := h
  simp only [decimal_Right.f, decimal_Norm.f]
  by_cases h0 : v = 0
  · obtain ⟨g1, g2⟩ := e4 h0
    simp only [if_pos g1]
    refine Ev.bind (Ev.const _) ?_
    rw [e1, g1, g2]
    exact Ev.const _
  · obtain ⟨g1, g2⟩ := e5 h0
    simp only [if_neg g1]
    refine Ev.bind (u := (y.f0, y.f1, true)) (Ev.succ ?_) ?_
    · simp only [decimal_Norm.l0, if_neg g2, if_neg (show ¬ y.f1 < -32768 by omega), if_neg (show ¬ y.f1 > 32767 by omega)]
      exact Ev.const _
    · simp only [if_true, BEq.rfl, Bool.and_self]
      exact Ev.const _
theorem whole_up {m : Int} {j : Nat} (hj : j ≤ 18) (h : In64 (m * 10 ^ j)) : ∀ d i, i ≤ j → j - i = d → Ev (fun k => decimal_Whole.l0 k (m * 10 ^ i) (j : Int) (i : Int)) (m * 10 ^ j, true) := by
  intro d
  induction d with
  | zero =>
    intro i h1 h2
    obtain rfl : i = j := by omega
    refine Ev.succ ?_
    simp only [decimal_Whole.l0, if_neg (Int.lt_irrefl _)]
    exact Ev.const _
  | succ d ih =>
    intro i h1 h2
    have e : m * 10 ^ i * 10 = m * 10 ^ (i + 1) := by rw [Int.pow_succ, Int.mul_assoc]
    have hb := In64.mul_down (show i + 1 ≤ j by omega) h
    have hc := In64.mul_down (show i ≤ j by omega) h
    obtain ⟨b1, b2⟩ := hb
    obtain ⟨c1, c2⟩ := hc
    have hw : wrap64 (m * 10 ^ (i + 1)) = m * 10 ^ (i + 1) := w64 b1 b2
    have ht : Int.tdiv (m * 10 ^ (i + 1)) 10 = m * 10 ^ i := by rw [← e]; exact Int.mul_tdiv_cancel _ (by decide)
    have hi : wrap64 ((i : Int) + 1) = ((i + 1 : Nat) : Int) := by rw [w64 (by omega) (by omega)]; omega
    refine Ev.succ ?_
    simp only [decimal_Whole.l0, if_pos (show (i : Int) < (j : Int) by omega), e, hw, ht, w64 c1 c2, if_true, hi]
    exact ih (i + 1) (by omega) (by omega)
theorem OfI.whole {v : Int} {y : S38} (h : OfI v y) (hv : In64 v) : Ev (fun k => decimal_Whole.f k y.f0 y.f1) (v, true) := by
  have hr := h.right
  obtain ⟨j, e1, e2, e3, e4, e5⟩ := h
  simp only [decimal_Whole.f]
  refine Ev.bind hr ?_
  simp only [if_true, if_neg (show ¬ y.f1 < 0 by omega), decide_eq_false (show ¬ y.f1 > 18 by omega)]
  refine Ev.succ ?_
  simp only [decimal_Whole.j0, Bool.false_eq_true, if_false]
  have := whole_up e2 (m := y.f0) (by rw [e3]; exact hv) j 0 (by omega) (by omega)
  rw [Int.pow_zero, Int.mul_one, e3] at this
  rw [e1]
  exact this
theorem In64.wrap (x : Int) : In64 (wrap64 x) := by unfold In64 wrap64; omega
theorem whole_some : ∀ (d : Nat) (n : Int) (j i : Nat), j ≤ 18 → i ≤ j → j - i = d → In64 n → ∃ v, Ev (fun k => decimal_Whole.l0 k n (j : Int) (i : Int)) v ∧ In64 v.1 := by
  intro d
  induction d with
  | zero =>
    intro n j i h0 h1 h2 hn
    obtain rfl : i = j := by omega
    refine ⟨(n, true), Ev.succ ?_, hn⟩
    simp only [decimal_Whole.l0, if_neg (Int.lt_irrefl _)]
    exact Ev.const _
  | succ d ih =>
    intro n j i h0 h1 h2 hn
    have hi : wrap64 ((i : Int) + 1) = ((i + 1 : Nat) : Int) := by rw [w64 (by omega) (by omega)]; omega
    by_cases g : wrap64 (Int.tdiv (wrap64 (n * 10)) 10) = n
    · obtain ⟨v, q1, q2⟩ := ih (wrap64 (n * 10)) j (i + 1) h0 (by omega) (by omega) (In64.wrap _)
      refine ⟨v, Ev.succ ?_, q2⟩
      simp only [decimal_Whole.l0, if_pos (show (i : Int) < (j : Int) by omega), if_pos g, hi]
      exact q1
    · refine ⟨(0, false), Ev.succ ?_, by unfold In64; omega⟩
      simp only [decimal_Whole.l0, if_pos (show (i : Int) < (j : Int) by omega), if_neg g]
      exact Ev.const _
theorem wh_total (y : S38) (h : OkE y) : ∃ v, Ev (fun k => decimal_Whole.f k y.f0 y.f1) v ∧ In64 v.1 := by
  have hr := dr_ev y h.d
  have hno : Ev (fun k => decimal_Whole.j0 k true y.f0 y.f1) (0, false) := Ev.succ (by simp only [decimal_Whole.j0, if_true]; exact Ev.const _)
  have h0 : In64 0 := by unfold In64; omega
  cases g : dr y with
  | false =>
    rw [g] at hr
    refine ⟨(0, false), ?_, h0⟩
    simp only [decimal_Whole.f]
    refine Ev.bind hr ?_
    simp only [Bool.false_eq_true, if_false]; exact hno
  | true =>
    rw [g] at hr
    by_cases c1 : y.f1 < 0
    · refine ⟨(0, false), ?_, h0⟩
      simp only [decimal_Whole.f]
      refine Ev.bind hr ?_
      simp only [if_true, if_pos c1]; exact hno
    · by_cases c2 : y.f1 > 18
      · refine ⟨(0, false), ?_, h0⟩
        simp only [decimal_Whole.f]
        refine Ev.bind hr ?_
        simp only [if_true, if_neg c1, decide_eq_true c2]; exact hno
      · obtain ⟨j, hj⟩ : ∃ j : Nat, y.f1 = (j : Int) := ⟨y.f1.toNat, by omega⟩
        obtain ⟨v, q1, q2⟩ := whole_some j y.f0 j 0 (by omega) (by omega) (by omega) h.1
        refine ⟨v, ?_, q2⟩
        simp only [decimal_Whole.f]
        refine Ev.bind hr ?_
        simp only [if_true, if_neg c1, decide_eq_false c2]
        refine Ev.succ ?_
        simp only [decimal_Whole.j0, Bool.false_eq_true, if_false]
        rw [hj]
        exact q1
noncomputable def wh (y : S38) : Int × Bool := open Classical in if h : ∃ v, Ev (fun k => decimal_Whole.f k y.f0 y.f1) v ∧ In64 v.1 then h.choose else (0, false)
theorem wh_ev (y : S38) (h : OkE y) : Ev (fun k => decimal_Whole.f k y.f0 y.f1) (wh y) ∧ In64 (wh y).1 := by
  have e := wh_total y h
  unfold wh
  rw [dif_pos e]
  exact e.choose_spec
theorem wh_of {v : Int} {y : S38} (h : OfI v y) (hv : In64 v) : wh y = (v, true) := Ev.uniq (wh_ev y (h.ok hv)).1 (h.whole hv)
theorem dr_of {v : Int} {y : S38} (h : OfI v y) (hv : In64 v) : dr y = true := Ev.uniq (dr_ev y (h.ok hv).d) h.right
theorem whole_loop (l : List S38) (ok : ∀ y ∈ l, OkE y) (hl : l.length ≤ 1000000) : ∀ d i (acc : List Int), i ≤ l.length → l.length - i = d → acc.length = i →
    Ev (fun k => tight_whole.l0 k acc l (l.length : Int) (i : Int)) (if (l.drop i).all (fun y => (wh y).2) = true then (acc ++ (l.drop i).map (fun y => (wh y).1), true) else ([], false)) := by
  intro d
  induction d with
  | zero =>
    intro i acc h1 h2 h3
    rw [List.drop_eq_nil_of_le (by omega)]
    refine Ev.succ ?_
    simp only [tight_whole.l0, if_neg (show ¬ ((i : Int) < (l.length : Int)) by omega), List.all_nil, if_true, List.map_nil, List.append_nil]
    exact Ev.const _
  | succ d ih =>
    intro i acc h1 h2 h3
    have hi : i < l.length := by omega
    have hw := wh_ev l[i] (ok _ (List.getElem_mem _))
    have hv := ih (i + 1) (acc ++ [(wh l[i]).1]) (by omega) (by omega) (by rw [List.length_append, List.length_singleton, h3])
    rw [List.drop_eq_getElem_cons hi, List.all_cons, List.map_cons]
    rw [List.append_assoc, List.singleton_append] at hv
    refine Ev.succ ?_
    simp only [tight_whole.l0, if_pos (show ((i : Int) < (l.length : Int)) by omega), if_pos (show (0 : Int) ≤ (i : Int) by omega), rdD_at l i hi, ix hi (show l.length ≤ 1099511627776 by omega)]
    refine Ev.bind hw.1 ?_
    cases g : (wh l[i]).2 with
    | false => simp only [Bool.false_eq_true, if_false, Bool.false_and]; exact Ev.const _
    | true =>
      simp only [if_true, Bool.true_and, if_pos (show acc.length < 17592186044416 by omega)]
      exact hv
theorem whole_ev (l : List S38) (ok : ∀ y ∈ l, OkE y) (hl : l.length ≤ 1000000) : Ev (fun k => tight_whole.f k l) (if l.all (fun y => (wh y).2) = true then (l.map (fun y => (wh y).1), true) else ([], false)) := by
  have := whole_loop l ok hl l.length 0 [] (by omega) (by omega) rfl
  rw [List.drop_zero, List.nil_append] at this
  simp only [tight_whole.f]
  exact this
theorem wrong_loop (l : List S38) (ok : ∀ y ∈ l, OkE y) (hl : l.length ≤ 1000000) : ∀ d i, i ≤ l.length → l.length - i = d → ∃ r : Int, Ev (fun k => api_Dec_57.l0 k l (l.length : Int) (i : Int)) r ∧ decide (r ≥ 0) = !(l.drop i).all dr := by
  intro d
  induction d with
  | zero =>
    intro i h1 h2
    rw [List.drop_eq_nil_of_le (by omega)]
    refine ⟨-1, Ev.succ ?_, rfl⟩
    simp only [api_Dec_57.l0, if_neg (show ¬ ((i : Int) < (l.length : Int)) by omega)]
    exact Ev.const _
  | succ d ih =>
    intro i h1 h2
    have hi : i < l.length := by omega
    have hd := dr_ev l[i] (ok _ (List.getElem_mem _)).d
    obtain ⟨r, q1, q2⟩ := ih (i + 1) (by omega) (by omega)
    rw [List.drop_eq_getElem_cons hi, List.all_cons]
    cases g : dr l[i] with
    | false =>
      rw [g] at hd
      refine ⟨(i : Int), Ev.succ ?_, by rw [Bool.false_and]; exact decide_eq_true (by omega)⟩
      simp only [api_Dec_57.l0, if_pos (show ((i : Int) < (l.length : Int)) by omega), if_pos (show (0 : Int) ≤ (i : Int) by omega), rdD_at l i hi, tight_Numbers_1.f]
      exact Ev.bind (u := true) (Ev.bind hd (Ev.const _)) (Ev.const _)
    | true =>
      rw [g] at hd
      refine ⟨r, Ev.succ ?_, by rw [Bool.true_and]; exact q2⟩
      simp only [api_Dec_57.l0, if_pos (show ((i : Int) < (l.length : Int)) by omega), if_pos (show (0 : Int) ≤ (i : Int) by omega), rdD_at l i hi, tight_Numbers_1.f, ix hi (show l.length ≤ 1099511627776 by omega)]
      exact Ev.bind (u := false) (Ev.bind hd (Ev.const _)) q1
theorem wrong_ev (l : List S38) (ok : ∀ y ∈ l, OkE y) (hl : l.length ≤ 1000000) : Ev (fun k => api_Dec_33.f k l) (!l.all dr) := by
  obtain ⟨r, q1, q2⟩ := wrong_loop l ok hl l.length 0 (by omega) (by omega)
  rw [List.drop_zero] at q2
  simp only [api_Dec_33.f, api_Dec_57.f]
  refine Ev.bind q1 ?_
  rw [q2]
  exact Ev.const _
def bit (v : Int) : Bool := v == 0 || v == 1
theorem great_loop (l : List Int) (ok : ∀ v ∈ l, In64 v) (hl : l.length ≤ 1000000) : ∀ d i, i ≤ l.length → l.length - i = d → ∃ r : Int, Ev (fun k => slices_IndexFunc_int_int_great.l0 k l (l.length : Int) (i : Int)) r ∧ decide (r ≥ 0) = !(l.drop i).all bit := by
  intro d
  induction d with
  | zero =>
    intro i h1 h2
    rw [List.drop_eq_nil_of_le (by omega)]
    refine ⟨-1, Ev.succ ?_, rfl⟩
    simp only [slices_IndexFunc_int_int_great.l0, if_neg (show ¬ ((i : Int) < (l.length : Int)) by omega)]
    exact Ev.const _
  | succ d ih =>
    intro i h1 h2
    have hi : i < l.length := by omega
    have hb : tight_Numbers_2.f l[i] = some (!bit l[i]) := by
      unfold tight_Numbers_2.f bit
      rw [← andNot1 l[i] (ok _ (List.getElem_mem _))]; rfl
    obtain ⟨r, q1, q2⟩ := ih (i + 1) (by omega) (by omega)
    rw [List.drop_eq_getElem_cons hi, List.all_cons]
    cases g : bit l[i] with
    | false =>
      rw [g] at hb
      refine ⟨(i : Int), Ev.succ ?_, by rw [Bool.false_and]; exact decide_eq_true (by omega)⟩
      simp only [slices_IndexFunc_int_int_great.l0, if_pos (show ((i : Int) < (l.length : Int)) by omega), if_pos (show (0 : Int) ≤ (i : Int) by omega), rd_at l i hi, hb]
      exact Ev.bind (u := true) (Ev.const _) (Ev.const _)
    | true =>
      rw [g] at hb
      refine ⟨r, Ev.succ ?_, by rw [Bool.true_and]; exact q2⟩
      simp only [slices_IndexFunc_int_int_great.l0, if_pos (show ((i : Int) < (l.length : Int)) by omega), if_pos (show (0 : Int) ≤ (i : Int) by omega), rd_at l i hi, hb, ix hi (show l.length ≤ 1099511627776 by omega)]
      exact Ev.bind (u := false) (Ev.const _) q1
theorem great_ev (l : List Int) (ok : ∀ v ∈ l, In64 v) (hl : l.length ≤ 1000000) : Ev (fun k => slices_ContainsFunc_int_int_great.f k l) (!l.all bit) := by
  obtain ⟨r, q1, q2⟩ := great_loop l ok hl l.length 0 (by omega) (by omega)
  rw [List.drop_zero] at q2
  simp only [slices_ContainsFunc_int_int_great.f, slices_IndexFunc_int_int_great.f]
  refine Ev.bind q1 ?_
  rw [q2]
  exact Ev.const _
noncomputable def nbS (s : List Int) (l : List S38) : Int × List Int × List Int × List S38 × Bool :=
  if (Sh.cnt s).2 = true ∧ (Sh.cnt s).1 = (l.length : Int) ∧ l.all dr = true then
    (if l.all (fun y => (wh y).2) = true then ((if 0 < l.length ∧ (l.map (fun y => (wh y).1)).all bit = true then 1 else 2), s, l.map (fun y => (wh y).1), [], true) else (4, s, [], l, true))
  else (0, [], [], [], false)
theorem numbers_ev (s : List Int) (l : List S38) (ok : ∀ y ∈ l, OkE y) (hs : s.length ≤ 1000000) (hl : l.length ≤ 1000000) : Ev (fun k => tight_Numbers.f k s l) (nbS s l) := by
  have hc := cnt_ev s
  have hno : Ev (fun k => tight_Numbers.j0 k s l true) (0, [], [], [], false) := Ev.succ (by simp only [tight_Numbers.j0, if_true]; exact Ev.const _)
  unfold nbS
  revert hc
  generalize Sh.cnt s = c
  intro hc
  simp only [tight_Numbers.f]
  refine Ev.bind hc ?_
  by_cases g1 : c.2 = true
  · by_cases g2 : c.1 = (l.length : Int)
    · simp only [if_pos g1, if_pos g2]
      refine Ev.bind (wrong_ev l ok hl) ?_
      cases g3 : l.all dr with
      | false =>
        rw [if_neg (by simp)]
        exact hno
      | true =>
        rw [if_pos ⟨g1, g2, rfl⟩]
        refine Ev.succ ?_
        simp only [tight_Numbers.j0, Bool.not_true, Bool.false_eq_true, if_false, slices_Clone_int_int.f, Option.bind_some, List.length_nil, Nat.zero_add, List.nil_append, if_pos (show s.length < 17592186044416 by omega)]
        refine Ev.bind (whole_ev l ok hl) ?_
        cases g4 : l.all (fun y => (wh y).2) with
        | false =>
          simp only [Bool.false_eq_true, if_false, api_Dec_37.f, Option.bind_some, List.length_nil, Nat.zero_add, List.nil_append, if_pos (show l.length < 8796093022208 by omega)]
          exact Ev.const _
        | true =>
          simp only [if_true]
          by_cases g5 : (l.length : Int) > 0
          · simp only [if_pos g5]
            have hb := great_ev (l.map (fun y => (wh y).1)) (fun v hv => by obtain ⟨y, hy, rfl⟩ := List.mem_map.1 hv; exact (wh_ev y (ok y hy)).2) (by rw [List.length_map]; exact hl)
            by_cases g6 : (l.map (fun y => (wh y).1)).all bit = true
            · rw [g6] at hb
              refine Ev.bind hb ?_
              rw [if_pos (show 0 < l.length ∧ (l.map (fun y => (wh y).1)).all bit = true from ⟨by omega, g6⟩)]
              simp only [Bool.not_true, Bool.false_eq_true, if_false]; exact Ev.const _
            · rw [Bool.eq_false_iff.mpr g6] at hb
              refine Ev.bind hb ?_
              rw [if_neg (show ¬ (0 < l.length ∧ (l.map (fun y => (wh y).1)).all bit = true) from fun h => g6 h.2)]
              simp only [Bool.not_false, if_true]; exact Ev.const _
          · simp only [if_neg g5]
            rw [if_neg (fun h => g5 (by omega))]
            exact Ev.const _
    · rw [if_neg (fun h => g2 h.2.1)]
      simp only [if_pos g1, if_neg g2]; exact hno
  · rw [if_neg (fun h => g1 h.1)]
    simp only [if_neg g1]; exact hno
theorem nums_loop (l : List Int) (ok : ∀ v ∈ l, In64 v) (hl : l.length ≤ 1000000) : ∀ d i (acc : List S38), i ≤ l.length → l.length - i = d → acc.length = i →
    Ev (fun k => tight_numbers.l0 k acc l (l.length : Int) (i : Int)) (acc ++ (l.drop i).map ofD) := by
  intro d
  induction d with
  | zero =>
    intro i acc h1 h2 h3
    rw [List.drop_eq_nil_of_le (by omega)]
    refine Ev.succ ?_
    simp only [tight_numbers.l0, if_neg (show ¬ ((i : Int) < (l.length : Int)) by omega), List.map_nil, List.append_nil]
    exact Ev.const _
  | succ d ih =>
    intro i acc h1 h2 h3
    have hi : i < l.length := by omega
    have hw := ofD_ev l[i] (ok _ (List.getElem_mem _))
    have hv := ih (i + 1) (acc ++ [ofD l[i]]) (by omega) (by omega) (by rw [List.length_append, List.length_singleton, h3])
    rw [List.drop_eq_getElem_cons hi, List.map_cons]
    rw [List.append_assoc, List.singleton_append] at hv
    refine Ev.succ ?_
    simp only [tight_numbers.l0, if_pos (show ((i : Int) < (l.length : Int)) by omega), if_pos (show (0 : Int) ≤ (i : Int) by omega), rd_at l i hi, ix hi (show l.length ≤ 1099511627776 by omega)]
    refine Ev.bind hw.1 ?_
    simp only [if_pos (show acc.length < 8796093022208 by omega)]
    exact hv
noncomputable def numS (n : S30) : List S38 := if n.f0 = 4 then n.f3 else n.f2.map ofD
theorem nums_ev (n : S30) (ok : ∀ v ∈ n.f2, In64 v) (hl : n.f2.length ≤ 1000000) : Ev (fun k => tight_numbers.f k n.f0 n.f1 n.f2 n.f3) (numS n) := by
  unfold numS
  by_cases g : n.f0 = 4
  · simp only [tight_numbers.f, if_pos g]; exact Ev.const _
  · have := nums_loop n.f2 ok hl n.f2.length 0 [] (by omega) (by omega) rfl
    rw [List.drop_zero, List.nil_append] at this
    simp only [tight_numbers.f, if_neg g]
    exact this
theorem form_one (n : S30) (h3 : n.f0 ≠ 3) (h5 : n.f0 ≠ 5) (o2 : ∀ v ∈ n.f2, In64 v) (o3 : ∀ y ∈ n.f3, OkE y) (l1 : n.f1.length ≤ 1000) (l2 : n.f2.length ≤ 1000) (l3 : n.f3.length ≤ 1000) :
    Ev (fun k => tight_form.f k [n]) [⟨(nbS n.f1 (numS n)).1, (nbS n.f1 (numS n)).2.1, (nbS n.f1 (numS n)).2.2.1, (nbS n.f1 (numS n)).2.2.2.1⟩] := by
  have hok : ∀ y ∈ numS n, OkE y := by
    unfold numS
    by_cases g : n.f0 = 4
    · rw [if_pos g]; exact o3
    · rw [if_neg g]
      intro y hy
      obtain ⟨v, hv, rfl⟩ := List.mem_map.1 hy
      exact (ofD_ev v (o2 v hv)).2.ok (o2 v hv)
  have hlen : (numS n).length ≤ 1000 := by
    unfold numS
    by_cases g : n.f0 = 4
    · rw [if_pos g]; exact l3
    · rw [if_neg g, List.length_map]; exact l2
  refine Ev.succ ?_
  simp only [tight_form.f, List.length_singleton, if_pos (show (0 : Int) < ((1 : Nat) : Int) by decide), show rd_T30 [n] 0 = n from rfl, if_neg h3, if_neg h5]
  refine Ev.bind (nums_ev n o2 (by omega)) ?_
  exact Ev.bind (numbers_ev n.f1 (numS n) hok (by omega) (by omega)) (Ev.const _)
theorem right_one (n : S30) (h5 : n.f0 ≠ 5) (hi : 0 ≤ itm n) : rt [n] = true := by
  have hb := itm_le n
  have hnf : ¬ (itm n < 0 ∨ wrap64 (0 + itm n) > 1048576 ∨ 16 ≤ ([] : List Int).length) := by
    rw [Int.zero_add, w64 (by omega) (by omega)]
    simp only [List.length_nil]
    omega
  have hp : push [] n = [] := by unfold push; rw [if_neg h5]; rfl
  unfold rt tk
  simp only [List.length_singleton, if_pos (show ((1 : Nat) : Int) > 0 by decide), walkS, if_neg hnf, hp, clr_nil, if_true]
  rfl
theorem make_one (n m : S30) (h5 : n.f0 ≠ 5) (hi : 0 ≤ itm n) (ok : Ok n) (hf : Ev (fun k => tight_form.f k [n]) [m]) : Ev (fun k => tight_Make.f k [n]) ([m], true) := by
  have hr := right_ev [n] (fun y hy => by rw [List.mem_singleton.1 hy]; exact ok) (by simp)
  rw [right_one n h5 hi] at hr
  simp only [tight_Make.f]
  refine Ev.bind hr ?_
  simp only [if_true]
  exact Ev.bind hf (Ev.const _)
theorem rightT_one (n : S30) (h5 : n.f0 ≠ 5) (hi : 0 ≤ itm n) (ok : Ok n) (hF : Fit2 n) (hf : Ev (fun k => tight_form.f k [n]) [n]) : Ev (fun k => tight_Right.f k [n]) true := by
  simp only [tight_Right.f]
  refine Ev.bind (make_one n n h5 hi ok hf) ?_
  simp only [if_true]
  have := same_q [n] [n] (by simp) (fun y hy => by rw [List.mem_singleton.1 hy]; exact hF)
  rw [q_t rfl] at this
  exact Ev.bind this (Ev.const _)
theorem ok_of_wf {a : Int} (h : (Lit.int .i64 a).wf = true) : -9223372036854775808 ≤ a ∧ a ≤ 9223372036854775807 := by
  have e0 : IntKind.i64.min = -9223372036854775808 := by decide
  have e1 : IntKind.i64.max = 9223372036854775807 := by decide
  simp only [Lit.wf, Bool.and_eq_true, decide_eq_true_eq, e0, e1] at h
  exact h
theorem small_ev : Ev (fun k => decklelaw11_small.f k) true :=
  ⟨200, fun k hk => at_rounds (g := fun k => decklelaw11_small.f k) (fun k => decklelaw11_small.mono k) hk (by decide +kernel)⟩
theorem cnt_one (m : Nat) (h : m ≤ 1000) : Sh.cnt [(m : Int)] = ((m : Int), true) := by
  unfold Sh.cnt Sh.cnt2
  have hb : [(m : Int)].any Sh.bad = false := by
    simp only [List.any_cons, List.any_nil, Bool.or_false, Sh.bad]
    exact decide_eq_false (by omega)
  rw [hb]
  simp only [List.length_singleton, if_neg (show ¬ 1 > 16 by decide), Bool.false_eq_true, if_false, Sh.P, Int.mul_one, if_pos (show (m : Int) ≤ 1048576 by omega)]
  by_cases g : m = 0
  · rw [g]; rfl
  · rw [if_neg]
    simp only [List.any_cons, List.any_nil, Bool.or_false, Sh.isz]
    intro e
    have := of_decide_eq_true e
    omega
theorem cnt_two (m : Nat) (h : m ≤ 1000) : Sh.cnt [1, ((m + 1 : Nat) : Int)] = (((m + 1 : Nat) : Int), true) := by
  unfold Sh.cnt Sh.cnt2
  have hb : [1, ((m + 1 : Nat) : Int)].any Sh.bad = false := by
    simp only [List.any_cons, List.any_nil, Bool.or_false, Sh.bad]
    rw [decide_eq_false (by omega), decide_eq_false (by omega)]; rfl
  have hz : [1, ((m + 1 : Nat) : Int)].any Sh.isz = false := by
    simp only [List.any_cons, List.any_nil, Bool.or_false, Sh.isz]
    rw [decide_eq_false (by omega), decide_eq_false (by omega)]; rfl
  rw [hb, hz]
  simp only [List.length_cons, List.length_nil, if_neg (show ¬ 0 + 1 + 1 > 16 by decide), Bool.false_eq_true, if_false, Sh.P, Int.mul_one, Int.one_mul, if_pos (show ((m + 1 : Nat) : Int) ≤ 1048576 by omega)]
noncomputable def nI (l : List Int) : S30 := ⟨if 0 < l.length ∧ l.all bit = true then 1 else 2, [(l.length : Int)], l, []⟩
def hd : S38 := ⟨5, -1⟩
noncomputable def nH (l : List Int) : S30 := ⟨4, [1, ((l.length + 1 : Nat) : Int)], [], l.map ofD ++ [hd]⟩
theorem hd_ok : OkE hd := ⟨by show In64 5; unfold In64; omega, by show In64 (-1); unfold In64; omega⟩
theorem hd_right : Ev (fun k => decimal_Right.f k hd.f0 hd.f1) true := by
  simp only [decimal_Right.f, decimal_Norm.f, hd, if_neg (show ¬ (5 : Int) = 0 by decide)]
  refine Ev.bind (u := (5, -1, true)) (Ev.succ ?_) (by simp only [if_true, BEq.rfl, Bool.and_self]; exact Ev.const _)
  simp only [decimal_Norm.l0, if_neg (show ¬ Int.tmod 5 10 = 0 by decide), if_neg (show ¬ (-1 : Int) < -32768 by decide), if_neg (show ¬ (-1 : Int) > 32767 by decide)]
  exact Ev.const _
theorem hd_dr : dr hd = true := Ev.uniq (dr_ev hd hd_ok.d) hd_right
theorem hd_wh : (wh hd).2 = false := by
  have h : Ev (fun k => decimal_Whole.f k hd.f0 hd.f1) (0, false) := by
    simp only [decimal_Whole.f]
    refine Ev.bind hd_right ?_
    simp only [if_true, if_pos (show hd.f1 < 0 by decide)]
    exact Ev.succ (by simp only [decimal_Whole.j0, if_true]; exact Ev.const _)
  rw [Ev.uniq (wh_ev hd hd_ok).1 h]
theorem all_map {α β : Type} (f : α → β) (p : β → Bool) (l : List α) (h : ∀ x ∈ l, p (f x) = true) : (l.map f).all p = true := by
  rw [List.all_eq_true]
  intro y hy
  obtain ⟨x, hx, rfl⟩ := List.mem_map.1 hy
  exact h x hx
theorem wh_map (l : List Int) (hr : ∀ v ∈ l, In64 v) : (l.map ofD).map (fun y => (wh y).1) = l := by
  rw [List.map_map]
  conv => rhs; rw [← List.map_id l]
  refine List.map_congr_left fun v hv => ?_
  show (wh (ofD v)).1 = v
  rw [wh_of (ofD_ev v (hr v hv)).2 (hr v hv)]
theorem nb_ints (l : List Int) (hl : l.length ≤ 1000) (hr : ∀ v ∈ l, In64 v) : nbS [(l.length : Int)] (l.map ofD) = ((nI l).f0, [(l.length : Int)], l, [], true) := by
  have hd1 : (l.map ofD).all dr = true := all_map _ _ _ fun v hv => dr_of (ofD_ev v (hr v hv)).2 (hr v hv)
  have hw1 : (l.map ofD).all (fun y => (wh y).2) = true := all_map _ _ _ fun v hv => by rw [wh_of (ofD_ev v (hr v hv)).2 (hr v hv)]
  unfold nbS
  rw [cnt_one l.length hl, if_pos ⟨rfl, by rw [List.length_map], hd1⟩, if_pos hw1, wh_map l hr, List.length_map]
  rfl
theorem nb_half (l : List Int) (hl : l.length ≤ 1000) (hr : ∀ v ∈ l, In64 v) : nbS [1, ((l.length + 1 : Nat) : Int)] (l.map ofD ++ [hd]) = (4, [1, ((l.length + 1 : Nat) : Int)], [], l.map ofD ++ [hd], true) := by
  have hd1 : (l.map ofD ++ [hd]).all dr = true := by
    rw [List.all_append, all_map _ _ _ fun v hv => dr_of (ofD_ev v (hr v hv)).2 (hr v hv)]
    simp only [List.all_cons, List.all_nil, hd_dr, Bool.and_self]
  have hw1 : (l.map ofD ++ [hd]).all (fun y => (wh y).2) = false := by
    rw [List.all_append]
    simp only [List.all_cons, List.all_nil, hd_wh, Bool.false_and, Bool.and_false]
  unfold nbS
  rw [cnt_two l.length hl, if_pos ⟨rfl, by rw [List.length_append, List.length_map, List.length_singleton], hd1⟩, if_neg (by rw [hw1]; simp)]
theorem ofs_ok (l : List Int) (hr : ∀ v ∈ l, In64 v) : ∀ y ∈ l.map ofD, OkE y := fun y hy => by
  obtain ⟨v, hv, rfl⟩ := List.mem_map.1 hy
  exact (ofD_ev v (hr v hv)).2.ok (hr v hv)
theorem half_ok (l : List Int) (hr : ∀ v ∈ l, In64 v) : ∀ y ∈ l.map ofD ++ [hd], OkE y := fun y hy => (List.mem_append.1 hy).elim (ofs_ok l hr y) (fun h => by rw [List.mem_singleton.1 h]; exact hd_ok)
theorem kind_I (l : List Int) : (nI l).f0 = 1 ∨ (nI l).f0 = 2 := by
  unfold nI
  by_cases g : 0 < l.length ∧ l.all bit = true
  · exact .inl (if_pos g)
  · exact .inr (if_neg g)
theorem nI_ok (l : List Int) (hl : l.length ≤ 200) (hr : ∀ v ∈ l, In64 v) : Ok2 (nI l) := ⟨fun y hy => by simp [nI] at hy, hr, by show l.length ≤ 300; omega, by show 0 ≤ 300; omega⟩
theorem itm_I (l : List Int) (hl : l.length ≤ 200) (hr : ∀ v ∈ l, In64 v) : itm (nI l) = (l.length : Int) := by
  rw [itm_val (nI l) (nI_ok l hl hr)]
  have hc : Sh.cnt (nI l).f1 = ((l.length : Int), true) := cnt_one l.length (by omega)
  rw [hc]
  have hg : gdK (nI l).f0 (l.length : Int) (nI l).f2 (nI l).f3 = true := by
    unfold gdK
    rw [if_pos (by rcases kind_I l with e | e <;> omega)]
    unfold gd
    have e2 : (nI l).f2 = l := rfl
    have e3 : (nI l).f3 = [] := rfl
    rw [e2, e3, if_pos rfl, if_pos (show ((([] : List S38).length : Nat) : Int) = 0 from rfl)]
    simp only [List.all_nil, Bool.and_true]
    rw [List.all_eq_true]
    intro v hv
    unfold nI
    by_cases g : 0 < l.length ∧ l.all bit = true
    · simp only [if_pos g]
      exact List.all_eq_true.1 g.2 v hv
    · simp only [if_neg g]
      rfl
  rw [if_pos rfl, if_pos hg]
theorem nH_ok (l : List Int) (hl : l.length ≤ 200) (hr : ∀ v ∈ l, In64 v) : Ok2 (nH l) := ⟨fun y hy => (half_ok l hr y hy).d, by simp [nH], by simp [nH], by show (l.map ofD ++ [hd]).length ≤ 300; rw [List.length_append, List.length_map, List.length_singleton]; omega⟩
theorem itm_H (l : List Int) (hl : l.length ≤ 200) (hr : ∀ v ∈ l, In64 v) : itm (nH l) = ((l.length + 1 : Nat) : Int) := by
  rw [itm_val (nH l) (nH_ok l hl hr)]
  have hc : Sh.cnt (nH l).f1 = (((l.length + 1 : Nat) : Int), true) := cnt_two l.length (by omega)
  rw [hc]
  have hg : gdK (nH l).f0 ((l.length + 1 : Nat) : Int) (nH l).f2 (nH l).f3 = true := by
    unfold gdK
    rw [if_neg (by show ¬ ((4 : Int) = 1 ∨ (4 : Int) = 2 ∨ (4 : Int) = 3); decide), if_pos (show (nH l).f0 = 4 from rfl)]
    unfold gd
    rw [if_pos (show (((nH l).f2.length : Nat) : Int) = 0 from rfl), if_pos (by show (((l.map ofD ++ [hd]).length : Nat) : Int) = _; rw [List.length_append, List.length_map, List.length_singleton])]
    show (([] : List Int).all _ && (l.map ofD ++ [hd]).all dr) = true
    rw [List.all_append, all_map _ _ _ fun v hv => dr_of (ofD_ev v (hr v hv)).2 (hr v hv)]
    simp only [List.all_cons, List.all_nil, hd_dr, Bool.and_self]
  rw [if_pos rfl, if_pos hg]
theorem right_I (l : List Int) (hl : l.length ≤ 200) (hr : ∀ v ∈ l, In64 v) : Ev (fun k => tight_Right.f k [nI l]) true := by
  have hk := kind_I l
  have hn : numS (nI l) = l.map ofD := by unfold numS; rw [if_neg (by rcases hk with e | e <;> omega)]; rfl
  have hf := form_one (nI l) (by rcases hk with e | e <;> omega) (by rcases hk with e | e <;> omega) hr (by simp [nI]) (by simp [nI]) (by show l.length ≤ 1000; omega) (by simp [nI])
  rw [hn] at hf
  have e1 : nbS (nI l).f1 (l.map ofD) = ((nI l).f0, [(l.length : Int)], l, [], true) := nb_ints l (by omega) hr
  rw [e1] at hf
  exact rightT_one (nI l) (by rcases hk with e | e <;> omega) (by rw [itm_I l hl hr]; omega) (nI_ok l hl hr).1 ⟨by simp [nI], by show l.length ≤ 1000; omega, by simp [nI]⟩ hf
theorem right_H (l : List Int) (hl : l.length ≤ 200) (hr : ∀ v ∈ l, In64 v) : Ev (fun k => tight_Right.f k [nH l]) true := by
  have hlen : (nH l).f3.length = l.length + 1 := by show (l.map ofD ++ [hd]).length = _; rw [List.length_append, List.length_map, List.length_singleton]
  have hn : numS (nH l) = l.map ofD ++ [hd] := by unfold numS; rw [if_pos (show (nH l).f0 = 4 from rfl)]; rfl
  have hf := form_one (nH l) (by show (4 : Int) ≠ 3; decide) (by show (4 : Int) ≠ 5; decide) (by simp [nH]) (half_ok l hr) (by simp [nH]) (by simp [nH]) (by rw [hlen]; omega)
  rw [hn] at hf
  have e1 : nbS (nH l).f1 (l.map ofD ++ [hd]) = (4, [1, ((l.length + 1 : Nat) : Int)], [], l.map ofD ++ [hd], true) := nb_half l (by omega) hr
  rw [e1] at hf
  exact rightT_one (nH l) (by show (4 : Int) ≠ 5; decide) (by rw [itm_H l hl hr]; omega) (nH_ok l hl hr).1 ⟨by simp [nH], by simp [nH], by rw [hlen]; omega⟩ hf
theorem tail_ev (l : List Int) (hl : l.length ≤ 200) (hr : ∀ v ∈ l, In64 v) : Ev (fun k => decklelaw11_TightNumbers.j1 k true (l.map ofD) true (nI l).f0 [(l.length : Int)] l [] (nI l).f0 [(l.length : Int)] l) true := by
  have e1 : (l.map ofD).length = l.length := List.length_map _
  have e2 : (l.map ofD ++ [hd]).length = l.length + 1 := by rw [List.length_append, e1, List.length_singleton]
  have o1 := one_ev (nI l) (nI l) ⟨by simp [nI], by show l.length ≤ 1000; omega, by simp [nI]⟩
  have o2 := one_ev (nH l) (nH l) ⟨by simp [nH], by simp [nH], by show (l.map ofD ++ [hd]).length ≤ 1000; omega⟩
  rw [q_t rfl] at o1 o2
  refine Ev.succ ?_
  simp only [decklelaw11_TightNumbers.j1, Option.bind_some, List.length_nil, Nat.zero_add, List.nil_append, e1, if_pos (show l.length < 8796093022208 by omega)]
  rw [show ([(⟨5, -1⟩ : S38)] : List S38) = [hd] from rfl]
  simp only [e2]
  refine Ev.bind (numbers_ev [1, ((l.length + 1 : Nat) : Int)] (l.map ofD ++ [hd]) (half_ok l hr) (by simp) (by omega)) ?_
  rw [nb_half l (by omega) hr]
  simp only [if_true]
  refine Ev.bind o1 ?_
  simp only [if_true]
  refine Ev.bind o2 ?_
  simp only [if_true]
  refine Ev.bind (right_I l hl hr) ?_
  simp only [if_true]
  exact Ev.bind (right_H l hl hr) (Ev.const _)
theorem numbers_loop (l : List Int) (hl : l.length ≤ 200) (hr : ∀ v ∈ l, In64 v) : ∀ d i, i ≤ l.length → l.length - i = d →
    Ev (fun k => decklelaw11_TightNumbers.l0 k l true ((l.take i).map ofD) (decide ((l.length : Int) > 0) && (l.take i).all bit) (i : Int)) true := by
  intro d
  induction d with
  | zero =>
    intro i h1 h2
    refine Ev.succ ?_
    simp only [decklelaw11_TightNumbers.l0, if_neg (show ¬ ((i : Int) < (l.length : Int)) by omega)]
    rw [List.take_of_length_le (show l.length ≤ i by omega)]
    refine Ev.bind (numbers_ev [(l.length : Int)] (l.map ofD) (ofs_ok l hr) (by simp) (by rw [List.length_map]; omega)) ?_
    rw [nb_ints l (by omega) hr]
    simp only [Option.bind_some]
    have ht := tail_ev l hl hr
    by_cases g : 0 < l.length ∧ l.all bit = true
    · have hk : (nI l).f0 = 1 := if_pos g
      rw [hk] at ht
      rw [hk, decide_eq_true (show (l.length : Int) > 0 by omega), g.2]
      exact ht
    · have hk : (nI l).f0 = 2 := if_neg g
      rw [hk] at ht
      have hb : (decide ((l.length : Int) > 0) && l.all bit) = false := by
        rw [Bool.and_eq_false_iff]
        by_cases c : 0 < l.length
        · right
          cases e : l.all bit with
          | false => rfl
          | true => exact absurd ⟨c, e⟩ g
        · left; exact decide_eq_false (by omega)
      rw [hk, hb]
      exact ht
  | succ d ih =>
    intro i h1 h2
    have hi : i < l.length := by omega
    have hw := ofD_ev l[i] (hr _ (List.getElem_mem _))
    have hv := ih (i + 1) (by omega) (by omega)
    have hlt : ((l.take i).map ofD).length = i := by rw [List.length_map, List.length_take]; omega
    rw [List.take_succ_eq_append_getElem hi, List.map_append, List.all_append] at hv
    simp only [List.map_cons, List.map_nil, List.all_cons, List.all_nil, Bool.and_true] at hv
    refine Ev.succ ?_
    simp only [decklelaw11_TightNumbers.l0, if_pos (show ((i : Int) < (l.length : Int)) by omega), if_pos (show (0 : Int) ≤ (i : Int) by omega), rd_at l i hi, ix hi (show l.length ≤ 1099511627776 by omega)]
    refine Ev.bind hw.1 ?_
    simp only [hlt, if_pos (show i < 8796093022208 by omega), Option.bind_some]
    rw [← Bool.and_assoc] at hv
    cases g : (decide ((l.length : Int) > 0) && (l.take i).all bit) with
    | false =>
      rw [g, Bool.false_and] at hv
      simp only [Bool.false_eq_true, if_false]
      exact hv
    | true =>
      rw [g, Bool.true_and] at hv
      simp only [if_true]
      by_cases z : l[i] = 0
      · rw [show bit l[i] = true by unfold bit; rw [z]; rfl] at hv
        simp only [if_pos z]
        exact hv
      · rw [show bit l[i] = (l[i] == 1) by unfold bit; rw [beq_eq_false_iff_ne.mpr z, Bool.false_or]] at hv
        simp only [if_neg z]
        exact hv
theorem TightNumbers : decklelaw11_TightNumbers.Pure := by
  intro l _ _ hw
  have hr : ∀ v ∈ l, In64 v := fun v hv => ok_of_wf (hw v hv)
  have main : Ev (fun k => decklelaw11_TightNumbers.f k l) true := by
    simp only [decklelaw11_TightNumbers.f]
    refine Ev.bind small_ev ?_
    by_cases g : (l.length : Int) > 200
    · simp only [if_pos g]; exact Ev.const _
    · simp only [if_neg g]
      have := numbers_loop l (by omega) hr l.length 0 (by omega) (by omega)
      simp only [List.take_zero, List.map_nil, List.all_nil, Bool.and_true] at this
      exact this
  exact main.get
end Go.Proofs.Ytecdklheppcihaa.Pure
