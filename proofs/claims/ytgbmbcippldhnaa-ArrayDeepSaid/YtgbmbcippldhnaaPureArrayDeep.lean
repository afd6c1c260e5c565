/- Arrays may be sixteen deep, and no deeper: an array is laid into others for as long as it may be: for all nodes. -/
import Derived.Test.YtgbmbcippldhnaaHArrayDeepx10
import Derived.KernelRfl
namespace Go.Proofs.Ytgbmbcippldhnaa.Pure
open Go.RowKit Go.Proofs.Ytgbmbcippldhnaa.HArrayDeep Go.Proofs.YtgbmbcippldhnaaW.PrintWords Go.Proofs.YtgbmbcippldhnaaW.PrintLast Go.Proofs.YtgbmbcippldhnaaW.PrintMore
set_option linter.unusedVariables false
set_option linter.unusedSimpArgs false

theorem w64 {n : Int} (h1 : -9223372036854775808 ≤ n) (h2 : n ≤ 9223372036854775807) : wrap64 n = n := by unfold wrap64; omega
theorem rd_at (b : List Int) (m : Nat) (h : m < b.length) : rd b (m : Int) = b[m] := by
  unfold rd
  rw [List.getD_eq_getElem?_getD, Int.toNat_natCast, List.getElem?_eq_getElem h]; rfl
theorem rdT_at (b : List S32) (m : Nat) (h : m < b.length) : rd_T32 b (m : Int) = b[m] := by
  unfold rd_T32
  rw [List.getD_eq_getElem?_getD, Int.toNat_natCast, List.getElem?_eq_getElem h]; rfl
/-- Told from some number of rounds on. -/
def Ev {α : Type} (g : Nat → Option α) (v : α) : Prop := ∃ k0, ∀ k, k0 ≤ k → g k = some v
theorem Ev.const {α : Type} (v : α) : Ev (fun _ => some v) v := ⟨0, fun _ _ => rfl⟩
theorem Ev.bind {α β : Type} {g : Nat → Option α} {F : Nat → α → Option β} {u : α} {v : β} (h : Ev g u) (h2 : Ev (fun k => F k u) v) : Ev (fun k => (g k).bind (F k)) v := by
  obtain ⟨a, ha⟩ := h
  obtain ⟨b, hb⟩ := h2
  exact ⟨a + b, fun k hk => by show (g k).bind (F k) = some v; rw [ha k (by omega), Option.bind_some]; exact hb k (by omega)⟩
theorem Ev.succ {α : Type} {g : Nat → Option α} {v : α} (h : Ev (fun k => g (k + 1)) v) : Ev g v := by
  obtain ⟨a, ha⟩ := h
  refine ⟨a + 1, fun k hk => ?_⟩
  obtain ⟨j, rfl⟩ : ∃ j, k = j + 1 := ⟨k - 1, by omega⟩
  exact ha j (by omega)
theorem Ev.uniq {α : Type} {g : Nat → Option α} {u v : α} (h : Ev g u) (h2 : Ev g v) : u = v := by
  obtain ⟨a, ha⟩ := h
  obtain ⟨b, hb⟩ := h2
  exact Option.some.inj ((ha (a + b) (by omega)).symm.trans (hb (a + b) (by omega)))
theorem Ev.get {α : Type} {g : Nat → Option α} {v : α} (h : Ev g v) : ∃ k, g k = some v := by
  obtain ⟨a, ha⟩ := h
  exact ⟨a, ha a (Nat.le_refl _)⟩
/-- What a loop over an index needs. -/
theorem ix {i n : Nat} (h : i < n) (hn : n ≤ 1099511627776) : wrap64 ((i : Int) + 1) = ((i + 1 : Nat) : Int) := by rw [w64 (by omega) (by omega)]; omega
theorem count1_some (a : Int) : ∃ t, shape_Count_1.f a = some t ∧ (t = false → 0 ≤ a ∧ a ≤ 1048576) := by
  unfold shape_Count_1.f
  by_cases h : a < 0
  · exact ⟨true, if_pos h, by simp⟩
  · refine ⟨decide (a > 1048576), if_neg h, fun e => ?_⟩
    have := of_decide_eq_false e
    omega
theorem index1_ev (l : List Int) (hl : l.length ≤ 1099511627776) : ∀ d i, i ≤ l.length → l.length - i = d → ∃ v, Ev (fun k => slices_IndexFunc_int_int.l0 k l (l.length : Int) (i : Int)) v := by
  intro d
  induction d with
  | zero =>
    intro i h1 h2
    refine ⟨-1, Ev.succ ?_⟩
    simp only [slices_IndexFunc_int_int.l0, if_neg (show ¬ ((i : Int) < (l.length : Int)) by omega)]
    exact Ev.const _
  | succ d ih =>
    intro i h1 h2
    have hi : i < l.length := by omega
    obtain ⟨t, ht, _⟩ := count1_some (rd l (i : Int))
    obtain ⟨v, hv⟩ := ih (i + 1) (by omega) (by omega)
    cases t with
    | true =>
      refine ⟨(i : Int), Ev.succ ?_⟩
      simp only [slices_IndexFunc_int_int.l0, if_pos (show ((i : Int) < (l.length : Int)) by omega), if_pos (show (0 : Int) ≤ (i : Int) by omega), ht]
      exact Ev.bind (Ev.const _) (Ev.const _)
    | false =>
      refine ⟨v, Ev.succ ?_⟩
      simp only [slices_IndexFunc_int_int.l0, if_pos (show ((i : Int) < (l.length : Int)) by omega), if_pos (show (0 : Int) ≤ (i : Int) by omega), ht, ix hi hl]
      exact Ev.bind (Ev.const _) hv
theorem index_ev (l : List Int) (a : Int) (hl : l.length ≤ 1099511627776) : ∀ d i, i ≤ l.length → l.length - i = d → ∃ v, Ev (fun k => slices_Index_int_int.l0 k l a (l.length : Int) (i : Int)) v := by
  intro d
  induction d with
  | zero =>
    intro i h1 h2
    refine ⟨-1, Ev.succ ?_⟩
    simp only [slices_Index_int_int.l0, if_neg (show ¬ ((i : Int) < (l.length : Int)) by omega)]
    exact Ev.const _
  | succ d ih =>
    intro i h1 h2
    have hi : i < l.length := by omega
    obtain ⟨v, hv⟩ := ih (i + 1) (by omega) (by omega)
    by_cases e : a = rd l (i : Int)
    · refine ⟨(i : Int), Ev.succ ?_⟩
      simp only [slices_Index_int_int.l0, if_pos (show ((i : Int) < (l.length : Int)) by omega), if_pos (show (0 : Int) ≤ (i : Int) by omega), if_pos e]
      exact Ev.const _
    · refine ⟨v, Ev.succ ?_⟩
      simp only [slices_Index_int_int.l0, if_pos (show ((i : Int) < (l.length : Int)) by omega), if_pos (show (0 : Int) ≤ (i : Int) by omega), if_neg e, ix hi hl]
      exact hv
theorem countl_ev (l : List Int) (hl : l.length ≤ 1099511627776) : ∀ d i x, i ≤ l.length → l.length - i = d → 0 ≤ x → x ≤ 1048576 → ∃ c b, Ev (fun k => shape_Count.l0 k x l (l.length : Int) (i : Int)) (c, b) ∧ 0 ≤ c ∧ c ≤ 1048576 := by
  intro d
  induction d with
  | zero =>
    intro i x h1 h2 hx0 hx1
    refine ⟨x, true, Ev.succ ?_, hx0, hx1⟩
    simp only [shape_Count.l0, if_neg (show ¬ ((i : Int) < (l.length : Int)) by omega)]
    exact Ev.const _
  | succ d ih =>
    intro i x h1 h2 hx0 hx1
    have hi : i < l.length := by omega
    obtain ⟨t, ht, hb⟩ := count1_some (wrap64 (x * rd l (i : Int)))
    cases t with
    | true =>
      refine ⟨0, false, Ev.succ ?_, by omega, by omega⟩
      simp only [shape_Count.l0, if_pos (show ((i : Int) < (l.length : Int)) by omega), if_pos (show (0 : Int) ≤ (i : Int) by omega), ht]
      exact Ev.bind (Ev.const _) (Ev.const _)
    | false =>
      obtain ⟨c, b, hv, h3⟩ := ih (i + 1) (wrap64 (x * rd l (i : Int))) (by omega) (by omega) (hb rfl).1 (hb rfl).2
      refine ⟨c, b, Ev.succ ?_, h3⟩
      simp only [shape_Count.l0, if_pos (show ((i : Int) < (l.length : Int)) by omega), if_pos (show (0 : Int) ≤ (i : Int) by omega), ht, ix hi hl]
      exact Ev.bind (Ev.const _) hv
theorem count_ev (l : List Int) : ∃ c b, Ev (fun k => shape_Count.f k l) (c, b) ∧ 0 ≤ c ∧ c ≤ 1048576 := by
  by_cases h : (l.length : Int) > 16
  · refine ⟨0, false, ?_, by omega, by omega⟩
    simp only [shape_Count.f, if_pos h]
    refine Ev.succ ?_
    simp only [shape_Count.j0]
    exact Ev.const _
  · have hl : l.length ≤ 1099511627776 := by omega
    obtain ⟨v1, e1⟩ := index1_ev l hl l.length 0 (by omega) (by omega)
    obtain ⟨v2, e2⟩ := index_ev l 0 hl l.length 0 (by omega) (by omega)
    obtain ⟨c, b, e3, hc⟩ := countl_ev l hl l.length 0 1 (by omega) (by omega) (by omega) (by omega)
    simp only [shape_Count.f, if_neg h, slices_ContainsFunc_int_int.f, slices_IndexFunc_int_int.f]
    have hf : ∀ t, ∃ c b, Ev (fun k => shape_Count.j0 k l t) (c, b) ∧ 0 ≤ c ∧ c ≤ 1048576 := by
      intro t
      cases t with
      | true =>
        refine ⟨0, false, Ev.succ ?_, by omega, by omega⟩
        simp only [shape_Count.j0]
        exact Ev.const _
      | false =>
        cases hd : decide (v2 ≥ 0) with
        | true =>
          refine ⟨0, true, Ev.succ ?_, by omega, by omega⟩
          simp only [shape_Count.j0, slices_Contains_int_int.f, slices_Index_int_int.f]
          refine Ev.bind (u := true) (Ev.bind e2 (by simp only [hd]; exact Ev.const _)) (Ev.const _)
        | false =>
          refine ⟨c, b, Ev.succ ?_, hc⟩
          simp only [shape_Count.j0, slices_Contains_int_int.f, slices_Index_int_int.f]
          exact Ev.bind (u := false) (Ev.bind e2 (by simp only [hd]; exact Ev.const _)) e3
    obtain ⟨c', b', e4, hc'⟩ := hf (decide (v1 ≥ 0))
    exact ⟨c', b', Ev.bind (Ev.bind e1 (Ev.const _)) e4, hc'⟩
theorem valid_ev (a : Int) : ∃ v, Ev (fun k => utf8_ValidRune.f k a) v := by
  have hj : ∀ t, ∃ v, Ev (fun k => utf8_ValidRune.j0 k a t) v := by
    intro t
    cases t with
    | true => exact ⟨true, Ev.succ (by simp only [utf8_ValidRune.j0]; exact Ev.const _)⟩
    | false =>
      by_cases h1 : 57343 < a
      · by_cases h2 : a ≤ 1114111
        · exact ⟨true, Ev.succ (by simp only [utf8_ValidRune.j0, if_pos h1, if_pos h2]; exact Ev.const _)⟩
        · exact ⟨false, Ev.succ (by simp only [utf8_ValidRune.j0, if_pos h1, if_neg h2]; exact Ev.const _)⟩
      · exact ⟨false, Ev.succ (by simp only [utf8_ValidRune.j0, if_neg h1]; exact Ev.const _)⟩
  by_cases h : 0 ≤ a
  · simp only [utf8_ValidRune.f, if_pos h]; exact hj _
  · simp only [utf8_ValidRune.f, if_neg h]; exact hj _
theorem fits_ev (a b : Int) : ∃ v, Ev (fun k => array_fits.f k a b) v := by
  by_cases h1 : a = 1
  · simp only [array_fits.f, if_pos h1]; exact ⟨_, Ev.const _⟩
  · by_cases h2 : a = 2
    · simp only [array_fits.f, if_neg h1, if_pos h2]; exact ⟨_, Ev.const _⟩
    · by_cases h3 : a = 3
      · by_cases h4 : b = wrap64 (wrap32 b)
        · obtain ⟨v, hv⟩ := valid_ev (wrap32 b)
          refine ⟨v, ?_⟩
          simp only [array_fits.f, if_neg h1, if_neg h2, if_pos h3, if_pos h4]
          exact Ev.bind hv (Ev.const _)
        · simp only [array_fits.f, if_neg h1, if_neg h2, if_pos h3, if_neg h4]; exact ⟨_, Ev.const _⟩
      · simp only [array_fits.f, if_neg h1, if_neg h2, if_neg h3]; exact ⟨_, Ev.const _⟩
theorem wrongs_ev (l : List Int) (a : Int) (hl : l.length ≤ 1099511627776) : ∀ d i, i ≤ l.length → l.length - i = d → ∃ v, Ev (fun k => array_wrongs_int.l0 k a l (l.length : Int) (i : Int)) v := by
  intro d
  induction d with
  | zero =>
    intro i h1 h2
    refine ⟨false, Ev.succ ?_⟩
    simp only [array_wrongs_int.l0, if_neg (show ¬ ((i : Int) < (l.length : Int)) by omega)]
    exact Ev.const _
  | succ d ih =>
    intro i h1 h2
    have hi : i < l.length := by omega
    obtain ⟨t, ht⟩ := fits_ev a (rd l (i : Int))
    obtain ⟨v, hv⟩ := ih (i + 1) (by omega) (by omega)
    cases t with
    | true =>
      refine ⟨v, Ev.succ ?_⟩
      simp only [array_wrongs_int.l0, if_pos (show ((i : Int) < (l.length : Int)) by omega), if_pos (show (0 : Int) ≤ (i : Int) by omega), array_items_1.f, ix hi hl]
      exact Ev.bind (u := true) (Ev.bind ht (Ev.const _)) hv
    | false =>
      refine ⟨true, Ev.succ ?_⟩
      simp only [array_wrongs_int.l0, if_pos (show ((i : Int) < (l.length : Int)) by omega), if_pos (show (0 : Int) ≤ (i : Int) by omega), array_items_1.f]
      exact Ev.bind (u := false) (Ev.bind ht (Ev.const _)) (Ev.const _)
theorem norm_ev : ∀ (d : Nat) (x e : Int), -9223372036854775808 ≤ e → e ≤ 9223372036854775807 → (32768 - e).toNat ≤ d → ∃ v, Ev (fun k => decimal_Norm.l0 k x e) v := by
  intro d
  induction d with
  | zero =>
    intro x e h1 h2 h3
    have h4 : ¬ e ≤ 32767 := by omega
    have h5 : ¬ e < -32768 := by omega
    have h6 : e > 32767 := by omega
    refine ⟨(0, 0, false), Ev.succ ?_⟩
    by_cases h : Int.tmod x 10 = 0
    · simp only [decimal_Norm.l0, if_pos h, if_neg h4, if_neg h5, if_pos h6]; exact Ev.const _
    · simp only [decimal_Norm.l0, if_neg h, if_neg h5, if_pos h6]; exact Ev.const _
  | succ d ih =>
    intro x e h1 h2 h3
    have hl : ∃ v : Int × Int × Bool, (if e < -32768 then some (0, 0, false) else if e > 32767 then some (0, 0, false) else some (x, e, true)) = some v := by
      split
      · exact ⟨_, rfl⟩
      · split <;> exact ⟨_, rfl⟩
    obtain ⟨v, hv⟩ := hl
    by_cases h : Int.tmod x 10 = 0
    · by_cases h4 : e ≤ 32767
      · have hw : wrap64 (e + 1) = e + 1 := w64 (by omega) (by omega)
        obtain ⟨v', hv'⟩ := ih (wrap64 (Int.tdiv x 10)) (wrap64 (e + 1)) (by omega) (by omega) (by omega)
        refine ⟨v', Ev.succ ?_⟩
        simp only [decimal_Norm.l0, if_pos h, if_pos h4]; exact hv'
      · refine ⟨v, Ev.succ ?_⟩
        simp only [decimal_Norm.l0, if_pos h, if_neg h4, hv]; exact Ev.const _
    · refine ⟨v, Ev.succ ?_⟩
      simp only [decimal_Norm.l0, if_neg h, hv]; exact Ev.const _
def OkD (y : S41) : Prop := -9223372036854775808 ≤ y.f1 ∧ y.f1 ≤ 9223372036854775807
def Ok (n : S32) : Prop := ∀ y ∈ n.f3, OkD y
theorem decright_ev (y : S41) (h : OkD y) : ∃ v, Ev (fun k => decimal_Right.f k y.f0 y.f1) v := by
  have hn : ∃ v, Ev (fun k => decimal_Norm.f k y.f0 y.f1) v := by
    by_cases h0 : y.f0 = 0
    · simp only [decimal_Norm.f, if_pos h0]; exact ⟨_, Ev.const _⟩
    · simp only [decimal_Norm.f, if_neg h0]; exact norm_ev _ y.f0 y.f1 h.1 h.2 (Nat.le_refl _)
  obtain ⟨⟨a, b, c⟩, hv⟩ := hn
  cases c with
  | true => exact ⟨_, Ev.bind hv (Ev.const _)⟩
  | false => exact ⟨_, Ev.bind hv (Ev.const _)⟩
theorem decs_ev (l : List S41) (ok : ∀ y ∈ l, OkD y) (hl : l.length ≤ 1099511627776) : ∀ d i, i ≤ l.length → l.length - i = d → ∃ v, Ev (fun k => api_Dec_55.l0 k l (l.length : Int) (i : Int)) v := by
  intro d
  induction d with
  | zero =>
    intro i h1 h2
    refine ⟨false, Ev.succ ?_⟩
    simp only [api_Dec_55.l0, if_neg (show ¬ ((i : Int) < (l.length : Int)) by omega)]
    exact Ev.const _
  | succ d ih =>
    intro i h1 h2
    have hi : i < l.length := by omega
    have hr : rd_T41 l (i : Int) = l[i] := by
      unfold rd_T41
      rw [List.getD_eq_getElem?_getD, Int.toNat_natCast, List.getElem?_eq_getElem hi]; rfl
    obtain ⟨t, ht⟩ := decright_ev (rd_T41 l (i : Int)) (by rw [hr]; exact ok _ (List.getElem_mem _))
    obtain ⟨v, hv⟩ := ih (i + 1) (by omega) (by omega)
    cases t with
    | true =>
      refine ⟨v, Ev.succ ?_⟩
      simp only [api_Dec_55.l0, if_pos (show ((i : Int) < (l.length : Int)) by omega), if_pos (show (0 : Int) ≤ (i : Int) by omega), ix hi hl]
      exact Ev.bind ht hv
    | false =>
      refine ⟨true, Ev.succ ?_⟩
      simp only [api_Dec_55.l0, if_pos (show ((i : Int) < (l.length : Int)) by omega), if_pos (show (0 : Int) ≤ (i : Int) by omega)]
      exact Ev.bind ht (Ev.const _)
theorem items1_ev (x3 x5 x6 a a' : Int) (b c : List Int) (e : List S41) (ok : ∀ y ∈ e, OkD y) (h0 : 0 ≤ x3) (h1 : x3 ≤ 1048576) (h5 : x5 ≤ 1048576) (h6 : x6 ≤ 1048576) :
    ∃ v, Ev (fun k => array_items.j1 k x3 x5 x6 a a' b c e) v ∧ (v = -1 ∨ (v = x3 ∧ (c.length : Int) = x5 ∧ (e.length : Int) = x6)) := by
  by_cases g1 : (c.length : Int) = x5
  · by_cases g2 : (e.length : Int) = x6
    · obtain ⟨t, ht⟩ := wrongs_ev c a (by omega) c.length 0 (by omega) (by omega)
      obtain ⟨s, hs⟩ := decs_ev e ok (by omega) e.length 0 (by omega) (by omega)
      cases t with
      | true =>
        refine ⟨-1, Ev.succ ?_, .inl rfl⟩
        simp only [array_items.j1, if_pos g1, if_pos g2, array_wrongs_int.f]
        exact Ev.bind ht (Ev.const _)
      | false =>
        cases s with
        | true =>
          refine ⟨-1, Ev.succ ?_, .inl rfl⟩
          simp only [array_items.j1, if_pos g1, if_pos g2, array_wrongs_int.f, api_Dec_55.f]
          exact Ev.bind ht (Ev.bind hs (Ev.const _))
        | false =>
          refine ⟨x3, Ev.succ ?_, .inr ⟨rfl, g1, g2⟩⟩
          simp only [array_items.j1, if_pos g1, if_pos g2, array_wrongs_int.f, api_Dec_55.f]
          exact Ev.bind ht (Ev.bind hs (Ev.const _))
    · refine ⟨-1, Ev.succ ?_, .inl rfl⟩
      simp only [array_items.j1, if_pos g1, if_neg g2]; exact Ev.const _
  · refine ⟨-1, Ev.succ ?_, .inl rfl⟩
    simp only [array_items.j1, if_neg g1]; exact Ev.const _
theorem items0_ev (x3 a a' : Int) (t : Bool) (b c : List Int) (e : List S41) (ok : ∀ y ∈ e, OkD y) (h0 : 0 ≤ x3) (h1 : x3 ≤ 1048576) :
    ∃ v, Ev (fun k => array_items.j0 k x3 0 0 a t a' b c e) v ∧ (v = -1 ∨ (v = x3 ∧ (a = 5 → t = false → c = [] ∧ e = []) ∧ (a ≠ 5 → v ≤ (c.length : Int) ∨ v ≤ (e.length : Int)))) := by
  cases t with
  | true =>
    obtain ⟨v, hv, hb⟩ := items1_ev x3 x3 0 a a' b c e ok h0 h1 h1 (by omega)
    exact ⟨v, Ev.succ (by simp only [array_items.j0]; exact hv), hb.imp id fun h => ⟨h.1, fun _ h' => by simp at h', fun _ => .inl (by omega)⟩⟩
  | false =>
    by_cases g1 : a = 4
    · obtain ⟨v, hv, hb⟩ := items1_ev x3 0 x3 a a' b c e ok h0 h1 (by omega) h1
      exact ⟨v, Ev.succ (by simp only [array_items.j0, if_pos g1]; exact hv), hb.imp id fun h => ⟨h.1, fun h' _ => by omega, fun _ => .inr (by omega)⟩⟩
    · by_cases g2 : a = 5
      · obtain ⟨v, hv, hb⟩ := items1_ev x3 0 0 a a' b c e ok h0 h1 (by omega) (by omega)
        exact ⟨v, Ev.succ (by simp only [array_items.j0, if_neg g1, if_pos g2]; exact hv), hb.imp id fun h => ⟨h.1, fun _ _ => ⟨List.eq_nil_of_length_eq_zero (by omega), List.eq_nil_of_length_eq_zero (by omega)⟩, fun h' => absurd g2 h'⟩⟩
      · exact ⟨-1, Ev.succ (by simp only [array_items.j0, if_neg g1, if_neg g2]; exact Ev.const _), .inl rfl⟩
/-- What is said of a node that is right. -/
def Spec (n : S32) (v : Int) : Prop := Ev (fun k => shape_Count.f k n.f1) (v, true) ∧ 0 ≤ v ∧ v ≤ 1048576 ∧ (n.f0 = 5 → n.f2 = [] ∧ n.f3 = []) ∧ (n.f0 ≠ 5 → v ≤ (n.f2.length : Int) ∨ v ≤ (n.f3.length : Int))
theorem items_ev (n : S32) (ok : Ok n) : ∃ v, Ev (fun k => array_items.f k n.f0 n.f1 n.f2 n.f3) v ∧ (v = -1 ∨ Spec n v) := by
  obtain ⟨c, b, hc, h0, h1⟩ := count_ev n.f1
  cases b with
  | true =>
    have hr : ∃ v, Ev (fun k => (if n.f0 = 1 then (array_items.j0 k c 0 0 n.f0 (n.f0 == 1) n.f0 n.f1 n.f2 n.f3) else (if n.f0 = 2 then (array_items.j0 k c 0 0 n.f0 (n.f0 == 2) n.f0 n.f1 n.f2 n.f3) else (array_items.j0 k c 0 0 n.f0 (n.f0 == 3) n.f0 n.f1 n.f2 n.f3)))) v ∧ (v = -1 ∨ (v = c ∧ (n.f0 = 5 → n.f2 = [] ∧ n.f3 = []) ∧ (n.f0 ≠ 5 → v ≤ (n.f2.length : Int) ∨ v ≤ (n.f3.length : Int)))) := by
      by_cases g1 : n.f0 = 1
      · simp only [if_pos g1]
        obtain ⟨v, hv, hb⟩ := items0_ev c n.f0 n.f0 (n.f0 == 1) n.f1 n.f2 n.f3 ok h0 h1
        exact ⟨v, hv, hb.imp id fun h => ⟨h.1, fun h' => by omega, h.2.2⟩⟩
      · by_cases g2 : n.f0 = 2
        · simp only [if_neg g1, if_pos g2]
          obtain ⟨v, hv, hb⟩ := items0_ev c n.f0 n.f0 (n.f0 == 2) n.f1 n.f2 n.f3 ok h0 h1
          exact ⟨v, hv, hb.imp id fun h => ⟨h.1, fun h' => by omega, h.2.2⟩⟩
        · simp only [if_neg g1, if_neg g2]
          obtain ⟨v, hv, hb⟩ := items0_ev c n.f0 n.f0 (n.f0 == 3) n.f1 n.f2 n.f3 ok h0 h1
          exact ⟨v, hv, hb.imp id fun h => ⟨h.1, fun h' => h.2.1 h' (beq_eq_false_iff_ne.mpr (by omega)), h.2.2⟩⟩
    obtain ⟨v, hv, hb⟩ := hr
    refine ⟨v, ?_, hb.imp id fun h => ?_⟩
    · simp only [array_items.f]
      exact Ev.bind hc hv
    · refine ⟨by rw [h.1]; exact hc, by rw [h.1]; exact h0, by rw [h.1]; exact h1, h.2⟩
  | false =>
    refine ⟨-1, ?_, .inl rfl⟩
    simp only [array_items.f]
    exact Ev.bind hc (Ev.const _)
/-- How many items a node has; -1: it is not right. -/
noncomputable def itm (n : S32) : Int := open Classical in if h : ∃ v, Ev (fun k => array_items.f k n.f0 n.f1 n.f2 n.f3) v ∧ (v = -1 ∨ Spec n v) then h.choose else -1
theorem itm_le (n : S32) : itm n ≤ 1048576 := by
  unfold itm
  split
  · next h =>
    rcases h.choose_spec.2 with e | e
    · omega
    · exact e.2.2.1
  · omega
theorem itm_said (n : S32) (ok : Ok n) : Ev (fun k => array_items.f k n.f0 n.f1 n.f2 n.f3) (itm n) ∧ (itm n = -1 ∨ Spec n (itm n)) := by
  obtain ⟨v, hv, hb⟩ := items_ev n ok
  have h : ∃ v, Ev (fun k => array_items.f k n.f0 n.f1 n.f2 n.f3) v ∧ (v = -1 ∨ Spec n v) := ⟨v, hv, hb⟩
  have e : itm n = v := by
    unfold itm
    rw [dif_pos h]
    exact Ev.uniq h.choose_spec.1 hv
  rw [e]
  exact ⟨hv, hb⟩
theorem itm_ev (n : S32) (ok : Ok n) : Ev (fun k => array_items.f k n.f0 n.f1 n.f2 n.f3) (itm n) ∧ -1 ≤ itm n ∧ itm n ≤ 1048576 := by
  obtain ⟨h, hb⟩ := itm_said n ok
  refine ⟨h, ?_⟩
  rcases hb with e | e
  · omega
  · have := e.2.1
    have := e.2.2.1
    omega

/-! ### the walk, on a stack whose top stands first -/
def dec1 (v : Int) : Int := wrap64 (v - 1)
def decT : List Int → List Int
  | [] => []
  | x :: s => dec1 x :: s
theorem decT_length (s : List Int) : (decT s).length = s.length := by cases s <;> rfl
def clrN : Nat → List Int → List Int
  | 0, s => s
  | _ + 1, [] => []
  | n + 1, x :: s => if x = 0 then clrN n (decT s) else x :: s
def clr (s : List Int) : List Int := clrN s.length s
theorem clr_nil : clr [] = [] := rfl
theorem clr_cons (x : Int) (s : List Int) : clr (x :: s) = if x = 0 then clr (decT s) else x :: s := by
  unfold clr
  rw [decT_length]; rfl
theorem clr_length : ∀ (n : Nat) (s : List Int), s.length ≤ n → (clr s).length ≤ s.length := by
  intro n
  induction n with
  | zero =>
    intro s hs
    obtain rfl := List.eq_nil_of_length_eq_zero (Nat.le_zero.1 hs)
    exact Nat.le_refl _
  | succ n ih =>
    intro s hs
    cases s with
    | nil => exact Nat.le_refl _
    | cons x s =>
      rw [clr_cons]
      split
      · have := ih (decT s) (by rw [decT_length]; simp only [List.length_cons] at hs; omega)
        rw [decT_length] at this
        simp only [List.length_cons]; omega
      · exact Nat.le_refl _
noncomputable def push (st : List Int) (n : S32) : List Int := if n.f0 = 5 then itm n :: st else decT st
theorem push_length (st : List Int) (n : S32) : (push st n).length ≤ st.length + 1 := by
  unfold push
  split
  · exact Nat.le_refl _
  · rw [decT_length]; omega
open Classical in
noncomputable def walkS : Int → Int → List Int → Int → List S32 → Int × Int × Int
  | _, _, _, _, [] => (0, 0, 0)
  | all, deep, st, i, n :: r =>
    if itm n < 0 ∨ wrap64 (all + itm n) > 1048576 ∨ 16 ≤ st.length then (0, 0, 0)
    else if clr (push st n) = [] then (i + 1, wrap64 (all + itm n), mx deep (wrap64 ((st.length : Int) + 1)))
    else walkS (wrap64 (all + itm n)) (mx deep (wrap64 ((st.length : Int) + 1))) (clr (push st n)) (i + 1) r
theorem last_ix {n : Nat} (h : 0 < n) (hn : n ≤ 1099511627776) : wrap64 ((n : Int) - 1) = ((n - 1 : Nat) : Int) := by rw [w64 (by omega) (by omega)]; omega
theorem rev_last (x : Int) (s : List Int) : rd (x :: s).reverse ((s.length : Nat) : Int) = x := by
  rw [rd_at _ _ (by simp)]
  simp
theorem rev_set (x v : Int) (s : List Int) : (x :: s).reverse.set s.length v = (v :: s).reverse := by
  simp only [List.reverse_cons]
  rw [List.set_append_right _ _ (by simp)]
  simp
theorem rev_take (x : Int) (s : List Int) : (x :: s).reverse.take s.length = s.reverse := by
  rw [List.reverse_cons]
  rw [List.take_append_of_le_length (by simp)]
  exact List.take_of_length_le (by simp)
theorem pop_ev (all deep i6 : Int) (x9 : List S32) (x10 x11 : Int) (v : Int × Int × Int) : ∀ (n : Nat) (st : List Int), st.length ≤ n → st.length ≤ 100 →
    Ev (fun k => array_walk.j4 k all deep (clr st).reverse i6 x9 x10 x11 false) v → Ev (fun k => array_walk.l1 k all deep st.reverse i6 x9 x10 x11) v := by
  intro n
  induction n with
  | zero =>
    intro st hs hc h
    obtain rfl := List.eq_nil_of_length_eq_zero (Nat.le_zero.1 hs)
    refine Ev.succ ?_
    simp only [array_walk.l1, List.reverse_nil, List.length_nil, if_neg (show ¬ (((0 : Nat) : Int) > 0) by decide)]
    exact h
  | succ n ih =>
    intro st hs hc h
    cases st with
    | nil =>
      refine Ev.succ ?_
      simp only [array_walk.l1, List.reverse_nil, List.length_nil, if_neg (show ¬ (((0 : Nat) : Int) > 0) by decide)]
      exact h
    | cons x s =>
      simp only [List.length_cons] at hs hc
      have hL : (x :: s).reverse.length = s.length + 1 := by simp
      have hw : wrap64 (((s.length + 1 : Nat) : Int) - 1) = ((s.length : Nat) : Int) := last_ix (by omega) (by omega)
      refine Ev.succ ?_
      simp only [array_walk.l1, hL, hw, if_pos (show (((s.length + 1 : Nat) : Int) > 0) by omega), if_pos (show (0 : Int) ≤ ((s.length : Nat) : Int) by omega), if_pos (show ((s.length : Nat) : Int) < ((s.length + 1 : Nat) : Int) by omega), rev_last]
      rw [clr_cons] at h
      by_cases e : x = 0
      · rw [if_pos e] at h
        subst e
        refine Ev.succ ?_
        simp only [array_walk.j4, hL, hw, BEq.rfl, if_true, if_pos (show (0 : Int) ≤ ((s.length : Nat) : Int) by omega), if_pos (show ((s.length : Nat) : Int) ≤ ((s.length + 1 : Nat) : Int) by omega), Int.toNat_natCast, rev_take, Option.bind_some, List.length_reverse]
        cases s with
        | nil =>
          simp only [List.length_nil, if_neg (show ¬ (((0 : Nat) : Int) > 0) by decide)]
          exact ih [] (by simp) (by simp) h
        | cons y s =>
          have hw2 : wrap64 (((s.length + 1 : Nat) : Int) - 1) = ((s.length : Nat) : Int) := last_ix (by omega) (by simp only [List.length_cons] at hc; omega)
          simp only [List.length_cons, hw2, if_pos (show (((s.length + 1 : Nat) : Int) > 0) by omega), if_pos (show (0 : Int) ≤ ((s.length : Nat) : Int) by omega), if_pos (show ((s.length : Nat) : Int) < ((s.length + 1 : Nat) : Int) by omega), rev_last, Int.toNat_natCast, rev_set]
          exact ih (dec1 y :: s) (by simp only [List.length_cons] at hs ⊢; omega) (by simp only [List.length_cons] at hc ⊢; omega) h
      · rw [if_neg e] at h
        rw [show (x == 0) = false from beq_eq_false_iff_ne.mpr e]
        exact h
theorem walk_ev (l : List S32) (ok : ∀ n ∈ l, Ok n) (hl : l.length ≤ 1099511627776) : ∀ d i, i ≤ l.length → l.length - i = d → ∀ (all deep : Int) (st : List Int), st.length ≤ 17 →
    Ev (fun k => array_walk.l0 k all deep st.reverse l (l.length : Int) (i : Int)) (walkS all deep st (i : Int) (l.drop i)) := by
  intro d
  induction d with
  | zero =>
    intro i h1 h2 all deep st hs
    have hd : l.drop i = [] := List.drop_eq_nil_of_le (by omega)
    rw [hd]
    refine Ev.succ ?_
    simp only [array_walk.l0, if_neg (show ¬ ((i : Int) < (l.length : Int)) by omega)]
    exact Ev.const _
  | succ d ih =>
    intro i h1 h2 all deep st hs
    have hi : i < l.length := by omega
    have hd : l.drop i = l[i] :: l.drop (i + 1) := (List.drop_eq_getElem_cons hi)
    rw [hd]
    generalize hn : l[i] = n
    have okn : Ok n := by rw [← hn]; exact ok _ (List.getElem_mem _)
    obtain ⟨hit, hb0, hb1⟩ := itm_ev n okn
    have hrd : rd_T32 l (i : Int) = n := by rw [rdT_at l i hi, hn]
    have hfail : ∀ (a b : Int), Ev (fun k => array_walk.j1 k (wrap64 (all + itm n)) deep st.reverse (i : Int) (itm n) l (l.length : Int) (i : Int) true n.f0 n.f1 n.f2 n.f3) (0, 0, 0) := fun _ _ => Ev.succ (by simp only [array_walk.j1]; exact Ev.const _)
    have hgo : st.length < 16 → Ev (fun k => array_walk.j2 k (wrap64 (all + itm n)) (mx deep (wrap64 ((st.length : Int) + 1))) (push st n).reverse (i : Int) l (l.length : Int) (i : Int))
        (if clr (push st n) = [] then ((i : Int) + 1, wrap64 (all + itm n), mx deep (wrap64 ((st.length : Int) + 1))) else walkS (wrap64 (all + itm n)) (mx deep (wrap64 ((st.length : Int) + 1))) (clr (push st n)) ((i : Int) + 1) (l.drop (i + 1))) := by
      intro hst
      refine Ev.succ ?_
      simp only [array_walk.j2]
      have hp := push_length st n
      refine pop_ev _ _ _ _ _ _ _ (push st n).length (push st n) (Nat.le_refl _) (by omega) ?_
      refine Ev.succ ?_
      simp only [array_walk.j4, Bool.false_eq_true, if_false, List.length_reverse]
      have hcl := clr_length (push st n).length (push st n) (Nat.le_refl _)
      by_cases e : clr (push st n) = []
      · simp only [e, List.length_nil, if_pos (show (((0 : Nat) : Int)) = 0 by rfl), if_true]
        rw [show wrap64 ((i : Int) + 1) = (i : Int) + 1 by rw [ix hi hl]; omega]
        exact Ev.const _
      · have hz : ¬ (((clr (push st n)).length : Int) = 0) := fun h0 => e (List.eq_nil_of_length_eq_zero (by omega))
        simp only [if_neg e, if_neg hz, ix hi hl]
        have hi1 : ((i : Int) + 1) = ((i + 1 : Nat) : Int) := by omega
        rw [hi1]
        exact ih (i + 1) (by omega) (by omega) _ _ _ (by omega)
    refine Ev.succ ?_
    simp only [array_walk.l0, if_pos (show ((i : Int) < (l.length : Int)) by omega), if_pos (show (0 : Int) ≤ (i : Int) by omega), hrd]
    refine Ev.bind hit ?_
    by_cases g1 : itm n < 0
    · simp only [walkS, if_pos g1, if_pos (show itm n < 0 ∨ wrap64 (all + itm n) > 1048576 ∨ 16 ≤ st.length from .inl g1)]
      exact hfail 0 0
    · by_cases g2 : wrap64 (all + itm n) > 1048576
      · simp only [walkS, if_neg g1, if_pos g2, if_pos (show itm n < 0 ∨ wrap64 (all + itm n) > 1048576 ∨ 16 ≤ st.length from .inr (.inl g2))]
        exact hfail 0 0
      · simp only [if_neg g1, if_neg g2, List.length_reverse]
        by_cases g3 : 16 ≤ st.length
        · simp only [walkS, if_pos (show itm n < 0 ∨ wrap64 (all + itm n) > 1048576 ∨ 16 ≤ st.length from .inr (.inr g3)), decide_eq_true (show ((st.length : Int) ≥ 16) by omega)]
          exact hfail 0 0
        · simp only [walkS, if_neg (show ¬ (itm n < 0 ∨ wrap64 (all + itm n) > 1048576 ∨ 16 ≤ st.length) from fun h => h.elim g1 fun h => h.elim g2 g3), decide_eq_false (show ¬ ((st.length : Int) ≥ 16) by omega)]
          refine Ev.succ ?_
          simp only [array_walk.j1, Bool.false_eq_true, if_false, List.length_reverse]
          replace hgo := hgo (by omega)
          unfold push at hgo
          by_cases g5 : n.f0 = 5
          · simp only [if_pos g5] at hgo
            simp only [if_pos g5, if_pos (show st.length < 17592186044416 by omega)]
            unfold push
            simp only [if_pos g5]
            rw [List.reverse_cons] at hgo
            exact hgo
          · simp only [if_neg g5] at hgo ⊢
            unfold push
            simp only [if_neg g5]
            cases st with
            | nil => exact hgo
            | cons x s =>
              have hw : wrap64 (((s.length + 1 : Nat) : Int) - 1) = ((s.length : Nat) : Int) := last_ix (by omega) (by simp only [List.length_cons] at hs; omega)
              simp only [List.length_cons, hw, if_pos (show (((s.length + 1 : Nat) : Int) > 0) by omega), if_pos (show (0 : Int) ≤ ((s.length : Nat) : Int) by omega), if_pos (show ((s.length : Nat) : Int) < ((s.length + 1 : Nat) : Int) by omega), rev_last, Int.toNat_natCast, rev_set]
              simp only [List.length_cons] at hgo
              exact hgo

/-! ### what the walk says of beginnings -/
theorem walkS_cut : ∀ (r : List S32) (all deep : Int) (st : List Int) (i : Nat),
    (walkS all deep st (i : Int) r).1 = 0 ∨ ∃ j, 1 ≤ j ∧ j ≤ r.length ∧ (walkS all deep st (i : Int) r).1 = ((i + j : Nat) : Int) ∧ (∀ r', walkS all deep st (i : Int) (r.take j ++ r') = walkS all deep st (i : Int) r) ∧ ∀ m, m < j → walkS all deep st (i : Int) (r.take m) = (0, 0, 0) := by
  intro r
  induction r with
  | nil => intro all deep st i; exact .inl rfl
  | cons n r ih =>
    intro all deep st i
    by_cases g : itm n < 0 ∨ wrap64 (all + itm n) > 1048576 ∨ 16 ≤ st.length
    · left
      simp only [walkS, if_pos g]
    · by_cases e : clr (push st n) = []
      · right
        refine ⟨1, Nat.le_refl _, by simp, ?_, fun r' => ?_, fun m hm => ?_⟩
        · simp only [walkS, if_neg g, if_pos e]; omega
        · simp only [List.take_succ_cons, List.take_zero, List.cons_append, walkS, if_neg g, if_pos e]
        · obtain rfl : m = 0 := by omega
          simp only [List.take_zero, walkS]
      · have hi : ((i : Int) + 1) = ((i + 1 : Nat) : Int) := by omega
        rcases ih (wrap64 (all + itm n)) (mx deep (wrap64 ((st.length : Int) + 1))) (clr (push st n)) (i + 1) with h | ⟨j, h1, h2, h3, h4, h5⟩
        · left
          simp only [walkS, if_neg g, if_neg e, hi]; exact h
        · right
          refine ⟨j + 1, by omega, by simp only [List.length_cons]; omega, ?_, fun r' => ?_, fun m hm => ?_⟩
          · simp only [walkS, if_neg g, if_neg e, hi]; rw [h3]; omega
          · simp only [List.take_succ_cons, List.cons_append, walkS, if_neg g, if_neg e, hi]; exact h4 r'
          · cases m with
            | zero => simp only [List.take_zero, walkS]
            | succ m => simp only [List.take_succ_cons, walkS, if_neg g, if_neg e, hi]; exact h5 m (by omega)
/-- How many nodes the array has that stands first. -/
noncomputable def tk (l : List S32) : Int := (walkS 0 0 [] 0 l).1
theorem tk_cut (l : List S32) : tk l = 0 ∨ ∃ j, 1 ≤ j ∧ j ≤ l.length ∧ tk l = (j : Int) ∧ (∀ r', walkS 0 0 [] 0 (l.take j ++ r') = walkS 0 0 [] 0 l) ∧ ∀ m, m < j → tk (l.take m) = 0 := by
  rcases walkS_cut l 0 0 [] 0 with h | ⟨j, h1, h2, h3, h4, h5⟩
  · exact .inl h
  · refine .inr ⟨j, h1, h2, ?_, h4, fun m hm => ?_⟩
    · have := h3
      rw [Nat.zero_add] at this
      exact this
    · have := h5 m hm
      unfold tk
      exact congrArg Prod.fst this
theorem walkf_ev (l : List S32) (ok : ∀ n ∈ l, Ok n) (hl : l.length ≤ 1099511627776) : Ev (fun k => array_walk.f k l) (walkS 0 0 [] 0 l) := by
  have := walk_ev l ok hl l.length 0 (by omega) (by omega) 0 0 [] (by simp)
  simp only [array_walk.f]
  exact this
theorem take_ev (l : List S32) (ok : ∀ n ∈ l, Ok n) (hl : l.length ≤ 1099511627776) : Ev (fun k => array_Take.f k l) (tk l) := by
  simp only [array_Take.f]
  exact Ev.bind (walkf_ev l ok hl) (Ev.const _)
noncomputable def rt (l : List S32) : Bool := if (l.length : Int) > 0 then (tk l == (l.length : Int)) else false
theorem right_ev (l : List S32) (ok : ∀ n ∈ l, Ok n) (hl : l.length ≤ 1099511627776) : Ev (fun k => array_Right.f k l) (rt l) := by
  unfold rt
  by_cases h : (l.length : Int) > 0
  · simp only [array_Right.f, if_pos h]
    exact Ev.bind (take_ev l ok hl) (Ev.const _)
  · simp only [array_Right.f, if_neg h]
    exact Ev.const _
theorem ok_take {l : List S32} (ok : ∀ n ∈ l, Ok n) (m : Nat) : ∀ n ∈ l.take m, Ok n := fun n hn => ok n (List.mem_of_mem_take hn)
/-- Few nodes, with few items. -/
def Fits (n : S32) : Prop := n.f1.length ≤ 30 ∧ n.f2.length ≤ 300 ∧ n.f3.length ≤ 300
theorem few_loop (l : List S32) : ∀ d i, i ≤ l.length → i ≤ 200 → 200 - i = d → ∀ x : Int, 0 ≤ x → x ≤ 600 * (i : Int) →
    ∃ b, Ev (fun k => decklelaw10_Few.l0 k l x (i : Int)) b ∧ (b = true → l.length ≤ 100 ∧ ∀ n ∈ l.drop i, Fits n) := by
  intro d
  induction d with
  | zero =>
    intro i h1 h2 h3 x hx0 hx1
    by_cases hi : i < l.length
    · refine ⟨false, Ev.succ ?_, by simp⟩
      simp only [decklelaw10_Few.l0, if_pos (show ((i : Int) < (l.length : Int)) by omega), decide_eq_false (show ¬ ((i : Int) < 200) by omega)]
      refine Ev.succ ?_
      simp only [decklelaw10_Few.j1, Bool.false_eq_true, if_false, if_neg (show ¬ ((l.length : Int) ≤ 100) by omega)]
      exact Ev.const _
    · by_cases g : (l.length : Int) ≤ 100
      · refine ⟨decide (x ≤ 1000), Ev.succ ?_, fun _ => ⟨by omega, by rw [List.drop_eq_nil_of_le (by omega)]; simp⟩⟩
        simp only [decklelaw10_Few.l0, if_neg (show ¬ ((i : Int) < (l.length : Int)) by omega)]
        refine Ev.succ ?_
        simp only [decklelaw10_Few.j1, Bool.false_eq_true, if_false, if_pos g]
        exact Ev.const _
      · refine ⟨false, Ev.succ ?_, by simp⟩
        simp only [decklelaw10_Few.l0, if_neg (show ¬ ((i : Int) < (l.length : Int)) by omega)]
        refine Ev.succ ?_
        simp only [decklelaw10_Few.j1, Bool.false_eq_true, if_false, if_neg g]
        exact Ev.const _
  | succ d ih =>
    intro i h1 h2 h3 x hx0 hx1
    by_cases hi : i < l.length
    · have hrd : rd_T32 l (i : Int) = l[i] := rdT_at l i hi
      have hd : l.drop i = l[i] :: l.drop (i + 1) := (List.drop_eq_getElem_cons hi)
      rw [hd]
      generalize l[i] = n at hrd
      by_cases g1 : (n.f1.length : Int) > 30
      · refine ⟨false, Ev.succ ?_, by simp⟩
        simp only [decklelaw10_Few.l0, if_pos (show ((i : Int) < (l.length : Int)) by omega), decide_eq_true (show ((i : Int) < 200) by omega)]
        refine Ev.succ ?_
        simp only [decklelaw10_Few.j1, if_true, if_pos (show (0 : Int) ≤ (i : Int) by omega), if_pos (show ((i : Int) < (l.length : Int)) by omega), hrd, if_pos g1]
        exact Ev.const _
      · by_cases g2 : (n.f2.length : Int) > 300
        · refine ⟨false, Ev.succ ?_, by simp⟩
          simp only [decklelaw10_Few.l0, if_pos (show ((i : Int) < (l.length : Int)) by omega), decide_eq_true (show ((i : Int) < 200) by omega)]
          refine Ev.succ ?_
          simp only [decklelaw10_Few.j1, if_true, if_pos (show (0 : Int) ≤ (i : Int) by omega), if_pos (show ((i : Int) < (l.length : Int)) by omega), hrd, if_neg g1, if_pos g2]
          exact Ev.const _
        · by_cases g3 : (n.f3.length : Int) > 300
          · refine ⟨false, Ev.succ ?_, by simp⟩
            simp only [decklelaw10_Few.l0, if_pos (show ((i : Int) < (l.length : Int)) by omega), decide_eq_true (show ((i : Int) < 200) by omega)]
            refine Ev.succ ?_
            simp only [decklelaw10_Few.j1, if_true, if_pos (show (0 : Int) ≤ (i : Int) by omega), if_pos (show ((i : Int) < (l.length : Int)) by omega), hrd, if_neg g1, if_neg g2, if_pos g3]
            exact Ev.const _
          · have hw : wrap64 (wrap64 (x + (n.f2.length : Int)) + (n.f3.length : Int)) = x + (n.f2.length : Int) + (n.f3.length : Int) := by
              rw [w64 (n := x + (n.f2.length : Int)) (by omega) (by omega), w64 (by omega) (by omega)]
            have hw2 : wrap64 ((i : Int) + 1) = ((i + 1 : Nat) : Int) := by rw [w64 (by omega) (by omega)]; omega
            obtain ⟨b, hb, hb2⟩ := ih (i + 1) (by omega) (by omega) (by omega) (x + (n.f2.length : Int) + (n.f3.length : Int)) (by omega) (by omega)
            refine ⟨b, Ev.succ ?_, fun e => ⟨(hb2 e).1, fun y hy => ?_⟩⟩
            · simp only [decklelaw10_Few.l0, if_pos (show ((i : Int) < (l.length : Int)) by omega), decide_eq_true (show ((i : Int) < 200) by omega)]
              refine Ev.succ ?_
              simp only [decklelaw10_Few.j1, if_true, if_pos (show (0 : Int) ≤ (i : Int) by omega), if_pos (show ((i : Int) < (l.length : Int)) by omega), hrd, if_neg g1, if_neg g2, if_neg g3, hw, hw2]
              exact hb
            · rcases List.mem_cons.1 hy with rfl | hy
              · exact ⟨by omega, by omega, by omega⟩
              · exact (hb2 e).2 y hy
    · by_cases g : (l.length : Int) ≤ 100
      · refine ⟨decide (x ≤ 1000), Ev.succ ?_, fun _ => ⟨by omega, by rw [List.drop_eq_nil_of_le (by omega)]; simp⟩⟩
        simp only [decklelaw10_Few.l0, if_neg (show ¬ ((i : Int) < (l.length : Int)) by omega)]
        refine Ev.succ ?_
        simp only [decklelaw10_Few.j1, Bool.false_eq_true, if_false, if_pos g]
        exact Ev.const _
      · refine ⟨false, Ev.succ ?_, by simp⟩
        simp only [decklelaw10_Few.l0, if_neg (show ¬ ((i : Int) < (l.length : Int)) by omega)]
        refine Ev.succ ?_
        simp only [decklelaw10_Few.j1, Bool.false_eq_true, if_false, if_neg g]
        exact Ev.const _
theorem few_ev (l : List S32) : ∃ b, Ev (fun k => decklelaw10_Few.f k l) b ∧ (b = true → l.length ≤ 100 ∧ ∀ n ∈ l, Fits n) := by
  obtain ⟨b, hb, h2⟩ := few_loop l 200 0 (by omega) (by omega) rfl 0 (by omega) (by omega)
  exact ⟨b, hb, h2⟩
theorem copy_some (l : List S32) (h : l.length ≤ 100) (hf : ∀ n ∈ l, Fits n) : array_Copy.f l = some l := by
  unfold array_Copy.f
  rw [if_pos ⟨by omega, fun x hx => by have := hf x hx; unfold Fits at this; omega⟩]

/-! ### arrays in arrays -/
theorem mx_ge (a b : Int) : a ≤ mx a b ∧ b ≤ mx a b ∧ (mx a b = a ∨ mx a b = b) := by unfold mx; split <;> omega
theorem mx_eq {a b c : Int} (h1 : a ≤ c) (h2 : b ≤ c) (h3 : c = a ∨ c = b) : mx a b = c := by have := mx_ge a b; omega
theorem mx_mx (D L d s : Int) : mx (mx D (L + d)) (s + L + 1) = mx D (L + mx d (s + 1)) := by
  have m1 := mx_ge d (s + 1)
  have m2 := mx_ge D (L + d)
  have m3 := mx_ge D (L + mx d (s + 1))
  generalize mx d (s + 1) = a at m1 m3 ⊢
  generalize mx D (L + d) = b at m2 ⊢
  generalize mx D (L + a) = c at m3 ⊢
  exact mx_eq (by omega) (by omega) (by omega)
/-- What follows behind a node, by what is left on the stack. -/
noncomputable def fin (all deep : Int) (st : List Int) (i : Int) (r : List S32) : Int × Int × Int :=
  match st with
  | [] => (i, all, deep)
  | x :: s => walkS all deep (x :: s) i r
theorem walkS_fin {all deep : Int} {st : List Int} {i : Int} {n : S32} {r : List S32} (h : ¬ (itm n < 0 ∨ wrap64 (all + itm n) > 1048576 ∨ 16 ≤ st.length)) :
    walkS all deep st i (n :: r) = fin (wrap64 (all + itm n)) (mx deep (wrap64 ((st.length : Int) + 1))) (clr (push st n)) (i + 1) r := by
  simp only [walkS, if_neg h]
  cases e : clr (push st n) with
  | nil => simp only [fin, if_true]
  | cons x s => simp only [fin, if_neg (show ¬ (x :: s = []) from List.cons_ne_nil x s)]
theorem fin_cons {all deep : Int} {st : List Int} {i : Int} {r : List S32} (h : st ≠ []) : fin all deep st i r = walkS all deep st i r := by
  cases st with
  | nil => exact absurd rfl h
  | cons x s => rfl
theorem clr_app : ∀ (k : Nat) (s st : List Int), s.length ≤ k → s ≠ [] → (clr s = [] → clr (s ++ st) = clr (decT st)) ∧ (clr s ≠ [] → clr (s ++ st) = clr s ++ st) := by
  intro k
  induction k with
  | zero =>
    intro s st hs hn
    exact absurd (List.eq_nil_of_length_eq_zero (Nat.le_zero.1 hs)) hn
  | succ k ih =>
    intro s st hs hn
    cases s with
    | nil => exact absurd rfl hn
    | cons x s =>
      rw [List.cons_append, clr_cons, clr_cons]
      by_cases e : x = 0
      · rw [if_pos e, if_pos e]
        cases s with
        | nil => exact ⟨fun _ => rfl, fun h => absurd clr_nil h⟩
        | cons y s => exact ih (dec1 y :: s) st (by simp only [List.length_cons] at hs ⊢; omega) (List.cons_ne_nil _ _)
      · rw [if_neg e, if_neg e]
        exact ⟨fun h => absurd h (List.cons_ne_nil _ _), fun _ => rfl⟩
attribute [local irreducible] itm mx walkS clr push
theorem split_walk (A DD : Int) : ∀ (l : List S32) (s st : List Int) (all all0 D deep0 i i0 : Int), st ≠ [] → 0 ≤ all0 → all0 ≤ all → all ≤ 1048576 → (st.length : Int) ≤ D → 0 ≤ deep0 → 1 ≤ i →
    walkS all (mx D ((st.length : Int) + deep0)) (s ++ st) i l = (i + (l.length : Int), A, DD) →
    ∃ (j : Nat) (b d : Int), 1 ≤ j ∧ j ≤ l.length ∧ 0 ≤ b ∧ all + b ≤ 1048576 ∧ 0 ≤ d ∧ walkS all0 deep0 s i0 l = (i0 + (j : Int), all0 + b, d) ∧
      fin (all + b) (mx D ((st.length : Int) + d)) (clr (decT st)) (i + (j : Int)) (l.drop j) = (i + (l.length : Int), A, DD) := by
  intro l
  induction l with
  | nil =>
    intro s st all all0 D deep0 i i0 hst h0 h1 h2 hD hd hi hw
    have := congrArg Prod.fst hw
    simp only [walkS, List.length_nil] at this
    omega
  | cons n r ih =>
    intro s st all all0 D deep0 i i0 hst h0 h1 h2 hD hd hi hw
    have hnf : ¬ (itm n < 0 ∨ wrap64 (all + itm n) > 1048576 ∨ 16 ≤ (s ++ st).length) := by
      intro h
      have := congrArg Prod.fst hw
      simp only [walkS, if_pos h] at this
      omega
    have hlen : (s ++ st).length = s.length + st.length := List.length_append
    have hit : 0 ≤ itm n := Int.not_lt.1 fun h => hnf (.inl h)
    have hb : itm n ≤ 1048576 := itm_le n
    have hs16 : s.length + st.length < 16 := by rw [← hlen]; exact Nat.not_le.1 fun h => hnf (.inr (.inr h))
    have hq1 : wrap64 (((s ++ st).length : Int) + 1) = (s.length : Int) + (st.length : Int) + 1 := by
      clear hnf hw
      rw [hlen, w64 (by omega) (by omega)]; omega
    have hq2 : wrap64 ((s.length : Int) + 1) = (s.length : Int) + 1 := by
      clear hnf hw hq1
      exact w64 (by omega) (by omega)
    have hw1 : wrap64 (all + itm n) = all + itm n := by
      clear hnf hw hq1 hq2
      exact w64 (by omega) (by omega)
    have hw0 : wrap64 (all0 + itm n) = all0 + itm n := by
      clear hnf hw hq1 hq2 hw1
      exact w64 (by omega) (by omega)
    rw [walkS_fin hnf] at hw
    rw [hw1] at hnf hw
    have ha : all + itm n ≤ 1048576 := Int.not_lt.1 fun h => hnf (.inr (.inl h))
    have hnf0 : ¬ (itm n < 0 ∨ wrap64 (all0 + itm n) > 1048576 ∨ 16 ≤ s.length) := by
      rw [hw0]
      clear hnf hw hq1 hq2 hw1 hw0
      omega
    rw [walkS_fin hnf0, hw0]
    clear hw0 hw1 hnf0 hnf
    have m1 := mx_ge deep0 ((s.length : Int) + 1)
    have hmm : mx (mx D ((st.length : Int) + deep0)) ((s.length : Int) + (st.length : Int) + 1) = mx D ((st.length : Int) + mx deep0 ((s.length : Int) + 1)) := mx_mx D (st.length : Int) deep0 (s.length : Int)
    rw [hq1, hmm] at hw
    rw [hq2]
    clear hq1 hq2 hmm
    have hiL : i + ((n :: r).length : Int) = (i + 1) + (r.length : Int) := by simp only [List.length_cons]; omega
    rw [hiL] at hw ⊢
    have done : clr (push s n) = [] → clr (push (s ++ st) n) = clr (decT st) →
        ∃ (j : Nat) (b d : Int), 1 ≤ j ∧ j ≤ (n :: r).length ∧ 0 ≤ b ∧ all + b ≤ 1048576 ∧ 0 ≤ d ∧ fin (all0 + itm n) (mx deep0 ((s.length : Int) + 1)) (clr (push s n)) (i0 + 1) r = (i0 + (j : Int), all0 + b, d) ∧
          fin (all + b) (mx D ((st.length : Int) + d)) (clr (decT st)) (i + (j : Int)) ((n :: r).drop j) = (i + 1 + (r.length : Int), A, DD) := by
      intro e1 e2
      rw [e2] at hw
      refine ⟨1, itm n, mx deep0 ((s.length : Int) + 1), Nat.le_refl _, by simp, hit, ha, by omega, ?_, ?_⟩
      · rw [e1]; rfl
      · exact hw
    by_cases g5 : n.f0 = 5
    · have hp1 : push (s ++ st) n = (itm n :: s) ++ st := by unfold push; rw [if_pos g5]; rfl
      have hp2 : push s n = itm n :: s := by unfold push; rw [if_pos g5]
      have hca := clr_app (s.length + 1) (itm n :: s) st (by simp) (List.cons_ne_nil _ _)
      by_cases e : clr (itm n :: s) = []
      · exact done (by rw [hp2]; exact e) (by rw [hp1]; exact hca.1 e)
      · rw [hp1, hca.2 e, fin_cons (by simp [e])] at hw
        obtain ⟨j, b, d, q1, q2, q3, q4, q5, q6, q7⟩ := ih (clr (itm n :: s)) st (all + itm n) (all0 + itm n) D (mx deep0 ((s.length : Int) + 1)) (i + 1) (i0 + 1) hst (by omega) (by omega) ha hD (by omega) (by omega) hw
        refine ⟨j + 1, itm n + b, d, by omega, by simp only [List.length_cons]; omega, by omega, by omega, q5, ?_, ?_⟩
        · rw [hp2, fin_cons e, q6, show i0 + ((j + 1 : Nat) : Int) = i0 + 1 + (j : Int) by omega, show all0 + (itm n + b) = all0 + itm n + b by omega]
        · rw [show all + (itm n + b) = all + itm n + b by omega, show i + ((j + 1 : Nat) : Int) = i + 1 + (j : Int) by omega, List.drop_succ_cons]
          exact q7
    · cases s with
      | nil =>
        have hp1 : push ([] ++ st) n = decT st := by unfold push; rw [if_neg g5]; rfl
        have hp2 : push [] n = [] := by unfold push; rw [if_neg g5]; rfl
        exact done (by rw [hp2]; exact clr_nil) (by rw [hp1])
      | cons y s =>
        have hp1 : push (y :: s ++ st) n = (dec1 y :: s) ++ st := by unfold push; rw [if_neg g5]; rfl
        have hp2 : push (y :: s) n = dec1 y :: s := by unfold push; rw [if_neg g5]; rfl
        have hca := clr_app (s.length + 1) (dec1 y :: s) st (by simp) (List.cons_ne_nil _ _)
        by_cases e : clr (dec1 y :: s) = []
        · exact done (by rw [hp2]; exact e) (by rw [hp1]; exact hca.1 e)
        · rw [hp1, hca.2 e, fin_cons (by simp [e])] at hw
          obtain ⟨j, b, d, q1, q2, q3, q4, q5, q6, q7⟩ := ih (clr (dec1 y :: s)) st (all + itm n) (all0 + itm n) D (mx deep0 (((y :: s).length : Int) + 1)) (i + 1) (i0 + 1) hst (by omega) (by omega) ha hD (by omega) (by omega) hw
          refine ⟨j + 1, itm n + b, d, by omega, by simp only [List.length_cons]; omega, by omega, by omega, q5, ?_, ?_⟩
          · rw [hp2, fin_cons e, q6, show i0 + ((j + 1 : Nat) : Int) = i0 + 1 + (j : Int) by omega, show all0 + (itm n + b) = all0 + itm n + b by omega]
          · rw [show all + (itm n + b) = all + itm n + b by omega, show i + ((j + 1 : Nat) : Int) = i + 1 + (j : Int) by omega, List.drop_succ_cons]
            exact q7

noncomputable def wI (l : List S32) : Int := (walkS 0 0 [] 0 l).2.1
noncomputable def wD (l : List S32) : Int := (walkS 0 0 [] 0 l).2.2
noncomputable def G : Int → Int → List (List S32) → Int × Int
  | a, d, [] => (a, d)
  | a, d, k :: ks => G (a + wI k) (mx d (wD k)) ks
/-- An array, and how many items it has, and how deep it is. -/
def Arr (l : List S32) : Prop := 1 ≤ l.length ∧ tk l = (l.length : Int) ∧ 0 ≤ wI l ∧ wI l ≤ 1048576
theorem kids_walk (A DD : Int) : ∀ (m : Nat) (l : List S32) (all dd i : Int) (acc : List (List S32)), l.length ≤ 100 → (∀ n ∈ l, Ok n) → (∀ n ∈ l, Fits n) → m + 1 ≤ 1048576 → 0 ≤ all → all ≤ 1048576 → 0 ≤ dd → 1 ≤ i → acc.length + l.length ≤ 100 →
    walkS all (1 + dd) [((m + 1 : Nat) : Int)] i l = (i + (l.length : Int), A, DD) →
    ∃ ks : List (List S32), ks.length = m + 1 ∧ ks.flatten = l ∧ (∀ k ∈ ks, Arr k) ∧ A = (G all dd ks).1 ∧ DD = 1 + (G all dd ks).2 ∧ A ≤ 1048576 ∧ Ev (fun k => array_Kids.l0 k l acc) (acc ++ ks) := by
  intro m
  induction m with
  | zero =>
    intro l all dd i acc hl ok hf hm ha0 ha1 hd hi hacc hw
    have hD : mx (1 + dd) ((([((0 + 1 : Nat) : Int)] : List Int).length : Int) + 0) = 1 + dd := mx_eq (by omega) (by simp only [List.length_cons, List.length_nil]; omega) (.inl rfl)
    obtain ⟨j, b, d, q1, q2, q3, q4, q5, q6, q7⟩ := split_walk A DD l [] [((0 + 1 : Nat) : Int)] all 0 (1 + dd) 0 i 0 (List.cons_ne_nil _ _) (by omega) ha0 ha1 (by simp only [List.length_cons, List.length_nil]; omega) (by omega) hi (by rw [hD]; exact hw)
    have hclr : clr (decT [((0 + 1 : Nat) : Int)]) = [] := by
      have hd1 : dec1 ((0 + 1 : Nat) : Int) = 0 := by unfold dec1; rw [w64 (by omega) (by omega)]; omega
      show clr [dec1 ((0 + 1 : Nat) : Int)] = []
      rw [hd1, clr_cons, if_pos rfl]
      exact clr_nil
    rw [hclr] at q7
    simp only [fin, Prod.mk.injEq, List.length_cons, List.length_nil] at q7
    have hj : j = l.length := by have := q7.1; omega
    rw [Int.zero_add, Int.zero_add] at q6
    have ht : tk l = (j : Int) := congrArg Prod.fst q6
    have hI : wI l = b := congrArg (fun x => x.2.1) q6
    have hWD : wD l = d := congrArg (fun x => x.2.2) q6
    refine ⟨[l], rfl, by simp, ?_, ?_, ?_, ?_, ?_⟩
    · intro k hk
      obtain rfl := List.mem_singleton.1 hk
      exact ⟨by omega, by rw [ht, hj], by omega, by omega⟩
    · simp only [G]; rw [hI]; exact q7.2.1.symm
    · simp only [G]
      rw [hWD, ← q7.2.2]
      have := mx_ge dd d
      exact mx_eq (by omega) (by omega) (by omega)
    · omega
    · refine Ev.succ ?_
      simp only [array_Kids.l0, if_pos (show (l.length : Int) > 0 by omega)]
      refine Ev.bind (take_ev l ok (by omega)) ?_
      simp only [ht, if_pos (show (0 : Int) ≤ (j : Int) by omega), if_pos (show (j : Int) ≤ (l.length : Int) by omega), Int.toNat_natCast]
      rw [hj, List.take_length, List.drop_length, copy_some l hl hf]
      refine Ev.bind (Ev.const _) ?_
      simp only [if_pos (show acc.length < 5864062014805 by omega)]
      refine Ev.succ ?_
      simp only [array_Kids.l0, List.length_nil, if_neg (show ¬ (((0 : Nat) : Int) > 0) by decide)]
      exact Ev.const _
  | succ m ih =>
    intro l all dd i acc hl ok hf hm ha0 ha1 hd hi hacc hw
    have hD : mx (1 + dd) ((([((m + 1 + 1 : Nat) : Int)] : List Int).length : Int) + 0) = 1 + dd := mx_eq (by omega) (by simp only [List.length_cons, List.length_nil]; omega) (.inl rfl)
    obtain ⟨j, b, d, q1, q2, q3, q4, q5, q6, q7⟩ := split_walk A DD l [] [((m + 1 + 1 : Nat) : Int)] all 0 (1 + dd) 0 i 0 (List.cons_ne_nil _ _) (by omega) ha0 ha1 (by simp only [List.length_cons, List.length_nil]; omega) (by omega) hi (by rw [hD]; exact hw)
    have hclr : clr (decT [((m + 1 + 1 : Nat) : Int)]) = [((m + 1 : Nat) : Int)] := by
      have hd1 : dec1 ((m + 1 + 1 : Nat) : Int) = ((m + 1 : Nat) : Int) := by unfold dec1; rw [w64 (by omega) (by omega)]; omega
      show clr [dec1 ((m + 1 + 1 : Nat) : Int)] = _
      rw [hd1, clr_cons, if_neg (by omega)]
    rw [hclr, fin_cons (List.cons_ne_nil _ _)] at q7
    rw [Int.zero_add, Int.zero_add] at q6
    have ht : tk l = (j : Int) := congrArg Prod.fst q6
    obtain ⟨j', p1, p2, p3, p4, p5⟩ : ∃ j', 1 ≤ j' ∧ j' ≤ l.length ∧ tk l = (j' : Int) ∧ (∀ r', walkS 0 0 [] 0 (l.take j' ++ r') = walkS 0 0 [] 0 l) ∧ ∀ m, m < j' → tk (l.take m) = 0 := by
      rcases tk_cut l with h | h
      · omega
      · exact h
    obtain rfl : j' = j := by omega
    have ht2 : walkS 0 0 [] 0 (l.take j') = ((j' : Int), b, d) := by
      have := p4 []
      rw [List.append_nil] at this
      rw [this]; exact q6
    have htl : (l.take j').length = j' := by rw [List.length_take]; omega
    have hI : wI (l.take j') = b := congrArg (fun x => x.2.1) ht2
    have hWD : wD (l.take j') = d := congrArg (fun x => x.2.2) ht2
    have hdl : (l.drop j').length = l.length - j' := List.length_drop
    have hmm : mx (1 + dd) ((([((m + 1 + 1 : Nat) : Int)] : List Int).length : Int) + d) = 1 + mx dd d := by
      have := mx_ge dd d
      simp only [List.length_cons, List.length_nil]
      exact mx_eq (by omega) (by omega) (by omega)
    have hg := mx_ge dd d
    rw [hmm] at q7
    obtain ⟨ks, k1, k2, k3, k4, k5, k6, k7⟩ := ih (l.drop j') (all + b) (mx dd d) (i + (j' : Int)) (acc ++ [l.take j']) (by omega) (fun n hn => ok n (List.mem_of_mem_drop hn)) (fun n hn => hf n (List.mem_of_mem_drop hn)) (by omega) (by omega) q4 (by omega) (by omega) (by rw [List.length_append, hdl]; simp only [List.length_cons, List.length_nil]; omega)
      (by rw [q7, hdl]; simp only [Prod.mk.injEq, and_true]; omega)
    refine ⟨l.take j' :: ks, by simp only [List.length_cons]; omega, by rw [List.flatten_cons, k2, List.take_append_drop], ?_, ?_, ?_, k6, ?_⟩
    · intro k hk
      rcases List.mem_cons.1 hk with rfl | hk
      · refine ⟨by omega, ?_, by omega, by omega⟩
        rw [htl]
        exact congrArg Prod.fst ht2
      · exact k3 k hk
    · simp only [G]; rw [hI, hWD]; exact k4
    · simp only [G]; rw [hI, hWD]; exact k5
    · refine Ev.succ ?_
      simp only [array_Kids.l0, if_pos (show (l.length : Int) > 0 by omega)]
      refine Ev.bind (take_ev l ok (by omega)) ?_
      simp only [ht, if_pos (show (0 : Int) ≤ (j' : Int) by omega), if_pos (show (j' : Int) ≤ (l.length : Int) by omega), Int.toNat_natCast]
      rw [copy_some (l.take j') (by omega) (fun n hn => hf n (List.mem_of_mem_take hn))]
      refine Ev.bind (Ev.const _) ?_
      simp only [if_pos (show acc.length < 5864062014805 by omega)]
      rw [List.append_assoc] at k7
      exact k7

/-! ### arrays laid into others -/
theorem copy_big (l : List S32) (h : l.length ≤ 200) (hf : ∀ n ∈ l, Fits n) : array_Copy.f l = some l := by
  unfold array_Copy.f
  rw [if_pos ⟨by omega, fun x hx => by have := hf x hx; unfold Fits at this; omega⟩]
/-- The node of an array that holds one array alone. -/
def box : S32 := ⟨5, [], [], []⟩
theorem ok_box : Ok box := fun y hy => by simp [box] at hy
theorem fits_box : Fits box := by unfold Fits; simp [box]
theorem mem_box {P : S32 → Prop} {l : List S32} (hb : P box) (h : ∀ n ∈ l, P n) : ∀ n ∈ box :: l, P n := by
  intro n hn
  rcases List.mem_cons.1 hn with e | hn
  · rw [e]; exact hb
  · exact h n hn
theorem itm_box : itm box = 1 := by
  have h : Ev (fun k => array_items.f k 5 [] [] []) 1 := ⟨50, fun k hk => at_rounds (g := fun k => array_items.f k 5 [] [] []) (fun k => array_items.mono _ _ _ _ k) hk (by decide +kernel)⟩
  exact Ev.uniq (itm_said box ok_box).1 h
theorem push_app (s st : List Int) (n : S32) : (clr (push s n) = [] → clr (push (s ++ st) n) = clr (decT st)) ∧ (clr (push s n) ≠ [] → clr (push (s ++ st) n) = clr (push s n) ++ st) := by
  by_cases g5 : n.f0 = 5
  · have hp1 : push (s ++ st) n = (itm n :: s) ++ st := by unfold push; rw [if_pos g5]; rfl
    have hp2 : push s n = itm n :: s := by unfold push; rw [if_pos g5]
    rw [hp1, hp2]
    exact clr_app (s.length + 1) (itm n :: s) st (by simp) (List.cons_ne_nil _ _)
  · cases s with
    | nil =>
      have hp1 : push ([] ++ st) n = decT st := by unfold push; rw [if_neg g5]; rfl
      have hp2 : push [] n = [] := by unfold push; rw [if_neg g5]; rfl
      rw [hp1, hp2]
      exact ⟨fun _ => rfl, fun h => absurd clr_nil h⟩
    | cons y s =>
      have hp1 : push (y :: s ++ st) n = (dec1 y :: s) ++ st := by unfold push; rw [if_neg g5]; rfl
      have hp2 : push (y :: s) n = dec1 y :: s := by unfold push; rw [if_neg g5]; rfl
      rw [hp1, hp2]
      exact clr_app (s.length + 1) (dec1 y :: s) st (by simp) (List.cons_ne_nil _ _)
theorem walkS_grows : ∀ (l : List S32) (all0 deep : Int) (s : List Int) (i : Int), 0 ≤ all0 → all0 ≤ 1048576 → (walkS all0 deep s i l).1 ≠ 0 →
    i + 1 ≤ (walkS all0 deep s i l).1 ∧ all0 ≤ (walkS all0 deep s i l).2.1 ∧ (walkS all0 deep s i l).2.1 ≤ 1048576 ∧ deep ≤ (walkS all0 deep s i l).2.2 ∧ (s.length : Int) + 1 ≤ (walkS all0 deep s i l).2.2 ∧ (walkS all0 deep s i l).2.2 ≤ mx deep 16 := by
  intro l
  induction l with
  | nil => intro all0 deep s i h0 h1 h; simp only [walkS] at h; exact absurd rfl h
  | cons n r ih =>
    intro all0 deep s i h0 h1 h
    by_cases g : itm n < 0 ∨ wrap64 (all0 + itm n) > 1048576 ∨ 16 ≤ s.length
    · simp only [walkS, if_pos g] at h
      exact absurd rfl h
    · have hit : 0 ≤ itm n := Int.not_lt.1 fun h => g (.inl h)
      have hb : itm n ≤ 1048576 := itm_le n
      have hs16 : s.length < 16 := Nat.not_le.1 fun h => g (.inr (.inr h))
      have hw : wrap64 (all0 + itm n) = all0 + itm n := by clear g h; exact w64 (by omega) (by omega)
      have hw2 : wrap64 ((s.length : Int) + 1) = (s.length : Int) + 1 := by clear g h; exact w64 (by omega) (by omega)
      have ha : all0 + itm n ≤ 1048576 := by rw [← hw]; exact Int.not_lt.1 fun h => g (.inr (.inl h))
      have m0 := mx_ge deep 16
      have m1 := mx_ge deep ((s.length : Int) + 1)
      have m2 := mx_ge (mx deep ((s.length : Int) + 1)) 16
      simp only [walkS, if_neg g] at h ⊢
      simp only [hw, hw2] at h ⊢
      clear g hw hw2
      by_cases e : clr (push s n) = []
      · simp only [if_pos e]
        clear h
        omega
      · simp only [if_neg e] at h ⊢
        have := ih (all0 + itm n) (mx deep ((s.length : Int) + 1)) (clr (push s n)) (i + 1) (by omega) ha h
        clear h
        generalize walkS (all0 + itm n) (mx deep ((s.length : Int) + 1)) (clr (push s n)) (i + 1) r = z at this ⊢
        omega
/-- The walk above a stack goes as the walk alone, as far as it is not too deep. -/
theorem lift_walk : ∀ (l : List S32) (s st : List Int) (all all0 b d D deep0 i i0 j : Int), st ≠ [] → 0 ≤ all0 → all0 ≤ all → all + b ≤ 1048576 → all0 ≤ 1048576 → (st.length : Int) ≤ D → 0 ≤ deep0 → 1 ≤ i → 0 ≤ i0 → i0 + j ≠ 0 →
    walkS all0 deep0 s i0 l = (i0 + j, all0 + b, d) →
    (d + (st.length : Int) ≤ 16 → walkS all (mx D ((st.length : Int) + deep0)) (s ++ st) i l = fin (all + b) (mx D ((st.length : Int) + d)) (clr (decT st)) (i + j) (l.drop j.toNat)) ∧
    (deep0 + (st.length : Int) ≤ 16 → 16 < d + (st.length : Int) → walkS all (mx D ((st.length : Int) + deep0)) (s ++ st) i l = (0, 0, 0)) := by
  intro l
  induction l with
  | nil =>
    intro s st all all0 b d D deep0 i i0 j hst h0 h1 h2 h3 hD hd hi hi0 hj hw
    have := congrArg Prod.fst hw
    simp only [walkS] at this
    omega
  | cons n r ih =>
    intro s st all all0 b d D deep0 i i0 j hst h0 h1 h2 h3 hD hd hi hi0 hj hw
    have hgr := walkS_grows (n :: r) all0 deep0 s i0 h0 h3 (by rw [hw]; exact hj)
    rw [hw] at hgr
    simp only at hgr
    have hnf : ¬ (itm n < 0 ∨ wrap64 (all0 + itm n) > 1048576 ∨ 16 ≤ s.length) := by
      intro h
      have := congrArg Prod.fst hw
      simp only [walkS, if_pos h] at this
      omega
    have hlen : (s ++ st).length = s.length + st.length := List.length_append
    have hit : 0 ≤ itm n := Int.not_lt.1 fun h => hnf (.inl h)
    have hb : itm n ≤ 1048576 := itm_le n
    have hs16 : s.length < 16 := Nat.not_le.1 fun h => hnf (.inr (.inr h))
    have hw0 : wrap64 (all0 + itm n) = all0 + itm n := by clear hnf hw; exact w64 (by omega) (by omega)
    have hq2 : wrap64 ((s.length : Int) + 1) = (s.length : Int) + 1 := by clear hnf hw hw0; exact w64 (by omega) (by omega)
    have hall : all ≤ 1048576 := by clear hnf hw hw0 hq2; omega
    have hw1 : wrap64 (all + itm n) = all + itm n := by clear hnf hw hw0 hq2; exact w64 (by omega) (by omega)
    rw [walkS_fin hnf, hw0, hq2] at hw
    have ha0 : all0 + itm n ≤ 1048576 := by rw [← hw0]; exact Int.not_lt.1 fun h => hnf (.inr (.inl h))
    have hpa := push_app s st n
    have m1 := mx_ge deep0 ((s.length : Int) + 1)
    have hmm : mx (mx D ((st.length : Int) + deep0)) ((s.length : Int) + (st.length : Int) + 1) = mx D ((st.length : Int) + mx deep0 ((s.length : Int) + 1)) := mx_mx D (st.length : Int) deep0 (s.length : Int)
    have hdeep : 16 ≤ s.length + st.length → walkS all (mx D ((st.length : Int) + deep0)) (s ++ st) i (n :: r) = (0, 0, 0) := by
      intro h
      simp only [walkS, if_pos (show itm n < 0 ∨ wrap64 (all + itm n) > 1048576 ∨ 16 ≤ (s ++ st).length from .inr (.inr (by rw [hlen]; exact h)))]
    have hgo : all + itm n ≤ 1048576 → s.length + st.length < 16 → walkS all (mx D ((st.length : Int) + deep0)) (s ++ st) i (n :: r) = fin (all + itm n) (mx D ((st.length : Int) + mx deep0 ((s.length : Int) + 1))) (clr (push (s ++ st) n)) (i + 1) r := by
      intro ha h
      have hq1 : wrap64 (((s ++ st).length : Int) + 1) = (s.length : Int) + (st.length : Int) + 1 := by
        rw [hlen]
        clear hnf hw hw0 hq2 hw1 hpa
        rw [w64 (by omega) (by omega)]; omega
      have hnf1 : ¬ (itm n < 0 ∨ wrap64 (all + itm n) > 1048576 ∨ 16 ≤ (s ++ st).length) := by
        rw [hw1, hlen]
        clear hnf hw hw0 hq2 hw1 hpa hq1
        omega
      rw [walkS_fin hnf1, hw1, hq1, hmm]
    clear hw0 hw1 hq2 hnf hmm
    by_cases e : clr (push s n) = []
    · rw [e] at hw
      simp only [fin, Prod.mk.injEq] at hw
      rw [hpa.1 e] at hgo
      have hj1 : j = 1 := by omega
      subst hj1
      have hbi : b = itm n := by omega
      subst hbi
      rw [hw.2.2] at hgo m1
      refine ⟨fun hle => ?_, fun h4 h5 => ?_⟩
      · rw [hgo h2 (by omega)]
        rfl
      · refine hdeep ?_
        omega
    · rw [fin_cons e] at hw
      rw [hpa.2 e, fin_cons (by simp [e])] at hgo
      have hgr2 := walkS_grows r (all0 + itm n) (mx deep0 ((s.length : Int) + 1)) (clr (push s n)) (i0 + 1) (by omega) ha0 (by rw [hw]; exact hj)
      rw [hw] at hgr2
      simp only at hgr2
      have hi := ih (clr (push s n)) st (all + itm n) (all0 + itm n) (b - itm n) d D (mx deep0 ((s.length : Int) + 1)) (i + 1) (i0 + 1) (j - 1) hst (by omega) (by omega) (by omega) ha0 hD (by omega) (by omega) (by omega) (by omega)
        (by rw [hw]; simp only [Prod.mk.injEq, and_true]; omega)
      have hdr : (n :: r).drop j.toNat = r.drop (j - 1).toNat := by
        rw [show j.toNat = (j - 1).toNat + 1 by omega, List.drop_succ_cons]
      rw [hdr]
      have e1 : all + itm n + (b - itm n) = all + b := by omega
      have e2 : i + 1 + (j - 1) = i + j := by omega
      rw [e1, e2] at hi
      refine ⟨fun hle => ?_, fun h4 h5 => ?_⟩
      · rw [hgo (by omega) (by omega)]
        exact hi.1 hle
      · by_cases g : 16 ≤ s.length + st.length
        · exact hdeep g
        · rw [hgo (by omega) (by omega)]
          exact hi.2 (by omega) h5

theorem rdL_at (b : List (List S32)) (m : Nat) (h : m < b.length) : rd_L5 b (m : Int) = b[m] := by
  unfold rd_L5
  rw [List.getD_eq_getElem?_getD, Int.toNat_natCast, List.getElem?_eq_getElem h]; rfl
theorem wrongs0 (ks : List (List S32)) (hl : ks.length ≤ 200) (ok : ∀ l ∈ ks, (∀ n ∈ l, Ok n) ∧ l.length ≤ 200 ∧ rt l = true) : ∀ d i, i ≤ ks.length → ks.length - i = d → Ev (fun k => api_Node_42.l0 k ks (ks.length : Int) (i : Int)) false := by
  intro d
  induction d with
  | zero =>
    intro i h1 h2
    refine Ev.succ ?_
    simp only [api_Node_42.l0, if_neg (show ¬ ((i : Int) < (ks.length : Int)) by omega)]
    exact Ev.const _
  | succ d ih =>
    intro i h1 h2
    have hi : i < ks.length := by omega
    have hm := ok ks[i] (List.getElem_mem _)
    refine Ev.succ ?_
    simp only [api_Node_42.l0, if_pos (show ((i : Int) < (ks.length : Int)) by omega), if_pos (show (0 : Int) ≤ (i : Int) by omega), rdL_at ks i hi, ix hi (by omega)]
    have hr := right_ev ks[i] hm.1 (by omega)
    rw [hm.2.2] at hr
    refine Ev.bind hr ?_
    simp only [if_true]
    exact ih (i + 1) (by omega) (by omega)
theorem cat1 (ks : List (List S32)) (hl : ks.length ≤ 200) (hf : ks.flatten.length ≤ 200) : ∀ d i (x : List S32), i ≤ ks.length → ks.length - i = d → x.length + (ks.drop i).flatten.length ≤ 200 → Ev (fun k => api_Node_43.l1 k x ks (ks.length : Int) (i : Int)) (x ++ (ks.drop i).flatten) := by
  intro d
  induction d with
  | zero =>
    intro i x h1 h2 h3
    rw [List.drop_eq_nil_of_le (show ks.length ≤ i by omega), List.flatten_nil, List.append_nil]
    refine Ev.succ ?_
    simp only [api_Node_43.l1, if_neg (show ¬ ((i : Int) < (ks.length : Int)) by omega)]
    exact Ev.const _
  | succ d ih =>
    intro i x h1 h2 h3
    have hi : i < ks.length := by omega
    rw [List.drop_eq_getElem_cons hi, List.flatten_cons] at h3 ⊢
    rw [List.length_append] at h3
    refine Ev.succ ?_
    simp only [api_Node_43.l1, if_pos (show ((i : Int) < (ks.length : Int)) by omega), if_pos (show (0 : Int) ≤ (i : Int) by omega), rdL_at ks i hi, ix hi (by omega), if_pos (show x.length + ks[i].length < 1759218604441 by omega)]
    rw [← List.append_assoc]
    exact ih (i + 1) (x ++ ks[i]) (by omega) (by omega) (by rw [List.length_append]; omega)
theorem cat0 (ks : List (List S32)) (hl : ks.length ≤ 200) (hf : ks.flatten.length ≤ 200) : ∀ d i (x : Int), i ≤ ks.length → ks.length - i = d → 0 ≤ x → x + ((ks.drop i).flatten.length : Int) ≤ 200 → Ev (fun k => api_Node_43.l0 k ks x ks (ks.length : Int) (i : Int)) ks.flatten := by
  intro d
  induction d with
  | zero =>
    intro i x h1 h2 h3 h4
    refine Ev.succ ?_
    simp only [api_Node_43.l0, if_neg (show ¬ ((i : Int) < (ks.length : Int)) by omega), api_Node_49.f, if_pos (show 0 ≤ x ∧ x.toNat * 80 ≤ 140737488355328 by omega)]
    refine Ev.bind (Ev.const _) ?_
    have := cat1 ks hl hf ks.length 0 [] (by omega) (by omega) (by simp only [List.length_nil, List.drop_zero]; omega)
    rw [List.nil_append, List.drop_zero] at this
    exact this
  | succ d ih =>
    intro i x h1 h2 h3 h4
    have hi : i < ks.length := by omega
    rw [List.drop_eq_getElem_cons hi, List.flatten_cons, List.length_append] at h4
    have hw : wrap64 (x + (ks[i].length : Int)) = x + (ks[i].length : Int) := w64 (by omega) (by omega)
    refine Ev.succ ?_
    simp only [api_Node_43.l0, if_pos (show ((i : Int) < (ks.length : Int)) by omega), if_pos (show (0 : Int) ≤ (i : Int) by omega), rdL_at ks i hi, ix hi (by omega), hw, if_neg (show ¬ (x + (ks[i].length : Int) < 0) by omega)]
    exact ih (i + 1) _ (by omega) (by omega) (by omega) (by omega)
theorem nest_ev (s : List Int) (ks : List (List S32)) (hl : ks.length ≤ 200) (ok : ∀ l ∈ ks, (∀ n ∈ l, Ok n) ∧ l.length ≤ 200 ∧ rt l = true) (hc : Ev (fun k => shape_Count.f k s) ((ks.length : Int), true))
    (hL : ks.flatten.length + 1 ≤ 200) (hok : ∀ n ∈ ((⟨5, s, [], []⟩ : S32) :: ks.flatten), Ok n) (hf : ∀ n ∈ ((⟨5, s, [], []⟩ : S32) :: ks.flatten), Fits n) (hr : rt ((⟨5, s, [], []⟩ : S32) :: ks.flatten) = true) :
    Ev (fun k => array_Nest.f k s ks) ((⟨5, s, [], []⟩ : S32) :: ks.flatten, true) := by
  simp only [array_Nest.f, api_Node_42.f]
  refine Ev.bind hc ?_
  simp only [if_true]
  refine Ev.bind (wrongs0 ks hl ok ks.length 0 (by omega) (by omega)) ?_
  refine Ev.succ ?_
  simp only [array_Nest.j0, Bool.false_eq_true, if_false, api_Node_43.f]
  refine Ev.bind (Ev.const _) ?_
  refine Ev.bind (cat0 ks hl (by omega) ks.length 0 0 (by omega) (by omega) (by omega) (by simp only [List.drop_zero]; omega)) ?_
  simp only [List.length_cons, List.length_nil, if_pos (show 0 + 1 + ks.flatten.length < 1759218604441 by omega), List.cons_append, List.nil_append]
  rw [copy_big _ (by simp only [List.length_cons]; omega) hf]
  refine Ev.bind (Ev.const _) ?_
  have h1 := right_ev _ hok (by simp only [List.length_cons]; omega)
  rw [hr] at h1
  refine Ev.bind h1 ?_
  simp only [if_true]
  exact Ev.const _
theorem eqints (l : List Int) (hl : l.length ≤ 1099511627776) : ∀ d i, i ≤ l.length → l.length - i = d → Ev (fun k => slices_Equal_int_int.l0 k l l (l.length : Int) (i : Int)) true := by
  intro d
  induction d with
  | zero =>
    intro i h1 h2
    refine Ev.succ ?_
    simp only [slices_Equal_int_int.l0, if_neg (show ¬ ((i : Int) < (l.length : Int)) by omega)]
    exact Ev.const _
  | succ d ih =>
    intro i h1 h2
    have hi : i < l.length := by omega
    refine Ev.succ ?_
    simp only [slices_Equal_int_int.l0, if_pos (show ((i : Int) < (l.length : Int)) by omega), if_pos (show (0 : Int) ≤ (i : Int) by omega), if_true, ix hi hl]
    exact ih (i + 1) (by omega) (by omega)
theorem eqdecs (l : List S41) (hl : l.length ≤ 1099511627776) : ∀ d i, i ≤ l.length → l.length - i = d → Ev (fun k => api_Dec_38.l0 k l l (l.length : Int) (i : Int)) true := by
  intro d
  induction d with
  | zero =>
    intro i h1 h2
    refine Ev.succ ?_
    simp only [api_Dec_38.l0, if_neg (show ¬ ((i : Int) < (l.length : Int)) by omega)]
    exact Ev.const _
  | succ d ih =>
    intro i h1 h2
    have hi : i < l.length := by omega
    refine Ev.succ ?_
    simp only [api_Dec_38.l0, if_pos (show ((i : Int) < (l.length : Int)) by omega), if_pos (show (0 : Int) ≤ (i : Int) by omega), BEq.rfl, Bool.not_true, Bool.or_self, Bool.false_eq_true, if_false, ix hi hl]
    exact ih (i + 1) (by omega) (by omega)
theorem same1 (n : S32) (h : Fits n) : Ev (fun k => array_Same_1.f k n.f0 n.f1 n.f2 n.f3 n.f0 n.f1 n.f2 n.f3) true := by
  unfold Fits at h
  simp only [array_Same_1.f, if_true, slices_Equal_int_int.f, api_Dec_38.f]
  refine Ev.bind (eqints n.f1 (by omega) n.f1.length 0 (by omega) (by omega)) ?_
  simp only [if_true]
  refine Ev.bind (eqints n.f2 (by omega) n.f2.length 0 (by omega) (by omega)) ?_
  simp only [if_true]
  exact Ev.bind (eqdecs n.f3 (by omega) n.f3.length 0 (by omega) (by omega)) (Ev.const _)
theorem same_loop (l : List S32) (hl : l.length ≤ 200) (hf : ∀ n ∈ l, Fits n) : ∀ d i, i ≤ l.length → l.length - i = d → Ev (fun k => api_Node_35.l0 k l l (l.length : Int) (i : Int)) true := by
  intro d
  induction d with
  | zero =>
    intro i h1 h2
    refine Ev.succ ?_
    simp only [api_Node_35.l0, if_neg (show ¬ ((i : Int) < (l.length : Int)) by omega)]
    exact Ev.const _
  | succ d ih =>
    intro i h1 h2
    have hi : i < l.length := by omega
    refine Ev.succ ?_
    simp only [api_Node_35.l0, if_pos (show ((i : Int) < (l.length : Int)) by omega), if_pos (show (0 : Int) ≤ (i : Int) by omega), rdT_at l i hi, ix hi (by omega)]
    refine Ev.bind (same1 l[i] (hf _ (List.getElem_mem _))) ?_
    simp only [if_true]
    exact ih (i + 1) (by omega) (by omega)
theorem same_ev (l : List S32) (hl : l.length ≤ 200) (hf : ∀ n ∈ l, Fits n) : Ev (fun k => array_Same.f k l l) true := by
  simp only [array_Same.f, api_Node_35.f, if_true]
  exact Ev.bind (same_loop l hl hf l.length 0 (by omega) (by omega)) (Ev.const _)
theorem items_wI {l : List S32} (ok : ∀ n ∈ l, Ok n) (hl : l.length ≤ 200) (h : tk l = (l.length : Int)) : Ev (fun k => array_Items.f k l) (wI l) := by
  simp only [array_Items.f]
  refine Ev.bind (walkf_ev l ok (by omega)) ?_
  simp only [if_pos (show (walkS 0 0 [] 0 l).1 = (l.length : Int) from h)]
  exact Ev.const _
theorem depth_wD {l : List S32} (ok : ∀ n ∈ l, Ok n) (hl : l.length ≤ 200) (h : tk l = (l.length : Int)) : Ev (fun k => array_Depth.f k l) (wD l) := by
  simp only [array_Depth.f]
  refine Ev.bind (walkf_ev l ok (by omega)) ?_
  simp only [if_pos (show (walkS 0 0 [] 0 l).1 = (l.length : Int) from h)]
  exact Ev.const _

theorem small_ev : Ev (fun k => decklelaw10_small.f k) true :=
  ⟨200, fun k hk => at_rounds (g := fun k => decklelaw10_small.f k) (fun k => decklelaw10_small.mono k) hk (by decide +kernel)⟩

theorem G_le : ∀ (ks : List (List S32)) (a d : Int), (∀ k ∈ ks, wI k ≤ 301 * (k.length : Int) - 1) → (G a d ks).1 ≤ a + 301 * (ks.flatten.length : Int) - (ks.length : Int) := by
  intro ks
  induction ks with
  | nil => intro a d _; simp only [G, List.flatten_nil, List.length_nil]; omega
  | cons k ks ih =>
    intro a d h
    have h1 := h k List.mem_cons_self
    have h2 := ih (a + wI k) (mx d (wD k)) fun x hx => h x (List.mem_cons_of_mem _ hx)
    simp only [G, List.flatten_cons, List.length_append, List.length_cons]
    omega
theorem flat_len2 : ∀ (ks : List (List S32)), ∀ l ∈ ks, l.length ≤ ks.flatten.length := by
  intro ks
  induction ks with
  | nil => intro l hl; simp at hl
  | cons a ks ih =>
    intro l hl
    rw [List.flatten_cons, List.length_append]
    rcases List.mem_cons.1 hl with rfl | hl
    · omega
    · have := ih l hl; omega
theorem items_few : ∀ (c : Nat) (l : List S32), l.length ≤ c → l.length ≤ 100 → (∀ n ∈ l, Ok n) → (∀ n ∈ l, Fits n) → 1 ≤ l.length → tk l = (l.length : Int) → 0 ≤ wI l ∧ wI l ≤ 301 * (l.length : Int) - 1 ∧ 1 ≤ wD l ∧ wD l ≤ 16 := by
  intro c
  induction c with
  | zero => intro l h1 h2 ok hf h3 ht; omega
  | succ c ih =>
    intro l hc hl ok hf h1 ht
    have hgr := walkS_grows l 0 0 [] 0 (by omega) (by omega) (by have : (walkS 0 0 [] 0 l).1 = (l.length : Int) := ht; rw [this]; omega)
    have hg0 : 0 ≤ wI l := hgr.2.1
    have hg1 : 1 ≤ wD l := by have := hgr.2.2.2.2.1; simp only [List.length_nil] at this; exact Int.le_trans (by omega) this
    have hg2 : wD l ≤ 16 := by
      have := hgr.2.2.2.2.2
      have m := mx_ge 0 16
      exact Int.le_trans this (by omega)
    refine ⟨hg0, ?_, hg1, hg2⟩
    clear hgr hg1 hg2
    cases l with
    | nil => simp at h1
    | cons n r =>
      have hlen : ((n :: r).length : Int) = (r.length : Int) + 1 := by simp only [List.length_cons]; omega
      have hnf : ¬ (itm n < 0 ∨ wrap64 (0 + itm n) > 1048576 ∨ 16 ≤ ([] : List Int).length) := by
        intro g
        unfold tk at ht
        simp only [walkS, if_pos g] at ht
        omega
      have hit : 0 ≤ itm n := Int.not_lt.1 fun g => hnf (.inl g)
      have hit2 := itm_le n
      have hsp : Spec n (itm n) := by
        rcases (itm_said n (ok n List.mem_cons_self)).2 with e | e
        · omega
        · exact e
      have hfn := hf n List.mem_cons_self
      have hw : wrap64 (0 + itm n) = itm n := by
        clear hnf
        rw [Int.zero_add]; exact w64 (by omega) (by omega)
      have hw1 : wrap64 (((([] : List Int).length : Nat) : Int) + 1) = 1 := by
        clear hnf hw
        simp only [List.length_nil]; exact w64 (by omega) (by omega)
      have hm : mx 0 1 = 1 := mx_eq (by omega) (by omega) (.inr rfl)
      have hwalk : walkS 0 0 [] 0 (n :: r) = fin (itm n) 1 (clr (push [] n)) (0 + 1) r := by rw [walkS_fin hnf, hw, hw1, hm]
      clear hnf hw hw1
      by_cases g5 : n.f0 = 5
      · have hp : push [] n = [itm n] := by unfold push; rw [if_pos g5]
        rw [hp] at hwalk
        by_cases hz : itm n = 0
        · rw [hz, clr_cons, if_pos rfl, show clr (decT []) = [] from clr_nil] at hwalk
          have hwalk2 : walkS 0 0 [] 0 (n :: r) = (0 + 1, 0, 1) := hwalk
          have h2 : wI (n :: r) = 0 := congrArg (fun x => x.2.1) hwalk2
          omega
        · obtain ⟨m, hm1⟩ : ∃ m : Nat, itm n = ((m + 1 : Nat) : Int) := ⟨(itm n).toNat - 1, by omega⟩
          rw [clr_cons, if_neg hz, fin_cons (List.cons_ne_nil _ _), hm1] at hwalk
          have okr : ∀ y ∈ r, Ok y := fun y hy => ok y (List.mem_cons_of_mem _ hy)
          have hfr : ∀ y ∈ r, Fits y := fun y hy => hf y (List.mem_cons_of_mem _ hy)
          have hwk : walkS ((m + 1 : Nat) : Int) (1 + 0) [((m + 1 : Nat) : Int)] 1 r = (1 + (r.length : Int), wI (n :: r), wD (n :: r)) := by
            have e1 : walkS 0 0 [] 0 (n :: r) = (tk (n :: r), wI (n :: r), wD (n :: r)) := rfl
            rw [e1, ht, hlen] at hwalk
            rw [Int.add_zero, Int.add_comm 1 (r.length : Int)]
            exact hwalk.symm
          obtain ⟨ks, q1, q2, q3, q4, q5, q6, q7⟩ := kids_walk _ _ m r ((m + 1 : Nat) : Int) 0 1 [] (by omega) okr hfr (by omega) (by omega) (by omega) (by omega) (by omega) (by simp only [List.length_nil]; omega) hwk
          clear hwk hwalk q7
          have hk : ∀ k ∈ ks, wI k ≤ 301 * (k.length : Int) - 1 := by
            intro k hk
            have hkl := flat_len2 ks k hk
            rw [q2] at hkl
            have ha := q3 k hk
            have hmem : ∀ y ∈ k, y ∈ r := fun y hy => by rw [← q2]; exact List.mem_flatten.2 ⟨k, hk, hy⟩
            exact (ih k (by omega) (by omega) (fun y hy => okr y (hmem y hy)) (fun y hy => hfr y (hmem y hy)) ha.1 ha.2.1).2.1
          have hG := G_le ks ((m + 1 : Nat) : Int) 0 hk
          rw [← q4, q2, q1] at hG
          clear q3 hk ih ok hf okr hfr hsp
          omega
      · have hp : push [] n = [] := by unfold push; rw [if_neg g5]; rfl
        rw [hp] at hwalk
        have hwalk2 : walkS 0 0 [] 0 (n :: r) = (0 + 1, itm n, 1) := by rw [hwalk, clr_nil]; rfl
        have h2 : wI (n :: r) = itm n := congrArg (fun x => x.2.1) hwalk2
        have h3 := hsp.2.2.2.2 g5
        unfold Fits at hfn
        clear hsp hwalk hwalk2 ih ok hf
        omega
/-- An array laid into one that holds it alone. -/
theorem box_walk (l : List S32) (h1 : 1 ≤ l.length) (ht : tk l = (l.length : Int)) (h0 : 0 ≤ wI l) (hI : wI l ≤ 40000) (hD : 1 ≤ wD l) :
    (wD l ≤ 15 → walkS 0 0 [] 0 (box :: l) = (((box :: l).length : Int), 1 + wI l, 1 + wD l)) ∧ (15 < wD l → walkS 0 0 [] 0 (box :: l) = (0, 0, 0)) := by
  have hnf : ¬ (itm box < 0 ∨ wrap64 (0 + itm box) > 1048576 ∨ 16 ≤ ([] : List Int).length) := by
    rw [itm_box, w64 (by omega) (by omega)]
    simp only [List.length_nil]; omega
  have hlen : ((box :: l).length : Int) = (l.length : Int) + 1 := by simp only [List.length_cons]; omega
  have hw1 : wrap64 (((([] : List Int).length : Nat) : Int) + 1) = 1 := by
    clear hnf
    simp only [List.length_nil]; exact w64 (by omega) (by omega)
  have hw2 : wrap64 (0 + 1) = 1 := by
    clear hnf hw1
    exact w64 (by omega) (by omega)
  have hm : mx 0 1 = 1 := mx_eq (by omega) (by omega) (.inr rfl)
  have hp : push [] box = [1] := by unfold push; rw [if_pos (show box.f0 = 5 from rfl), itm_box]
  have hc : clr [1] = [1] := by rw [clr_cons, if_neg (by omega)]
  have hwalk : walkS 0 0 [] 0 (box :: l) = walkS 1 1 [1] (0 + 1) l := by
    rw [walkS_fin hnf, hw1, hm, hp, hc, itm_box, hw2]; rfl
  clear hnf hw1 hw2
  rw [hwalk]
  have e1 : walkS 0 0 [] 0 l = (0 + (l.length : Int), 0 + wI l, wD l) := by
    rw [Int.zero_add, Int.zero_add, ← ht]; rfl
  have hD0 : mx 1 ((([1] : List Int).length : Int) + 0) = 1 := mx_eq (by omega) (by simp only [List.length_cons, List.length_nil]; omega) (.inl rfl)
  have hD1 : mx 1 ((([1] : List Int).length : Int) + wD l) = 1 + wD l := mx_eq (by omega) (by simp only [List.length_cons, List.length_nil]; omega) (by right; simp only [List.length_cons, List.length_nil]; omega)
  have hlift := lift_walk l [] [1] 1 0 (wI l) (wD l) 1 0 (0 + 1) 0 (l.length : Int) (List.cons_ne_nil _ _) (by omega) (by omega) (by omega) (by omega) (by simp only [List.length_cons, List.length_nil]; omega) (by omega) (by omega) (by omega) (by omega) e1
  rw [hD0, hD1] at hlift
  have hcl : clr (decT [1]) = [] := by
    have hd1 : dec1 1 = 0 := by unfold dec1; rw [w64 (by omega) (by omega)]; omega
    show clr [dec1 1] = []
    rw [hd1, clr_cons, if_pos rfl]
    exact clr_nil
  rw [hcl] at hlift
  simp only [List.length_cons, List.length_nil, List.nil_append] at hlift
  refine ⟨fun h => ?_, fun h => hlift.2 (by omega) (by omega)⟩
  rw [hlift.1 (by omega)]
  simp only [fin, Prod.mk.injEq, hlen, and_true]
  omega
theorem box_nest (l : List S32) (ok : ∀ n ∈ l, Ok n) (hf : ∀ n ∈ l, Fits n) (hl : l.length ≤ 150) (h1 : 1 ≤ l.length) (ht : tk l = (l.length : Int)) :
    Ev (fun k => array_Nest.f k [] [l]) (if rt (box :: l) = true then (box :: l, true) else ([], false)) := by
  have hrt : rt l = true := by
    unfold rt
    rw [if_pos (by omega), ht]
    exact BEq.rfl
  have hs : Spec box (itm box) := by
    rcases (itm_said box ok_box).2 with e | e
    · rw [itm_box] at e; omega
    · exact e
  rw [itm_box] at hs
  have hc : Ev (fun k => shape_Count.f k []) (1, true) := hs.1
  have hfl : [l].flatten = l := by simp
  simp only [array_Nest.f, api_Node_42.f]
  refine Ev.bind hc ?_
  simp only [if_true, List.length_cons, List.length_nil, if_pos (show (1 : Int) = ((0 + 1 : Nat) : Int) by omega)]
  refine Ev.bind (wrongs0 [l] (by simp) (fun x hx => by obtain rfl := List.mem_singleton.1 hx; exact ⟨ok, by omega, hrt⟩) [l].length 0 (by omega) (by omega)) ?_
  refine Ev.succ ?_
  simp only [array_Nest.j0, Bool.false_eq_true, if_false, api_Node_43.f]
  refine Ev.bind (Ev.const _) ?_
  refine Ev.bind (cat0 [l] (by simp) (by rw [hfl]; omega) [l].length 0 0 (by omega) (by omega) (by omega) (by rw [List.drop_zero, hfl]; omega)) ?_
  rw [hfl]
  simp only [List.length_cons, List.length_nil, if_pos (show 0 + 1 + l.length < 1759218604441 by omega), List.cons_append, List.nil_append]
  have hb : (⟨5, [], [], []⟩ : S32) :: l = box :: l := rfl
  rw [hb, copy_big _ (by simp only [List.length_cons]; omega) (mem_box fits_box hf)]
  refine Ev.bind (Ev.const _) ?_
  refine Ev.bind (right_ev (box :: l) (mem_box ok_box ok) (by simp only [List.length_cons]; omega)) ?_
  by_cases e : rt (box :: l) = true
  · simp only [if_pos e]; exact Ev.const _
  · simp only [if_neg e]; exact Ev.const _
theorem box_vals (l : List S32) (h1 : 1 ≤ l.length) (ht : tk l = (l.length : Int)) (h0 : 0 ≤ wI l) (hI : wI l ≤ 40000) (hD : 1 ≤ wD l) :
    (wD l ≤ 15 → tk (box :: l) = ((box :: l).length : Int) ∧ wI (box :: l) = 1 + wI l ∧ wD (box :: l) = 1 + wD l) ∧ (15 < wD l → tk (box :: l) = 0) := by
  have h := box_walk l h1 ht h0 hI hD
  exact ⟨fun h2 => ⟨congrArg Prod.fst (h.1 h2), congrArg (fun x => x.2.1) (h.1 h2), congrArg (fun x => x.2.2) (h.1 h2)⟩, fun h2 => congrArg Prod.fst (h.2 h2)⟩
attribute [local irreducible] wI wD tk
theorem deep_ar (c : Nat) (x i n w : Int) (hc : (16 - x).toNat ≤ c + 1) (hd : ¬ x = 16) (hD2 : x ≤ 16) (hi1 : i + (16 - x) ≤ 16) (hl : n + (16 - x) ≤ 130) (h0 : 0 ≤ w) (hI : w + (16 - x) ≤ 40000) (hD : 1 ≤ x) (hi0 : 0 ≤ i) :
    (16 - (1 + x)).toNat ≤ c ∧ 0 ≤ i + 1 ∧ i + 1 + (16 - (1 + x)) ≤ 16 ∧ n + 1 + (16 - (1 + x)) ≤ 130 ∧ 0 ≤ 1 + w ∧ 1 + w + (16 - (1 + x)) ≤ 40000 ∧ 1 ≤ 1 + x ∧ 1 + x ≤ 16 := by omega
theorem deep_len (n : Nat) (x : Int) (h : (n : Int) + (16 - x) ≤ 130) (h2 : x ≤ 16) : n + 1 ≤ 200 := by omega
theorem deep_loop : ∀ (c : Nat) (l : List S32) (i : Int), (16 - wD l).toNat ≤ c → 0 ≤ i → i + (16 - wD l) ≤ 16 → (∀ n ∈ l, Ok n) → (∀ n ∈ l, Fits n) → (l.length : Int) + (16 - wD l) ≤ 130 → 1 ≤ l.length → tk l = (l.length : Int) → 0 ≤ wI l → wI l + (16 - wD l) ≤ 40000 → 1 ≤ wD l → wD l ≤ 16 →
    Ev (fun k => decklelaw10_ArrayDeep.l0 k l true (wD l) i) true := by
  intro c
  induction c with
  | zero =>
    intro l i hc hi0 hi1 ok hf hl h1 ht h0 hI hD hD2
    have hd : wD l = 16 := by omega
    have ht0 := (box_vals l h1 ht h0 (by omega) hD).2 (by omega)
    have hrt : ¬ rt (box :: l) = true := by
      unfold rt
      rw [if_pos (by simp only [List.length_cons]; omega), ht0]
      intro h
      have := eq_of_beq h
      simp only [List.length_cons] at this
      omega
    have hn := box_nest l ok hf (by omega) h1 ht
    rw [if_neg hrt] at hn
    refine Ev.succ ?_
    simp only [decklelaw10_ArrayDeep.l0, if_pos (show i < 20 by omega)]
    refine Ev.bind hn ?_
    simp only [hd, decide_eq_false (show ¬ ((16 : Int) < 16) by omega), bne_self_eq_false, Bool.false_eq_true, if_false, if_true, List.length_nil]
    exact Ev.const _
  | succ c ih =>
    intro l i hc hi0 hi1 ok hf hl h1 ht h0 hI hD hD2
    by_cases hd : wD l = 16
    · exact ih l i (by omega) hi0 hi1 ok hf hl h1 ht h0 hI hD hD2
    · obtain ⟨ht0, hI0, hD0⟩ := (box_vals l h1 ht h0 (by omega) hD).1 (by omega)
      have hlen : ((box :: l).length : Int) = (l.length : Int) + 1 := by simp only [List.length_cons]; omega
      have hrt : rt (box :: l) = true := by
        unfold rt
        rw [if_pos (by omega), ht0]
        exact BEq.rfl
      have okb : ∀ n ∈ box :: l, Ok n := (mem_box ok_box ok)
      have hfb : ∀ n ∈ box :: l, Fits n := (mem_box fits_box hf)
      have hn := box_nest l ok hf (by omega) h1 ht
      rw [if_pos hrt] at hn
      have hw1 : wrap64 (wD l + 1) = 1 + wD l := by rw [w64 (by omega) (by omega)]; omega
      have hw2 : wrap64 (i + 1) = i + 1 := w64 (by omega) (by omega)
      have hw3 : wrap64 ((l.length : Int) + 1) = (l.length : Int) + 1 := w64 (by omega) (by omega)
      obtain ⟨z1, z0, z2, z3, z4, z5, z6, z7⟩ := deep_ar c (wD l) i (l.length : Int) (wI l) hc hd hD2 hi1 hl h0 hI hD hi0
      rw [← hD0] at z1 z2 z3 z5 z6 z7
      rw [← hlen] at z3
      rw [← hI0] at z4 z5
      have z8 : 1 ≤ (box :: l).length := by rw [List.length_cons]; exact Nat.le_add_left _ _
      have hih := ih (box :: l) (i + 1) z1 z0 z2 okb hfb z3 z8 ht0 z4 z5 z6 z7
      refine Ev.succ ?_
      simp only [decklelaw10_ArrayDeep.l0, if_pos (show i < 20 by omega)]
      refine Ev.bind hn ?_
      simp only [decide_eq_true (show wD l < 16 by omega), bne_self_eq_false, Bool.false_eq_true, if_false, if_true, hw1, hw2, hw3]
      refine Ev.bind (depth_wD okb (by rw [List.length_cons]; exact deep_len l.length (wD l) hl hD2) ht0) ?_
      rw [hD0] at hih ⊢
      simp only [if_true, if_pos hlen]
      exact hih
theorem ok_of_wf {a : Int} (h : (Lit.int .i64 a).wf = true) : -9223372036854775808 ≤ a ∧ a ≤ 9223372036854775807 := by
  have e0 : IntKind.i64.min = -9223372036854775808 := by decide
  have e1 : IntKind.i64.max = 9223372036854775807 := by decide
  simp only [Lit.wf, Bool.and_eq_true, decide_eq_true_eq, e0, e1] at h
  exact h
theorem ArrayDeep (l0 : List S32) (w0 : ∀ n ∈ l0, ∀ y ∈ n.f3, (Lit.int .i64 y.f0).wf = true ∧ (Lit.int .i64 y.f1).wf = true) : ∃ k, decklelaw10_ArrayDeep.f k l0 = some true := by
  have ok : ∀ n ∈ l0, Ok n := fun n hn y hy => ok_of_wf (w0 n hn y hy).2
  obtain ⟨b, e, f⟩ := few_ev l0
  have out : Ev (fun k => decklelaw10_ArrayDeep.j0 k l0 true true) true := by
    refine Ev.succ ?_
    simp only [decklelaw10_ArrayDeep.j0, if_true]
    exact Ev.const _
  have main : Ev (fun k => decklelaw10_ArrayDeep.f k l0) true := by
    simp only [decklelaw10_ArrayDeep.f]
    refine Ev.bind small_ev (Ev.bind e ?_)
    cases b with
    | false =>
      simp only [Bool.false_eq_true, if_false]
      exact out
    | true =>
      obtain ⟨hl, hf⟩ := f rfl
      simp only [if_true]
      refine Ev.bind (right_ev l0 ok (by omega)) ?_
      cases h : rt l0 with
      | false => exact out
      | true =>
        have h1 : 1 ≤ l0.length := by
          unfold rt at h
          cases l0 with
          | nil => simp at h
          | cons _ _ => simp
        have ht : tk l0 = (l0.length : Int) := by
          unfold rt at h
          rw [if_pos (by omega)] at h
          exact eq_of_beq h
        obtain ⟨q1, q2, q3, q4⟩ := items_few l0.length l0 (Nat.le_refl _) hl ok hf h1 ht
        refine Ev.succ ?_
        simp only [decklelaw10_ArrayDeep.j0, Bool.not_true, Bool.false_eq_true, if_false]
        refine Ev.bind (depth_wD ok (by omega) ht) ?_
        exact deep_loop 16 l0 0 (by omega) (by omega) (by omega) ok hf (by omega) h1 ht q1 (by omega) q3 q4
  exact main.get

end Go.Proofs.Ytgbmbcippldhnaa.Pure
